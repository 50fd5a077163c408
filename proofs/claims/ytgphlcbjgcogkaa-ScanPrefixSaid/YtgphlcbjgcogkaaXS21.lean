/- What functions of the program compute: each is what its Lean function says. -/
import Derived.Test.YtgphlcbjgcogkaaXS16
import Derived.Test.YtgphlcbjgcogkaaXS17
import Derived.Test.YtgphlcbjgcogkaaXS4
import Derived.Test.YtgphlcbjgcogkaaBS
import Derived.Test.YtgphlcbjgcogkaaXSH
namespace Go.AX
open Go.Proofs Go.Sort
set_option linter.unusedVariables false
set_option maxRecDepth 100000
set_option maxHeartbeats 100000000
set_option linter.unusedSimpArgs false
set_option autoImplicit true
set_option relaxedAutoImplicit true
variable {Ze : ZeT} {Zn : ZnT} {Za : ZaT} {Zb : ZbT} {Zm : ZmT}

theorem s26 (hZ : ZS Ze Zn Za Zb Zm)  (h : m_rec_Read x0 = some (z0, z1)) : Spec Try.prog 26 [.agg [.big 64 (Za .u8 _ x0)]] ⟨.tup [.agg [.d (.int .i64 z0.Kind), .d (.int .i64 z0.Epoch), .d (.int .i64 z0.Seq), .d (.int .i64 z0.Block), .d (.int .i64 z0.Count), .big 32 (Za .u8 _ z0.Data)], .d (.int .i64 z1)], [], 0, True⟩ := by
  refine spec_b [] Try.func26 rfl rfl rfl fun J P hJ hP => ?_
  dsimp only [m_rec_Read] at h
  cbv
  obtain ⟨z32u8, ez32u8, h⟩ := letv h; have rz32u8 := zrep hJ hZ 32 .u8 ez32u8
  try rw [rz32u8]
  refine st_val hJ ?_; cbv
  obtain ⟨b3, h2, h⟩ := bnd h
  refine snap_by hP (specA hZ [] (s48 hZ h2)) hJ (by cbv) rfl ⟨trivial, trivial⟩ ?_; cbv
  revert h; refine st_not hJ fun b4 _ h => ?_; cbv
  cases b4 with
  | true =>
    replace h := cnd_t h; cbv
    try rw [rz32u8]
    cases h
    exact ⟨_, .refl _, [], _, _, [], _, rfl, rfl, rfl, rfl, rfl, rfl⟩
  | false =>
    replace h := cnd_f h; cbv
    revert h; refine zpx hJ fun v5 k6 hy7 ho8 h => ?_; cbv
    refine zlA hJ hZ hy7 ho8 (fun hJ => by subst hJ; simp [stdJ, std]) ?_; cbv
    revert h; refine zw hJ fun v9 h => ?_; cbv
    obtain ⟨v11, h10, h⟩ := bnd h
    refine snap_by hP (s49 hZ h10) hJ (by cbv) rfl ⟨trivial, trivial⟩ ?_; cbv
    obtain ⟨v13, h12, h⟩ := bnd h
    refine snap_by hP (s49 hZ h12) hJ (by cbv) rfl ⟨trivial, trivial⟩ ?_; cbv
    obtain ⟨v15, h14, h⟩ := bnd h
    refine snap_by hP (s49 hZ h14) hJ (by cbv) rfl ⟨trivial, trivial⟩ ?_; cbv
    obtain ⟨v17, h16, h⟩ := bnd h
    refine snap_by hP (s49 hZ h16) hJ (by cbv) rfl ⟨trivial, trivial⟩ ?_; cbv
    try rw [rz32u8]
    try rw [rz32u8]
    refine ⟨fun _ => by kernel_rfl, ?_⟩; cbv
    refine st_val hJ ?_; cbv
    refine st_val hJ ?_; cbv
    obtain ⟨a18, ha19, h⟩ := letv h; obtain ⟨v20, hv20, h⟩ := letv h
    obtain ⟨e211, e212⟩ := zcpP hJ hZ (off := 0) (len := 32) (by decide) (srcP hJ (isA hZ .u8 x0) 25 39) (lenP x0 (by decide)) ha19 hv20
    rw [e211, e212]; refine zok (by first | exact trivial | exact ⟨trivial, by subst hJ; exact Nat.le_refl _⟩ | (subst hJ; exact Nat.le_refl _) | (subst hJ; decide) | exact ⟨trivial, by subst hJ; decide⟩) ?_
    clear e211 e212 hv20 ha19; cbv
    refine ⟨fun _ => by kernel_rfl, ?_⟩; cbv
    obtain ⟨b23, h22, h⟩ := bnd h
    refine call_by hP (s50 hZ h22) hJ rfl rfl ?_; cbv
    revert h; refine st_not hJ fun b24 _ h => ?_; cbv
    cases b24 with
    | true =>
      replace h := cnd_t h; cbv
      refine ⟨fun _ => by kernel_rfl, ?_⟩; cbv
      try rw [rz32u8]
      cases h
      exact ⟨_, .refl _, [], _, _, [], _, rfl, rfl, rfl, rfl, rfl, rfl⟩
    | false =>
      replace h := cnd_f h; cbv
      obtain ⟨a26, h25, h⟩ := bnd h
      refine call_by hP (s51 hZ h25) hJ rfl rfl ?_; cbv
      revert h; refine st_eqL hJ (neg := true) (e := !((a26.l == x0.l) && true)) (show eqLs [.big 64 .u8] [.big 64 (Za .u8 _ a26)] [.big 64 (Za .u8 _ x0)] _ from ⟨rfl, rfl, _, _, _, ((isA hZ .u8 a26)).trans (encI_map _ _), ((isA hZ .u8 x0)).trans (encI_map _ _), Ar.h _, Ar.h _, rfl, rfl⟩) rfl fun b27 _ h => ?_; cbv
      refine ⟨fun _ => by kernel_rfl, ?_⟩; cbv
      cases b27 with
      | true =>
        replace h := cnd_t h; cbv
        try rw [rz32u8]
        cases h
        exact ⟨_, .refl _, [], _, _, [], _, rfl, rfl, rfl, rfl, rfl, rfl⟩
      | false =>
        replace h := cnd_f h; cbv
        cases h
        exact ⟨_, .refl _, [], _, _, [], _, rfl, rfl, rfl, rfl, rfl, rfl⟩
theorem srtC_cmp (a b : Int) : m_cmp_Compare a b = some (cmp3 a b) := by
  unfold m_cmp_Compare m_cmp_isNaN cmp3
  simp only [let_eq, bnd_some, cne_eq, ne_eq, not_true, decide_false, cond_false, clt_eq, cgt_eq]
  by_cases h : a < b
  · simp [h]
  · by_cases h2 : b < a <;> simp [h, h2]
theorem srtC_or (a b : Int) : m_cmp_Or [a, b] = some (if a = 0 then b else a) := by
  unfold m_cmp_Or loop
  obtain ⟨N, hN⟩ : ∃ N, FUEL = N + 1 + 1 + 1 := ⟨1099511627773, rfl⟩
  rw [hN]
  clear hN
  have e0 : at? [a, b] 0 = some a := rfl
  have e1 : at? [a, b] 1 = some b := rfl
  have a1 : iadd 0 1 = 1 := rfl
  have a2 : iadd 1 1 = 2 := rfl
  have l0 : ln [a, b] = 2 := rfl
  rw [l0]
  by_cases ha : a = 0
  · subst ha
    by_cases hb : b = 0
    · subst hb; simp [loopN, e0, e1, a1, a2]
    · simp [loopN, e0, e1, a1, hb]
  · simp [loopN, e0, ha]
theorem srtF_fn (x y : TFound) : m_scan_All_1 x y = some (cmp2 (fun f : TFound => f.Rec.Seq) (fun f : TFound => f.Place) x y) := by
  unfold m_scan_All_1
  simp only [srtC_cmp, srtC_or, bnd_some]
  rfl
theorem srtF_pl (x : TFound) : ∀ d ∈ eFound x, plnD d = true := by
  intro d hd
  simp only [eFound, encL, eI, List.mem_append, List.mem_cons, List.not_mem_nil, or_false, List.mem_flatMap] at hd
  rcases hd with (rfl | rfl | rfl | rfl | rfl | rfl) | ⟨a, _, rfl⟩ <;> rfl
theorem srtF_rep {E : Emb} (p k e q b c : Int) (a : Ar 32) : repV E (.agg [.d (.int .i64 p), .d (.int .i64 k), .d (.int .i64 e), .d (.int .i64 q), .d (.int .i64 b), .d (.int .i64 c), .big 32 (encL (eI .u8) a.l)]) (.agg (keyL eFound ⟨p, ⟨k, e, q, b, c, a⟩⟩).toArray) := by
  have h0 : eFound ⟨p, ⟨k, e, q, b, c, a⟩⟩ = .int .i64 p :: .int .i64 k :: .int .i64 e :: .int .i64 q :: .int .i64 b :: .int .i64 c :: (encL (eI .u8) a.l ++ []) := by simp [eFound]
  have h1 := srtF_pl ⟨p, ⟨k, e, q, b, c, a⟩⟩
  simp only [repV]
  refine ⟨_, rfl, ?_⟩
  unfold keyL
  rw [h0] at h1 ⊢
  exact mat_repC (ls := [.int .i64, .int .i64, .int .i64, .int .i64, .int .i64, .int .i64, .big 32 .u8]) (.int (.int (.int (.int (.int (.int (.big ⟨eA_len _ _, by decide⟩ .nil))))))) h1
theorem srtF_clos (x y : TFound) (W : World) : Calls Try.prog 29 #[.agg (keyL eFound x).toArray, .agg (keyL eFound y).toArray] W fun e w' => e = .returned (.int .i64 (cmp2 (fun f : TFound => f.Rec.Seq) (fun f : TFound => f.Place) x y)) ∧ ∃ q os', w' = grow (W.drewN q) os' := by
  have h := srtF_fn x y
  obtain ⟨p1, ⟨k1, e1, q1, b1, c1, a1⟩⟩ := x
  obtain ⟨p2, ⟨k2, e2, q2, b2, c2, a2⟩⟩ := y
  exact spec_closed (s29 zstd h) _ ⟨_, _, rfl, srtF_rep _ _ _ _ _ _ _, _, _, rfl, srtF_rep _ _ _ _ _ _ _, rfl⟩ W
theorem srt28 {l l' : List TFound} {c c' : List D} {n n' : Nat} (hl : IsL eFound c n l) (hl' : IsL eFound c' n' l') (h : srt2? (fun f : TFound => f.Rec.Seq) (fun f : TFound => f.Place) l = some l') : SpecM Try.prog 28 1 [(0, .row c 38 33)] [.own 0 n 38, .fn 29 []] ⟨.tup [], [(0, .row c' 38 33)], 0, True⟩ := by
  unfold srt2? at h
  split at h
  case isFalse => cases h
  rename_i hc
  obtain ⟨hd, hn⟩ := hc
  obtain rfl := Option.some.inj h
  obtain ⟨rfl, rfl⟩ := hl
  obtain ⟨rfl, rfl⟩ := hl'
  refine specM_sort ⟨_, Try.func28, rfl, rfl⟩ (by decide) eFound eFound_len (fun x d hd => srtF_pl x d hd) (cmp2 (fun f : TFound => f.Rec.Seq) (fun f : TFound => f.Place)) (fun p cap w => ?_) (fun S _ v blk cap d w hT hH hblk hsz => ?_) l (by omega) (cmp2_dist hd) 33
  · exact AnyF.slices_SortFunc_none (P := Try.prog) (ρ := Try.sort28_ren) Try.sort28 p cap _ w
  · have eg : ∀ args w, (callFunc 29 args).run Try.prog w = .ok (.enter 29 args) w := enters_of Try.func29 (by kernel_rfl) rfl
    have hcon := AnyQ.slices_SortFunc_total Try.sort28 38 Try.isAgg33 Try.sizeOf33 (fun x : S => keyL eFound (v x)) (fun x => by unfold keyL; rw [List.length_map, eFound_len]) (fun x u hu => by
      obtain ⟨d, hd, rfl⟩ := List.mem_map.1 hu
      exact plnD_one (srtF_pl _ d hd)) (fun x y : S => cmp2 (fun f : TFound => f.Rec.Seq) (fun f : TFound => f.Place) (v x) (v y)) (swo2 _ _ v) 29 #[] blk 0 cap d w eg (fun _ _ _ _ x y => srtF_clos (v x) (v y) _) hH hblk hsz hT
    exact hcon
theorem s12 (hZ : ZS Ze Zn Za Zb Zm)  (h : m_ref14_Little x0 = some z0) : Spec Try.prog 12 [.agg [.d (.int .i64 x0.Conv), .d (.int .i64 x0.Soft), .d (.int .i64 x0.Seq), .d (.int .i64 x0.Size), .d (.int .i64 x0.Open)]] ⟨.d (.bool z0), [], 0, True⟩ := by
  refine spec_b [] Try.func12 rfl rfl rfl fun J P hJ hP => ?_
  dsimp only [m_ref14_Little] at h
  cbv
  obtain ⟨b3, h2, h⟩ := bnd h
  refine call_by hP (s20 hZ h2) hJ rfl rfl ?_; cbv
  cases b3 with
  | true =>
    replace h := cnd_t h; cbv
    revert h; refine zb hJ fun v4 h => ?_; cbv
    revert h; refine zc hJ fun b5 h => ?_; cbv
    cases b5 with
    | true =>
      replace h := cnd_t h; cbv
      revert h; refine zc hJ fun b6 h => ?_; cbv
      cases b6 with
      | true =>
        replace h := cnd_t h; cbv
        revert h; refine zc hJ fun b7 h => ?_; cbv
        cases h
        exact ⟨_, .refl _, [], _, _, [], _, rfl, rfl, rfl, rfl, rfl, rfl⟩
      | false =>
        replace h := cnd_f h; cbv
        cases h
        exact ⟨_, .refl _, [], _, _, [], _, rfl, rfl, rfl, rfl, rfl, rfl⟩
    | false =>
      replace h := cnd_f h; cbv
      cases h
      exact ⟨_, .refl _, [], _, _, [], _, rfl, rfl, rfl, rfl, rfl, rfl⟩
  | false =>
    replace h := cnd_f h; cbv
    cases h
    exact ⟨_, .refl _, [], _, _, [], _, rfl, rfl, rfl, rfl, rfl, rfl⟩
end Go.AX
