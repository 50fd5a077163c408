/- What functions of the program compute: each is what its Lean function says. -/
import Derived.Test.YthecmjmlkoomiaaLM
import Derived.Test.YthecmjmlkoomiaaBS
import Derived.Test.YthecmjmlkoomiaaLSH
namespace Go.AX
open Go.Proofs Go.Sort
set_option autoImplicit false
set_option linter.unusedVariables false
set_option maxRecDepth 100000
set_option maxHeartbeats 100000000
set_option linter.unusedSimpArgs false

theorem srtZ_dist {l : List TAt} {z : Int} (h : ∀ x ∈ l, x.Zone = z) : ∀ x ∈ l, ∀ y ∈ l, ¬ cmp3 x.Off y.Off < 0 → ¬ cmp3 y.Off x.Off < 0 → x = y := by
  intro x hx y hy h1 h2
  rw [cmp3_lt] at h1 h2
  have e1 := h x hx
  have e2 := h y hy
  obtain ⟨a, b⟩ := x
  obtain ⟨c, d⟩ := y
  simp only at e1 e2 h1 h2
  simp only [TAt.mk.injEq]
  omega
theorem srtZ_eq {l m : List TAt} (hp : l.Perm m) (ha : ∀ x ∈ l, ∀ y ∈ l, ¬ cmp3 x.Off y.Off < 0 → ¬ cmp3 y.Off x.Off < 0 → x = y) : srt (fun a b : TAt => cmp3 a.Off b.Off) l = srt (fun a b : TAt => cmp3 a.Off b.Off) m :=
  srt_perm (fun x y z h1 h2 => by rw [cmp3_lt] at *; omega) (fun x y => by rw [cmp3_lt, cmp3_lt]; omega) hp ha
theorem cmp3_lib (a b : Int) : Lib.compareInt a b = cmp3 a b := by
  unfold Lib.compareInt cmp3; rfl
theorem closZ (x y : TAt) (W : World) : Calls Try.prog 74 #[.agg (keyL eAt x).toArray, .agg (keyL eAt y).toArray] W fun e w' => e = .returned (.int .i64 (cmp3 x.Off y.Off)) ∧ ∃ q os', w' = grow (W.drewN q) os' := by
  have hcon := fun W' => AnyG.cmp_Compare_int Try.cmp75 x.Off y.Off W'
  change ∀ W', Calls Try.prog 75 _ _ _ at hcon
  rw [cmp3_lib] at hcon
  generalize cmp3 x.Off y.Off = r at hcon ⊢
  obtain ⟨a, b⟩ := x
  obtain ⟨c, d⟩ := y
  show Calls Try.prog 74 #[.agg #[.int .i64 a, .int .i64 b], .agg #[.int .i64 c, .int .i64 d]] W _
  go_enter Try.func74, Try.ntmps74
  go_wp2_with (go_at_call 75; refine (hcon _).mono ?_; rintro e w' ⟨rfl, rfl⟩)
  go_ret
  exact ⟨rfl, 0, _, by rw [alloc_eq_grow, alloc_eq_grow, grow_grow]; rfl⟩
theorem swoZ {S : Type} (v : S → TAt) : SWO (ltOf fun x y : S => cmp3 (v x).Off (v y).Off) where
  irrefl x := by unfold ltOf; simp [cmp3_lt]
  trans x y z h1 h2 := by unfold ltOf at *; simp [cmp3_lt] at *; omega
  ntrans x y z h1 h2 := by unfold ltOf at *; simp [cmp3_lt] at *; omega
theorem srt73 {l l' : List TAt} {c c' : List D} {n n' : Nat} (hl : IsL eAt c n l) (hl' : IsL eAt c' n' l') (he : l' = srt (fun a b : TAt => cmp3 a.Off b.Off) l) (hd : ∀ x ∈ l, ∀ y ∈ l, ¬ cmp3 x.Off y.Off < 0 → ¬ cmp3 y.Off x.Off < 0 → x = y) (hn : l.length ≤ 1000000) : SpecM Try.prog 73 1 [(0, .row c 2 40)] [.own 0 n 2, .fn 74 []] ⟨.tup [], [(0, .row c' 2 40)], 0, True⟩ := by
  obtain ⟨rfl, rfl⟩ := hl
  obtain ⟨rfl, rfl⟩ := hl'
  subst he
  refine specM_sort ⟨_, Try.func73, rfl, rfl⟩ (by decide) eAt eAt_len (fun x d hd => ?_) (fun a b : TAt => cmp3 a.Off b.Off) (fun p cap w => ?_) (fun S _ v blk cap d w hT hH hblk hsz => ?_) l (by omega) hd 40
  · simp only [eAt, List.mem_cons, List.not_mem_nil, or_false] at hd
    rcases hd with rfl | rfl <;> rfl
  · exact AnyF.slices_SortFunc_none (P := Try.prog) (ρ := Try.sort73_ren) Try.sort73 p cap _ w
  · have eg : ∀ args w, (callFunc 74 args).run Try.prog w = .ok (.enter 74 args) w := enters_of Try.func74 (by kernel_rfl) rfl
    have hcon := AnyQ.slices_SortFunc_total Try.sort73 2 Try.isAgg40 Try.sizeOf40 (fun x : S => keyL eAt (v x)) (fun x => rfl) (fun x u hu => by
      simp only [keyL, eAt, List.map_cons, List.map_nil, List.mem_cons, List.not_mem_nil, or_false] at hu
      rcases hu with rfl | rfl <;> rfl) (fun x y : S => cmp3 (v x).Off (v y).Off) (swoZ v) 74 #[] blk 0 cap d w eg (fun _ _ _ _ x y => closZ (v x) (v y) _) hH hblk hsz hT
    exact hcon
theorem s97 {v1 : Int} {v2 : Int} {v3 : Int} {v4 : Int} {v5 : Int}  {v6 : Int}  (h : m_ref03_Blocks (TGeom.mk v1 v2 v3 v4 v5) = some v6) : Spec Try.prog 97 [.agg [.d (.int .i64 v1), .d (.int .i64 v2), .d (.int .i64 v3), .d (.int .i64 v4), .d (.int .i64 v5)]] ⟨.d (.int .i64 v6), [], 0, True⟩ := by
  refine spec_b [] Try.func97 rfl rfl rfl fun J P hJ hP => ?_
  dsimp only [m_ref03_Blocks] at h
  cbv
  obtain ⟨p9, q8, hp10, hf11, hq12⟩ := bnd_loop h
  clear h
  refine LoopB.mk ({x : Nat × Int × Int // loopN p9 x.1 (x.2.1, x.2.2) = some q8}) (fun x => ⟨[(1, .ptr 0 0), (3, .d (.int .i64 x.1.2.1)), (4, .d (.int .i64 x.1.2.2))], [(0, .box [.d (.int .i64 v1), .d (.int .i64 v2), .d (.int .i64 v3), .d (.int .i64 v4), .d (.int .i64 v5)])], 1, 19⟩) (fun x => x.1.1) [1, 3, 4] 1 ⟨(FUEL, 0, 5), hf11⟩ ⟨[(0, 0)], [], ?_⟩ ?_
  · rfl
  · rintro ⟨⟨N15, v18, v19⟩, hr14⟩
    obtain ⟨M16, o13, eN17, h, hr14⟩ := loopN_step hr14
    subst eN17
    rw [hp10] at h
    try dsimp only at h ⊢
    cbv
    revert h
    refine st_cmp hJ fun b20 eb20 h => ?_
    cbv
    cases b20 with
    | true =>
      replace h := cnd_t h
      cbv
      revert h
      refine st_div hJ fun v21 zv21 ev21 h => ?_
      cbv
      revert h
      refine st_bin hJ fun v22 ev22 h => ?_
      cbv
      revert h
      refine st_bin hJ fun v23 ev23 h => ?_
      cbv
      cases h
      exact ⟨⟨(M16, v22, v23), hr14⟩, [(0, 0)], 1, [], rfl, Nat.lt_succ_self _⟩
    | false =>
      replace h := cnd_f h
      cbv
      cases h
      have h := hq12
      obtain rfl := hr14
      try dsimp only at h
      revert h
      refine st_cmp hJ fun b21 eb21 h => ?_
      cbv
      cases b21 with
      | true =>
        replace h := cnd_t h
        cbv
        cases h
        exact ⟨_, .refl _, [], _, _, [], _, rfl, rfl, rfl, rfl, rfl, rfl⟩
      | false =>
        replace h := cnd_f h
        cbv
        cases h
        exact ⟨_, .refl _, [], _, _, [], _, rfl, rfl, rfl, rfl, rfl, rfl⟩
end Go.AX
