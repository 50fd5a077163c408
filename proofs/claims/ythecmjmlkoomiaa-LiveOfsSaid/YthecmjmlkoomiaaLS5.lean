/- What functions of the program compute: each is what its Lean function says. -/
import Derived.Test.YthecmjmlkoomiaaLS1
import Derived.Test.YthecmjmlkoomiaaLS2
namespace Go.AX
open Go.Proofs
set_option autoImplicit false
set_option linter.unusedVariables false
set_option maxRecDepth 100000
set_option maxHeartbeats 100000000
set_option linter.unusedSimpArgs false

theorem s33 {v1 : Int} {v2 : Int} {v3 : Int} {v4 : Int} {v5 : Int} {v6 : Int} {v7 : Int} {m8 : List (TAt × Int)} {c9 : List (List D × List D)} {m11 : List (Int × Int)} {c12 : List (List D × List D)} (hm10 : c9 = encM eAt (eI .i64) m8) (hm13 : c12 = encM (eI .i64) (eI .i64) m11) {b14 : Bool} {v15 : Int} {v16 : Int} {v17 : Int} {v18 : Int} {v19 : Int} {m20 : List (TAt × Int)} {c21 : List (List D × List D)} {m23 : List (Int × Int)} {c24 : List (List D × List D)} (hm22 : c21 = encM eAt (eI .i64) m20) (hm25 : c24 = encM (eI .i64) (eI .i64) m23) (h : m___live_Live__Add v1 v2 (TLive_Live.mk (TGeom.mk v3 v4 v5 v6 v7) m8 m11) = some (b14, (TLive_Live.mk (TGeom.mk v15 v16 v17 v18 v19) m20 m23))) : SpecM Try.prog 33 3 [(0, .box [.d (.int .i64 v3), .d (.int .i64 v4), .d (.int .i64 v5), .d (.int .i64 v6), .d (.int .i64 v7), .map 1, .map 2]), (1, .mp true false c9), (2, .mp false false c12)] [.ptr 0 0, .d (.int .i64 v1), .d (.int .i64 v2)] ⟨.d (.bool b14), [(0, .box [.d (.int .i64 v15), .d (.int .i64 v16), .d (.int .i64 v17), .d (.int .i64 v18), .d (.int .i64 v19), .map 1, .map 2]), (1, .mp true false c21), (2, .mp false false c24)], 0, True⟩ := by
  refine specM_b [] 3 3 Try.func33 rfl rfl rfl rfl rfl rfl fun J P hJ hP => ?_
  dsimp only [m___live_Live__Add] at h
  cbv
  obtain ⟨⟨⟨v29, v30⟩, b31⟩, h28, h⟩ := bnd h
  try dsimp only at h
  refine call_by hP (s71 h28) hJ rfl rfl ?_
  cbv
  revert h
  refine st_not hJ fun b32 eb32 h => ?_
  cbv
  cases b32 with
  | true =>
    replace h := cnd_t h
    cbv
    cases h
    obtain rfl := hm22.trans (hm10).symm
    obtain rfl := hm25.trans (hm13).symm
    exact ⟨_, .refl _, [], _, _, [(0, 0), (1, 1), (2, 2)], _, rfl, rfl, rfl, rfl, rfl, rfl⟩
  | false =>
    replace h := cnd_f h
    cbv
    obtain ⟨o33, ho33, h⟩ := letv h
    obtain ⟨y34, hy34, h⟩ := letv h
    obtain ⟨b35, hb35, h⟩ := letv h
    refine st_lk hJ eAt_kinds hm10 (k := (TAt.mk v29 v30)) rfl (z := 0) (by rfl) (eI_len .i64) ho33 hy34 hb35 (ds := [.int .i64 y34]) (by rfl) (.int .nil) rfl ?_
    cbv
    refine ⟨fun _ => by kernel_rfl, ?_⟩
    cbv
    cases b35 with
    | true =>
      replace h := cnd_t h
      cbv
      cases h
      obtain rfl := hm22.trans (hm10).symm
      obtain rfl := hm25.trans (hm13).symm
      exact ⟨_, .refl _, [], _, _, [(0, 0), (1, 1), (2, 2)], _, rfl, rfl, rfl, rfl, rfl, rfl⟩
    | false =>
      replace h := cnd_f h
      cbv
      revert h
      refine st_up hJ eAt_kinds hm10 (k := (TAt.mk v29 v30)) rfl (v := v2) (fun hJ => by rfl) fun c38 m37 hm39 h => ?_
      cbv
      refine ⟨fun _ => by kernel_rfl, ?_⟩
      cbv
      obtain ⟨o40, ho40, h⟩ := letv h
      obtain ⟨y41, hy41, h⟩ := letv h
      obtain ⟨b42, hb42, h⟩ := letv h
      refine st_lk hJ (eI_kinds .i64) hm13 (k := v29) rfl (z := 0) (by rfl) (eI_len .i64) ho40 hy41 hb42 (ds := [.int .i64 y41]) (by rfl) (.int .nil) rfl ?_
      cbv
      revert h
      refine st_bin hJ fun v44 ev44 h => ?_
      cbv
      revert h
      refine st_up hJ (eI_kinds .i64) hm13 (k := v29) rfl (v := v44) (fun hJ => by rfl) fun c46 m45 hm47 h => ?_
      cbv
      refine ⟨fun _ => by kernel_rfl, ?_⟩
      cbv
      cases h
      obtain rfl := hm22.trans (hm39).symm
      obtain rfl := hm25.trans (hm47).symm
      exact ⟨_, .refl _, [], _, _, [(0, 0), (1, 1), (2, 2)], _, rfl, rfl, rfl, rfl, rfl, rfl⟩
theorem s36 {v1 : Int} {v2 : Int} {v3 : Int} {v4 : Int} {v5 : Int} {v6 : Int} {m7 : List (TAt × Int)} {c8 : List (List D × List D)} {m10 : List (Int × Int)} {c11 : List (List D × List D)} (hm9 : c8 = encM eAt (eI .i64) m7) (hm12 : c11 = encM (eI .i64) (eI .i64) m10) {l13 : List TAt} {c14 : List D} {n15 : Nat} (hl16 : IsL eAt c14 n15 l13) (h : m___live_Live__Zone v1 (TLive_Live.mk (TGeom.mk v2 v3 v4 v5 v6) m7 m10) = some l13) : SpecM Try.prog 36 3 [(0, .box [.d (.int .i64 v2), .d (.int .i64 v3), .d (.int .i64 v4), .d (.int .i64 v5), .d (.int .i64 v6), .map 1, .map 2]), (1, .mp true false c8), (2, .mp false false c11)] [.ptr 0 0, .d (.int .i64 v1)] ⟨.own 3 n15 2, [(0, .box [.d (.int .i64 v2), .d (.int .i64 v3), .d (.int .i64 v4), .d (.int .i64 v5), .d (.int .i64 v6), .map 1, .map 2]), (1, .mp true false c8), (2, .mp false false c11), (3, .row c14 2 40)], 1, True⟩ := by
  refine specM_b [] 3 3 Try.func36 rfl rfl rfl rfl rfl rfl fun J P hJ hP => ?_
  dsimp only [m___live_Live__Zone] at h
  cbv
  obtain ⟨l18, hk0, h⟩ := bnd h
  unfold mKeys at hk0
  split at hk0
  case isFalse => cases hk0
  rename_i hnod
  obtain ⟨hnod, hlen⟩ := hnod
  obtain rfl := Option.some.inj hk0
  refine ⟨fun l0 ck hl0 hnd0 => ?_⟩
  cbv
  obtain ⟨lt, hl0e, hlt⟩ := encB_of m7 l0 (hl0.trans hm9)
  have hnd' : (lt.map Prod.fst).Nodup := by rw [hl0e] at hnd0; simpa [encB, Function.comp_def] using hnd0
  have hltl : lt.length ≤ 1000000 := by rw [← hlt, List.length_map] at hlen; exact hlen
  refine LoopB.mk ({x : List Nat × List TAt × List D × Nat // IsL eAt x.2.2.1 x.2.2.2 x.2.1 ∧ x.2.1.Perm (got (fun k : TAt => decide (k.Zone = v1)) lt x.1)}) (fun x => ⟨[(0, .ptr 0 0), (1, .d (.int .i64 v1)), (5, .own 4 x.1.2.2.2 2), (11, .ptr 3 0)], [(1, .mb true false l0 ck), (2, .mp false false c11), (0, .box [.d (.int .i64 v2), .d (.int .i64 v3), .d (.int .i64 v4), .d (.int .i64 v5), .d (.int .i64 v6), .map 1, .map 2]), (3, .it 1 x.1.1 ck), (4, .row x.1.2.2.1 2 40)], 5, 27⟩)
    (fun x => (lt.filter (fun p => !x.1.1.contains p.1)).length) [0, 1, 5, 11] 4 ⟨([], [], [], 0), IsL.nil' (g := eAt), by rw [got_nil]⟩ ⟨[(1, 1), (2, 2), (0, 0), (9, 3)], [.slot 5 4 2 40], rfl⟩ ?_
  rintro ⟨⟨seen, ol, oc, on⟩, hol, hperm⟩
  dsimp only at hol hperm
  cbv
  refine ⟨⟨rfl, fun p hp hs => ?_, fun hall => ?_⟩⟩
  · obtain ⟨b, kd, vd⟩ := p
    have hp' := hp
    rw [hl0e] at hp'
    obtain ⟨⟨b', ⟨kz, ko⟩, v⟩, hq, he⟩ := List.mem_map.1 hp'
    simp only [Prod.mk.injEq] at he
    obtain ⟨rfl, hkd, hvd⟩ := he
    have rk : RdV true kd (.agg [.d (.int .i64 kz), .d (.int .i64 ko)]) := by rw [← hkd]; exact rdV_mat (ls := [.int .i64, .int .i64]) (.int (.int .nil)) rfl rfl
    have rv : RdV false vd (.d (.int .i64 v)) := by rw [← hvd]; exact rdV_mat (ls := [.int .i64]) (.int .nil) rfl rfl
    refine ⟨_, _, rk, rv, fun sn hsn => ?_⟩
    cbv
    refine ⟨⟨rfl, (b', kd, vd), hp, by rw [hsn]; simp, _, _, rk, rv, ?_⟩⟩
    cbv
    have hbs : b' ∉ seen := by simpa using hs
    have hstep := got_step (q := fun k : TAt => decide (k.Zone = v1)) hnd' (seen := seen) hq hbs
    have hlt2 : (lt.filter (fun p => !sn.contains p.1)).length < (lt.filter (fun p => !seen.contains p.1)).length := by
      rw [hsn, left_mu2]
      exact left_lt (List.mem_filter.2 ⟨hq, by simpa using hbs⟩)
    have hh : (Let (ceq kz v1) fun b => some b) = some (ceq kz v1) := rfl
    refine st_cmp hJ (fun be ebe hbe => ?_) hh
    clear hh hbe
    cbv
    cases be with
    | true =>
      cbv
      have h1 : IsL eAt [(D.int .i64 kz), (D.int .i64 ko)] 1 [(TAt.mk kz ko)] := ⟨by rfl, rfl⟩
      refine st_any hJ rfl rfl (by subst hJ; exact (by decide : 2 ≤ 16777216)) ?_
      cbv
      have hol2 : ol.length ≤ 1000000 := by rw [hperm.length_eq]; exact Nat.le_trans (got_len _ _ _) hltl
      have hh : (Bnd (app? 16 ol [TAt.mk kz ko]) fun r => some r) = some (ol ++ [TAt.mk kz ko]) := by rw [app_ok (by simp; omega)]; rfl
      refine st_app hJ eAt_len hol h1 (fun c2 n2 l2 hl2 hh2 => ?_) hh
      obtain rfl := Option.some.inj hh2
      cbv
      refine ⟨⟨(sn, ol ++ [TAt.mk kz ko], c2, n2), hl2, ?_⟩, [(1, 1), (2, 2), (0, 0), (3, 3), (20, 4)], 5, [], rfl, hlt2⟩
      dsimp only
      rw [hsn]
      have ez : kz = v1 := by simpa using ebe.symm
      rw [if_pos (by simpa using ez)] at hstep
      exact (hperm.append_right _).trans hstep.symm
    | false =>
      cbv
      refine ⟨⟨(sn, ol, oc, on), hol, ?_⟩, [(1, 1), (2, 2), (0, 0), (3, 3), (4, 4)], 5, [], rfl, hlt2⟩
      dsimp only
      rw [hsn]
      have ez : ¬ kz = v1 := by simpa using ebe.symm
      rw [if_neg (by simpa using ez)] at hstep
      exact hperm.trans hstep.symm
  cbv
  have hfin : ol.Perm ((m7.filter fun p => decide (p.1.Zone = v1)).map Prod.fst) := by
    have h1 : ∀ p ∈ lt, p.1 ∈ seen := fun p hp => hall (p.1, eAt p.2.1, eI .i64 p.2.2) (by rw [hl0e]; exact List.mem_map.2 ⟨p, hp, rfl⟩)
    have h2 := got_end (q := fun k : TAt => decide (k.Zone = v1)) h1
    rw [hlt] at h2
    rw [← h2]; exact hperm
  have hone : ∀ x ∈ ol, x.Zone = v1 := fun x hx => by
    obtain ⟨p, hp, rfl⟩ := List.mem_map.1 (hfin.mem_iff.1 hx)
    simpa using (List.mem_filter.1 hp).2
  have hdis := srtZ_dist hone
  obtain ⟨c19, n20, hl21⟩ := nameL eAt (srt (fun a b : TAt => cmp3 a.Off b.Off) ol)
  obtain rfl : n20 = on := by rw [hl21.n, hol.n]; simp [srt]
  refine callM_by hP (srt73 hol hl21 rfl hdis (by rw [hperm.length_eq]; exact Nat.le_trans (got_len _ _ _) (Nat.le_trans hltl (by decide)))) [(4, 0)] false hJ rfl rfl rfl rfl rfl (.inl rfl) ?_
  cbv
  rw [srtZ_eq hfin hdis] at hl21
  subst hl0
  cases h
  obtain ⟨rfl, rfl⟩ := IsL.uniq hl16 hl21
  exact ⟨_, .refl _, [.forget 1], _, _, [(0, 0), (1, 1), (2, 2), (4, 3)], _, rfl, rfl, rfl, rfl, rfl, rfl⟩
end Go.AX
