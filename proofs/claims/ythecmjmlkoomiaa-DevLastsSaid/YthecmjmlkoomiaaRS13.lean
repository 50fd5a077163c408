/- What functions of the program compute: each is what its Lean function says. -/
import Derived.Test.YthecmjmlkoomiaaRS5
namespace Go.AX
open Go.Proofs
set_option autoImplicit false
set_option linter.unusedVariables false
set_option maxRecDepth 100000
set_option maxHeartbeats 100000000
set_option linter.unusedSimpArgs false

theorem sd100_0 {m m' : List (TAt × (Ar 64))} {es es' : List (List D × List D)} (hm : es = encM eAt (eA .u8) m) {v1 : Int}  (hm' : es' = encM eAt (eA .u8) m') (h : gFilt? eAt (fun k v => m___dev_Device__forget_1 k v v1) m = some m') :
    SpecM Try.prog 100 2 [(0, .box [.d (.int .i64 v1)]), (1, .mp true true es)] [.map 1, .fn 99 [.ptr 0 0]] ⟨.tup [], [(0, .box [.d (.int .i64 v1)]), (1, .mp true true es')], 0, True⟩ := by
  unfold gFilt? at h
  split at h
  case isFalse => cases h
  rename_i hnod
  obtain ⟨hdef, hm2⟩ := mFilt_eq h
  refine specM_b [] 2 2 Try.func100 rfl rfl rfl rfl rfl rfl fun J P hJ hP => ?_
  cbv
  refine ⟨fun l0 ck hl hnd => ?_⟩
  cbv
  obtain ⟨lt, rfl, hlt⟩ := encB_of m l0 (hl.trans hm)
  have hnd' : (lt.map Prod.fst).Nodup := by simpa [encB, Function.comp_def] using hnd
  let pr : TAt → (Ar 64) → Bool := fun k v => (m___dev_Device__forget_1 k v v1).getD false
  refine LoopB.mk {x : List (Nat × List D × List D) × List Nat // x.1 = encB eAt (eA .u8) (leftB pr lt x.2)} (fun x => ⟨[(0, .map 1), (1, .fn 99 [.ptr 0 0]), (7, .ptr 2 0)], [(0, .box [.d (.int .i64 v1)]), (1, .mb true true x.1.1 ck), (2, .it 1 x.1.2 ck)], 3, 19⟩)
    (fun x => ((leftB pr lt x.1.2).filter (fun p => !x.1.2.contains p.1)).length) [0, 1, 7] 3 ⟨(encB eAt (eA .u8) lt, []), by rw [leftB_nil]⟩ ⟨[(0, 0), (1, 1), (3, 2)], [], rfl⟩ ?_
  rintro ⟨⟨l, seen⟩, hl2⟩
  dsimp only at hl2
  cbv
  refine ⟨⟨rfl, fun p hp hs => ?_, fun hall => ?_⟩⟩
  · obtain ⟨b, kd, vd⟩ := p
    have hp' := hp
    rw [hl2] at hp'
    obtain ⟨⟨b', k, v⟩, hq, he⟩ := List.mem_map.1 hp'
    simp only [Prod.mk.injEq] at he
    obtain ⟨rfl, hkd, hvd⟩ := he
    have hkvm : (k, v) ∈ m := by rw [← hlt]; exact List.mem_map.2 ⟨(b', k, v), (List.mem_filter.1 hq).1, rfl⟩
    obtain ⟨r, hr⟩ := hdef _ hkvm
    dsimp only at hr
    have hpr : pr k v = r := by show (m___dev_Device__forget_1 k v v1).getD false = r; rw [hr]; rfl
    clear_value pr
    obtain ⟨v2, v3⟩ := k
    obtain ⟨d5, ha6⟩ := nameA .u8 v
    have rk : RdV true kd (.agg [.d (.int .i64 v2), .d (.int .i64 v3)]) := by rw [← hkd]; exact rdV_mat (ls := [.int .i64, .int .i64]) (.int (.int .nil)) rfl rfl
    have rv : RdV true vd (.agg [.big 64 d5]) := by
      rw [← hvd]; refine rdV_mat (ls := [.big 64 .u8]) (l := [.big 64 d5]) ?_ (by rw [(eA_len .u8)]; rfl) rfl; rw [show (eA .u8) _ = d5 ++ [] from (by rw [(show d5 = encL (eI .u8) v.l from ha6)]; first | done | rfl | simp [eA, eA, encL, eI])]; exact (.big ⟨by rw [(show d5 = encL (eI .u8) v.l from ha6)]; exact eA_len _ _, by decide⟩ .nil)
    refine ⟨_, _, rk, rv, fun sn hsn => ?_⟩
    cbv
    refine ⟨⟨rfl, (b', kd, vd), hp, by rw [hsn]; simp, _, _, rk, rv, ?_⟩⟩
    cbv
    refine callM_by hP (s99 ha6 hr) [(0, 0)] false hJ rfl rfl rfl rfl rfl (.inl rfl) ?_
    cbv
    have hmu : (leftB pr lt sn).filter (fun p => !sn.contains p.1) = ((leftB pr lt seen).filter (fun p => !seen.contains p.1)).filter (fun q => !(q.1 == b')) := by
      cases r with
      | true => rw [hsn, leftB_drop hnd' hq hpr]; exact left_mu _ _ _
      | false => rw [hsn, leftB_keep hnd' hq hpr]; exact left_mu2 _ _ _
    have hlt2 : ((leftB pr lt sn).filter (fun p => !sn.contains p.1)).length < ((leftB pr lt seen).filter (fun p => !seen.contains p.1)).length := by
      rw [hmu]
      exact left_lt (List.mem_filter.2 ⟨hq, by simpa using hs⟩)
    cases r with
    | true =>
      cbv
      refine ⟨⟨(by first | exact ⟨rfl, rfl, trivial⟩ | exact hkd ▸ eAt_kinds _), ?_, fun l' hl' => ?_⟩⟩
      · intro p hp2
        rw [hl2] at hp2
        obtain ⟨q, _, rfl⟩ := List.mem_map.1 hp2
        exact eAt_kinds _
      cbv
      refine ⟨⟨(l', sn), ?_⟩, [(0, 0), (1, 1), (2, 2)], 3, [], rfl, hlt2⟩
      dsimp only
      rw [hl', hl2, hsn, leftB_drop hnd' hq hpr]
      exact mdelB_enc (fun a => by simp [eAt, sameL, D.same]) _ (nd_sub hnd') (by rw [← hlt] at hnod; exact sub_nd ((List.filter_sublist).map _) hnod) hq
    | false =>
      cbv
      exact ⟨⟨(l, sn), by dsimp only; rw [hl2, hsn, leftB_keep hnd' hq hpr]⟩, [(0, 0), (1, 1), (2, 2)], 3, [], rfl, hlt2⟩
  · cbv
    have hend : l.map Prod.snd = encM eAt (eA .u8) m' := by
      have h1 : ∀ p ∈ leftB pr lt seen, p.1 ∈ seen := by
        intro p hp
        have := hall (p.1, eAt p.2.1, (eA .u8) p.2.2) (by rw [hl2]; exact List.mem_map.2 ⟨p, hp, rfl⟩)
        exact this
      have h2 := leftB_end h1
      rw [hlt] at h2
      have h3 : (leftB pr lt seen).map Prod.snd = m' := h2.trans hm2.symm
      rw [hl2, ← h3]
      simp [encB, encM, Function.comp_def]
    obtain rfl : es' = l.map Prod.snd := hm'.trans hend.symm
    exact ⟨_, .refl _, [.forget 1], _, _, [(0, 0), (1, 1)], _, rfl, rfl, rfl, rfl, rfl, rfl⟩
theorem s102_1 {l1 : List TDev_write} {c2 : List D} {n3 : Nat} {v5 : Int} (hl4 : IsL eDev_write c2 n3 l1) {v6 : Int}  (h : m_slices_IndexFunc_ l1 v5 = some v6) : SpecM Try.prog 102 1 [(0, .box [.d (.int .i64 v5)])] [.d (.lst c2 n3), .fn 101 [.ptr 0 0]] ⟨.d (.int .i64 v6), [(0, .box [.d (.int .i64 v5)])], 0, True⟩ := by
  refine specM_b [] 1 1 Try.func102 rfl rfl rfl rfl rfl rfl fun J P hJ hP => ?_
  dsimp only [m_slices_IndexFunc_] at h
  cbv
  revert h
  refine st_len hJ hl4 fun v8 ev8 h => ?_
  cbv
  obtain ⟨p10, q9, hp11, hf12, hq13⟩ := bnd_loop h
  clear h
  refine LoopB.mk ({x : Nat × Int // loopN p10 x.1 (x.2) = some q9}) (fun x => ⟨[(0, .d (.lst c2 n3)), (1, .fn 101 [.ptr 0 0]), (7, .d (.int .i64 v8)), (8, .d (.int .i64 x.1.2))], [(0, .box [.d (.int .i64 v5)])], 1, 19⟩) (fun x => x.1.1) [0, 1, 7, 8] 1 ⟨(FUEL, 0), hf12⟩ ⟨[(0, 0)], [], ?_⟩ ?_
  · rfl
  · rintro ⟨⟨N16, v19⟩, hr15⟩
    obtain ⟨M17, o14, eN18, h, hr15⟩ := loopN_step hr15
    subst eN18
    rw [hp11] at h
    try dsimp only at h ⊢
    cbv
    revert h
    refine st_cmp hJ fun b20 eb20 h => ?_
    cbv
    cases b20 with
    | true =>
      replace h := cnd_t h
      cbv
      revert h
      refine st_idx_lp hJ hl4 fun y21 k22 hy23 ho24 h => ?_
      obtain ⟨⟨v25, v26⟩, a27⟩ := y21
      obtain ⟨d28, ha29⟩ := nameA .u8 a27
      try dsimp only at h
      cbv
      refine st_ldW hJ eDev_write_len hl4 hy23 ho24 (fun hJ => by subst hJ; rfl) ([.int .i64 v25, .int .i64 v26] ++ (d28 ++ [])) (by rw [(show d28 = encL (eI .u8) a27.l from ha29)]; first | done | rfl | simp [eDev_write, encL_len (k := 1) (eI_len _), Ar.h]) (.int (.int (.big ⟨by rw [(show d28 = encL (eI .u8) a27.l from ha29)]; exact eA_len _ _, by decide⟩ .nil))) rfl ?_
      cbv
      obtain ⟨b32, h31, h⟩ := bnd h
      refine callM_by hP (s101 ha29 h31) [(0, 0)] false hJ rfl rfl rfl rfl rfl (.inl rfl) ?_
      cbv
      cases b32 with
      | true =>
        replace h := cnd_t h
        cbv
        cases h
        have h := hq13
        obtain rfl := hr15
        try dsimp only at h
        cases h
        exact ⟨_, .refl _, [], _, _, [(0, 0)], _, rfl, rfl, rfl, rfl, rfl, rfl⟩
      | false =>
        replace h := cnd_f h
        cbv
        revert h
        refine st_bin hJ fun v33 ev33 h => ?_
        cbv
        cases h
        exact ⟨⟨(M17, v33), hr15⟩, [(0, 0)], 1, [], rfl, Nat.lt_succ_self _⟩
    | false =>
      replace h := cnd_f h
      cbv
      cases h
      have h := hq13
      obtain rfl := hr15
      try dsimp only at h
      cases h
      exact ⟨_, .refl _, [], _, _, [(0, 0)], _, rfl, rfl, rfl, rfl, rfl, rfl⟩
end Go.AX
