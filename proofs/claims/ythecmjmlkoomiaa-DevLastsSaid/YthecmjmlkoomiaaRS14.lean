/- What functions of the program compute: each is what its Lean function says. -/
import Derived.Test.YthecmjmlkoomiaaRS5
namespace Go.AX
open Go.Proofs
set_option autoImplicit false
set_option linter.unusedVariables false
set_option maxRecDepth 100000
set_option maxHeartbeats 100000000
set_option linter.unusedSimpArgs false

theorem s102_2 {l1 : List TDev_write} {c2 : List D} {n3 : Nat} {v5 : Int} (hl4 : IsL eDev_write c2 n3 l1) {v6 : Int}  (h : m_slices_IndexFunc__ l1 v5 = some v6) : SpecM Try.prog 102 1 [(0, .box [.d (.int .i64 v5)])] [.d (.lst c2 n3), .fn 83 [.ptr 0 0]] ⟨.d (.int .i64 v6), [(0, .box [.d (.int .i64 v5)])], 0, True⟩ := by
  refine specM_b [] 1 1 Try.func102 rfl rfl rfl rfl rfl rfl fun J P hJ hP => ?_
  dsimp only [m_slices_IndexFunc__] at h
  cbv
  revert h
  refine st_len hJ hl4 fun v8 ev8 h => ?_
  cbv
  obtain ⟨p10, q9, hp11, hf12, hq13⟩ := bnd_loop h
  clear h
  refine LoopB.mk ({x : Nat × Int // loopN p10 x.1 (x.2) = some q9}) (fun x => ⟨[(0, .d (.lst c2 n3)), (1, .fn 83 [.ptr 0 0]), (7, .d (.int .i64 v8)), (8, .d (.int .i64 x.1.2))], [(0, .box [.d (.int .i64 v5)])], 1, 19⟩) (fun x => x.1.1) [0, 1, 7, 8] 1 ⟨(FUEL, 0), hf12⟩ ⟨[(0, 0)], [], ?_⟩ ?_
  · rfl
  · rintro ⟨⟨N16, v19⟩, hr15⟩
    obtain ⟨M17, o14, eN18, h, hr15⟩ := loopN_step hr15
    subst eN18
    rw [hp11] at h
    try dsimp only at h ⊢
    cbv
    revert h
    refine st_cmp hJ fun b20 eb20 h => ?_
    cbv
    cases b20 with
    | true =>
      replace h := cnd_t h
      cbv
      revert h
      refine st_idx_lp hJ hl4 fun y21 k22 hy23 ho24 h => ?_
      obtain ⟨⟨v25, v26⟩, a27⟩ := y21
      obtain ⟨d28, ha29⟩ := nameA .u8 a27
      try dsimp only at h
      cbv
      refine st_ldW hJ eDev_write_len hl4 hy23 ho24 (fun hJ => by subst hJ; rfl) ([.int .i64 v25, .int .i64 v26] ++ (d28 ++ [])) (by rw [(show d28 = encL (eI .u8) a27.l from ha29)]; first | done | rfl | simp [eDev_write, encL_len (k := 1) (eI_len _), Ar.h]) (.int (.int (.big ⟨by rw [(show d28 = encL (eI .u8) a27.l from ha29)]; exact eA_len _ _, by decide⟩ .nil))) rfl ?_
      cbv
      obtain ⟨b32, h31, h⟩ := bnd h
      refine callM_by hP (s83 ha29 h31) [(0, 0)] false hJ rfl rfl rfl rfl rfl (.inl rfl) ?_
      cbv
      cases b32 with
      | true =>
        replace h := cnd_t h
        cbv
        cases h
        have h := hq13
        obtain rfl := hr15
        try dsimp only at h
        cases h
        exact ⟨_, .refl _, [], _, _, [(0, 0)], _, rfl, rfl, rfl, rfl, rfl, rfl⟩
      | false =>
        replace h := cnd_f h
        cbv
        revert h
        refine st_bin hJ fun v33 ev33 h => ?_
        cbv
        cases h
        exact ⟨⟨(M17, v33), hr15⟩, [(0, 0)], 1, [], rfl, Nat.lt_succ_self _⟩
    | false =>
      replace h := cnd_f h
      cbv
      cases h
      have h := hq13
      obtain rfl := hr15
      try dsimp only at h
      cases h
      exact ⟨_, .refl _, [], _, _, [(0, 0)], _, rfl, rfl, rfl, rfl, rfl, rfl⟩
end Go.AX
