/- What functions of the program compute: each is what its Lean function says. -/
import Derived.Test.YthecmjmlkoomiaaRS24
import Derived.Test.YthecmjmlkoomiaaRS5
namespace Go.AX
open Go.Proofs
set_option autoImplicit false
set_option linter.unusedVariables false
set_option maxRecDepth 100000
set_option maxHeartbeats 100000000
set_option linter.unusedSimpArgs false

theorem s55_1 {v1 : Int} {v2 : Int} {v3 : Int} {v4 : Int} {v5 : Int} {l6 : List TZone} {c7 : List D} {n8 : Nat} {m10 : List (Int × Bool)} {c11 : List (List D × List D)} {m13 : List (TAt × (Ar 64))} {c14 : List (List D × List D)} {m16 : List (TAt × (Ar 64))} {c17 : List (List D × List D)} {l19 : List TDev_write} {c20 : List D} {n21 : Nat} {v23 : Int} {b24 : Bool} {v25 : Int} {v26 : Int} (hl9 : IsL eZone c7 n8 l6) (hm12 : c11 = encM (eI .i64) eB m10) (hm15 : c14 = encM eAt (eA .u8) m13) (hm18 : c17 = encM eAt (eA .u8) m16) (hl22 : IsL eDev_write c20 n21 l19) {v27 : Int} {v28 : Int} {v29 : Int} {v30 : Int} {v31 : Int} {l32 : List TZone} {c33 : List D} {n34 : Nat} {m36 : List (Int × Bool)} {c37 : List (List D × List D)} {m39 : List (TAt × (Ar 64))} {c40 : List (List D × List D)} {m42 : List (TAt × (Ar 64))} {c43 : List (List D × List D)} {l45 : List TDev_write} {c46 : List D} {n47 : Nat} {v49 : Int} {b50 : Bool} {v51 : Int} (hl35 : IsL eZone c33 n34 l32) (hm38 : c37 = encM (eI .i64) eB m36) (hm41 : c40 = encM eAt (eA .u8) m39) (hm44 : c43 = encM eAt (eA .u8) m42) (hl48 : IsL eDev_write c46 n47 l45) (h : m___dev_Device__lasts_ (TDev_Device.mk (TGeom.mk v1 v2 v3 v4 v5) l6 m10 m13 m16 l19 v23 b24 v25) v26 = some (TDev_Device.mk (TGeom.mk v27 v28 v29 v30 v31) l32 m36 m39 m42 l45 v49 b50 v51)) : SpecM Try.prog 55 7 [(0, .box [.d (.int .i64 v1), .d (.int .i64 v2), .d (.int .i64 v3), .d (.int .i64 v4), .d (.int .i64 v5), .own 2 n8 2, .map 3, .map 4, .map 5, .own 6 n21 66, .d (.int .i64 v23), .d (.bool b24), .d (.int .i64 v25)]), (1, .box [.d (.int .i64 v26)]), (2, .row c7 2 53), (3, .mp false false c11), (4, .mp true true c14), (5, .mp true true c17), (6, .row c20 66 109)] [.ptr 0 0, .fn 83 [.ptr 1 0]] ⟨.tup [], [(0, .box [.d (.int .i64 v27), .d (.int .i64 v28), .d (.int .i64 v29), .d (.int .i64 v30), .d (.int .i64 v31), .own 2 n34 2, .map 3, .map 4, .map 5, .own 7 n47 66, .d (.int .i64 v49), .d (.bool b50), .d (.int .i64 v51)]), (1, .box [.d (.int .i64 v26)]), (2, .row c33 2 53), (3, .mp false false c37), (4, .mp true true c40), (5, .mp true true c43), (7, .row c46 66 109), (6, .dead)], 1, True⟩ := by
  refine specM_b [] 6 7 Try.func55 rfl rfl rfl rfl rfl rfl fun J P hJ hP => ?_
  dsimp only [m___dev_Device__lasts_] at h
  cbv
  revert h
  refine st_len hJ hl22 fun v53 ev53 h => ?_
  cbv
  obtain ⟨p55, q54, hp56, hf57, hq58⟩ := bnd_loop h
  clear h
  refine LoopB.mk ({x : Nat × Int × (List (TAt × (Ar 64))) × (List (List D × List D)) // x.2.2.2 = encM eAt (eA .u8) x.2.2.1 ∧ loopN p55 x.1 (x.2.1, x.2.2.1) = some q54}) (fun x => ⟨[(0, .ptr 0 0), (1, .fn 83 [.ptr 1 0]), (9, .own 6 n21 66), (10, .d (.int .i64 v53)), (11, .d (.int .i64 x.1.2.1))], [(0, .box [.d (.int .i64 v1), .d (.int .i64 v2), .d (.int .i64 v3), .d (.int .i64 v4), .d (.int .i64 v5), .own 2 n8 2, .map 3, .map 4, .map 5, .own 6 n21 66, .d (.int .i64 v23), .d (.bool b24), .d (.int .i64 v25)]), (1, .box [.d (.int .i64 v26)]), (2, .row c7 2 53), (3, .mp false false c11), (4, .mp true true x.1.2.2.2), (5, .mp true true c17), (6, .row c20 66 109)], 7, 36⟩) (fun x => x.1.1) [0, 1, 9, 10, 11] 7 ⟨(FUEL, 0, m13, c14), hm15, hf57⟩ ⟨[(0, 0), (1, 1), (2, 2), (3, 3), (4, 4), (5, 5), (6, 6)], [], ?_⟩ ?_
  · rfl
  · rintro ⟨⟨N61, v64, m65, c66⟩, hm67, hr60⟩
    obtain ⟨M62, o59, eN63, h, hr60⟩ := loopN_step hr60
    subst eN63
    rw [hp56] at h
    try dsimp only at h ⊢
    cbv
    revert h
    refine st_cmp hJ fun b68 eb68 h => ?_
    cbv
    cases b68 with
    | true =>
      replace h := cnd_t h
      cbv
      revert h
      refine st_idx_pr hJ hl22 fun y69 k70 hy71 ho72 h => ?_
      obtain ⟨⟨v73, v74⟩, a75⟩ := y69
      obtain ⟨d76, ha77⟩ := nameA .u8 a75
      try dsimp only at h
      cbv
      refine st_ldW hJ eDev_write_len hl22 hy71 ho72 (fun hJ => by subst hJ; rfl) ([.int .i64 v73, .int .i64 v74] ++ (d76 ++ [])) (by rw [(show d76 = encL (eI .u8) a75.l from ha77)]; first | done | rfl | simp [eDev_write, encL_len (k := 1) (eI_len _), Ar.h]) (.int (.int (.big ⟨by rw [(show d76 = encL (eI .u8) a75.l from ha77)]; exact eA_len _ _, by decide⟩ .nil))) rfl ?_
      cbv
      obtain ⟨b80, h79, h⟩ := bnd h
      refine callM_by hP (s83 ha77 h79) [(1, 0)] false hJ rfl rfl rfl rfl rfl (.inl rfl) ?_
      cbv
      cases b80 with
      | true =>
        replace h := cnd_t h
        cbv
        revert h
        refine st_up hJ eAt_kinds hm67 (k := (TAt.mk v73 v74)) rfl (v := a75) (fun hJ => by rw [(show d76 = encL (eI .u8) a75.l from ha77)]; subst hJ; first | done | rfl | simp [stdJ, std, eA, eA, encL, eI]) fun c82 m81 hm83 h => ?_
        cbv
        refine ⟨fun _ => by kernel_rfl, ?_⟩
        cbv
        revert h
        refine st_bin hJ fun v84 ev84 h => ?_
        cbv
        cases h
        exact ⟨⟨(M62, v84, m81, c82), hm83, hr60⟩, [(0, 0), (1, 1), (2, 2), (3, 3), (4, 4), (5, 5), (6, 6)], 7, [], rfl, Nat.lt_succ_self _⟩
      | false =>
        replace h := cnd_f h
        cbv
        revert h
        refine st_bin hJ fun v81 ev81 h => ?_
        cbv
        cases h
        exact ⟨⟨(M62, v81, m65, c66), hm67, hr60⟩, [(0, 0), (1, 1), (2, 2), (3, 3), (4, 4), (5, 5), (6, 6)], 7, [], rfl, Nat.lt_succ_self _⟩
    | false =>
      replace h := cnd_f h
      cbv
      cases h
      have h := hq58
      obtain rfl := hr60
      try dsimp only at h
      obtain ⟨l71, h70, h⟩ := bnd h
      obtain ⟨c72, n73, hl74⟩ := nameL eDev_write l71
      refine callM_by hP (s88_2 hl22 hl74 h70) [(1, 0), (6, 1)] false hJ rfl rfl rfl rfl rfl (.inl rfl) ?_
      cbv
      cases h
      obtain ⟨rfl, rfl⟩ := IsL.uniq hl35 hl9
      obtain rfl := hm38.trans (hm12).symm
      obtain rfl := hm41.trans (hm67).symm
      obtain rfl := hm44.trans (hm18).symm
      obtain ⟨rfl, rfl⟩ := IsL.uniq hl48 hl74
      exact ⟨_, .refl _, [], _, _, [(0, 0), (1, 1), (2, 2), (3, 3), (4, 4), (5, 5), (14, 7)], _, rfl, rfl, rfl, rfl, rfl, rfl⟩
end Go.AX
