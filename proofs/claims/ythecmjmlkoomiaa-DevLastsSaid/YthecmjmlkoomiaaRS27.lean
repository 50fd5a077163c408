/- What functions of the program compute: each is what its Lean function says. -/
import Derived.Test.YthecmjmlkoomiaaRS2
import Derived.Test.YthecmjmlkoomiaaRS20
namespace Go.AX
open Go.Proofs
set_option autoImplicit false
set_option linter.unusedVariables false
set_option maxRecDepth 100000
set_option maxHeartbeats 100000000
set_option linter.unusedSimpArgs false

theorem s55 {v1 : Int} {v2 : Int} {v3 : Int} {v4 : Int} {v5 : Int} {l6 : List TZone} {c7 : List D} {n8 : Nat} {m10 : List (Int × Bool)} {c11 : List (List D × List D)} {m13 : List (TAt × (Ar 64))} {c14 : List (List D × List D)} {m16 : List (TAt × (Ar 64))} {c17 : List (List D × List D)} {l19 : List TDev_write} {c20 : List D} {n21 : Nat} {v23 : Int} {b24 : Bool} {v25 : Int} (hl9 : IsL eZone c7 n8 l6) (hm12 : c11 = encM (eI .i64) eB m10) (hm15 : c14 = encM eAt (eA .u8) m13) (hm18 : c17 = encM eAt (eA .u8) m16) (hl22 : IsL eDev_write c20 n21 l19) {v26 : Int} {v27 : Int} {v28 : Int} {v29 : Int} {v30 : Int} {l31 : List TZone} {c32 : List D} {n33 : Nat} {m35 : List (Int × Bool)} {c36 : List (List D × List D)} {m38 : List (TAt × (Ar 64))} {c39 : List (List D × List D)} {m41 : List (TAt × (Ar 64))} {c42 : List (List D × List D)} {l44 : List TDev_write} {c45 : List D} {n46 : Nat} {v48 : Int} {b49 : Bool} {v50 : Int} (hl34 : IsL eZone c32 n33 l31) (hm37 : c36 = encM (eI .i64) eB m35) (hm40 : c39 = encM eAt (eA .u8) m38) (hm43 : c42 = encM eAt (eA .u8) m41) (hl47 : IsL eDev_write c45 n46 l44) (h : m___dev_Device__lasts (TDev_Device.mk (TGeom.mk v1 v2 v3 v4 v5) l6 m10 m13 m16 l19 v23 b24 v25) = some (TDev_Device.mk (TGeom.mk v26 v27 v28 v29 v30) l31 m35 m38 m41 l44 v48 b49 v50)) : SpecM Try.prog 55 6 [(0, .box [.d (.int .i64 v1), .d (.int .i64 v2), .d (.int .i64 v3), .d (.int .i64 v4), .d (.int .i64 v5), .own 1 n8 2, .map 2, .map 3, .map 4, .own 5 n21 66, .d (.int .i64 v23), .d (.bool b24), .d (.int .i64 v25)]), (1, .row c7 2 53), (2, .mp false false c11), (3, .mp true true c14), (4, .mp true true c17), (5, .row c20 66 109)] [.ptr 0 0, .fn 56 []] ⟨.tup [], [(0, .box [.d (.int .i64 v26), .d (.int .i64 v27), .d (.int .i64 v28), .d (.int .i64 v29), .d (.int .i64 v30), .own 1 n33 2, .map 2, .map 3, .map 4, .own 6 n46 66, .d (.int .i64 v48), .d (.bool b49), .d (.int .i64 v50)]), (1, .row c32 2 53), (2, .mp false false c36), (3, .mp true true c39), (4, .mp true true c42), (6, .row c45 66 109), (5, .dead)], 1, True⟩ := by
  refine specM_b [] 5 6 Try.func55 rfl rfl rfl rfl rfl rfl fun J P hJ hP => ?_
  dsimp only [m___dev_Device__lasts] at h
  cbv
  revert h
  refine st_len hJ hl22 fun v52 ev52 h => ?_
  cbv
  obtain ⟨p54, q53, hp55, hf56, hq57⟩ := bnd_loop h
  clear h
  refine LoopB.mk ({x : Nat × Int × (List (TAt × (Ar 64))) × (List (List D × List D)) // x.2.2.2 = encM eAt (eA .u8) x.2.2.1 ∧ loopN p54 x.1 (x.2.1, x.2.2.1) = some q53}) (fun x => ⟨[(0, .ptr 0 0), (1, .fn 56 []), (9, .own 5 n21 66), (10, .d (.int .i64 v52)), (11, .d (.int .i64 x.1.2.1))], [(0, .box [.d (.int .i64 v1), .d (.int .i64 v2), .d (.int .i64 v3), .d (.int .i64 v4), .d (.int .i64 v5), .own 1 n8 2, .map 2, .map 3, .map 4, .own 5 n21 66, .d (.int .i64 v23), .d (.bool b24), .d (.int .i64 v25)]), (1, .row c7 2 53), (2, .mp false false c11), (3, .mp true true x.1.2.2.2), (4, .mp true true c17), (5, .row c20 66 109)], 6, 36⟩) (fun x => x.1.1) [0, 1, 9, 10, 11] 6 ⟨(FUEL, 0, m13, c14), hm15, hf56⟩ ⟨[(0, 0), (1, 1), (2, 2), (3, 3), (4, 4), (5, 5)], [], ?_⟩ ?_
  · rfl
  · rintro ⟨⟨N60, v63, m64, c65⟩, hm66, hr59⟩
    obtain ⟨M61, o58, eN62, h, hr59⟩ := loopN_step hr59
    subst eN62
    rw [hp55] at h
    try dsimp only at h ⊢
    cbv
    revert h
    refine st_cmp hJ fun b67 eb67 h => ?_
    cbv
    cases b67 with
    | true =>
      replace h := cnd_t h
      cbv
      revert h
      refine st_idx_pr hJ hl22 fun y68 k69 hy70 ho71 h => ?_
      obtain ⟨⟨v72, v73⟩, a74⟩ := y68
      obtain ⟨d75, ha76⟩ := nameA .u8 a74
      try dsimp only at h
      cbv
      refine st_ldW hJ eDev_write_len hl22 hy70 ho71 (fun hJ => by subst hJ; rfl) ([.int .i64 v72, .int .i64 v73] ++ (d75 ++ [])) (by rw [(show d75 = encL (eI .u8) a74.l from ha76)]; first | done | rfl | simp [eDev_write, encL_len (k := 1) (eI_len _), Ar.h]) (.int (.int (.big ⟨by rw [(show d75 = encL (eI .u8) a74.l from ha76)]; exact eA_len _ _, by decide⟩ .nil))) rfl ?_
      cbv
      obtain ⟨b79, h78, h⟩ := bnd h
      refine call_by hP (s56 ha76 h78) hJ rfl rfl ?_
      cbv
      cases b79 with
      | true =>
        replace h := cnd_t h
        cbv
        revert h
        refine st_up hJ eAt_kinds hm66 (k := (TAt.mk v72 v73)) rfl (v := a74) (fun hJ => by rw [(show d75 = encL (eI .u8) a74.l from ha76)]; subst hJ; first | done | rfl | simp [stdJ, std, eA, eA, encL, eI]) fun c81 m80 hm82 h => ?_
        cbv
        refine ⟨fun _ => by kernel_rfl, ?_⟩
        cbv
        revert h
        refine st_bin hJ fun v83 ev83 h => ?_
        cbv
        cases h
        exact ⟨⟨(M61, v83, m80, c81), hm82, hr59⟩, [(0, 0), (1, 1), (2, 2), (3, 3), (4, 4), (5, 5)], 6, [], rfl, Nat.lt_succ_self _⟩
      | false =>
        replace h := cnd_f h
        cbv
        revert h
        refine st_bin hJ fun v80 ev80 h => ?_
        cbv
        cases h
        exact ⟨⟨(M61, v80, m64, c65), hm66, hr59⟩, [(0, 0), (1, 1), (2, 2), (3, 3), (4, 4), (5, 5)], 6, [], rfl, Nat.lt_succ_self _⟩
    | false =>
      replace h := cnd_f h
      cbv
      cases h
      have h := hq57
      obtain rfl := hr59
      try dsimp only at h
      obtain ⟨l70, h69, h⟩ := bnd h
      obtain ⟨c71, n72, hl73⟩ := nameL eDev_write l70
      refine callM_by hP (s88 hl22 hl73 h69) [(5, 0)] false hJ rfl rfl rfl rfl rfl (.inl rfl) ?_
      cbv
      cases h
      obtain ⟨rfl, rfl⟩ := IsL.uniq hl34 hl9
      obtain rfl := hm37.trans (hm12).symm
      obtain rfl := hm40.trans (hm66).symm
      obtain rfl := hm43.trans (hm18).symm
      obtain ⟨rfl, rfl⟩ := IsL.uniq hl47 hl73
      exact ⟨_, .refl _, [], _, _, [(0, 0), (1, 1), (2, 2), (3, 3), (4, 4), (13, 6)], _, rfl, rfl, rfl, rfl, rfl, rfl⟩
theorem s62 {v1 : Int} {v2 : Int} {v3 : Int} {v4 : Int} {v5 : Int} {l6 : List TZone} {c7 : List D} {n8 : Nat} {v10 : Int} {v11 : Int} (hl9 : IsL eZone c7 n8 l6) {v12 : Int}  (h : m_zone_Read (TGeom.mk v1 v2 v3 v4 v5) l6 (TAt.mk v10 v11) = some v12) : Spec Try.prog 62 [.agg [.d (.int .i64 v1), .d (.int .i64 v2), .d (.int .i64 v3), .d (.int .i64 v4), .d (.int .i64 v5)], .d (.lst c7 n8), .agg [.d (.int .i64 v10), .d (.int .i64 v11)]] ⟨.d (.int .i64 v12), [], 0, True⟩ := by
  refine spec_b [] Try.func62 rfl rfl rfl fun J P hJ hP => ?_
  dsimp only [m_zone_Read] at h
  cbv
  obtain ⟨b16, h15, h⟩ := bnd h
  refine call_by hP (s90 h15) hJ rfl rfl ?_
  cbv
  revert h
  refine st_not hJ fun b17 eb17 h => ?_
  cbv
  cases b17 with
  | true =>
    replace h := cnd_t h
    cbv
    cases h
    exact ⟨_, .refl _, [], _, _, [], _, rfl, rfl, rfl, rfl, rfl, rfl⟩
  | false =>
    replace h := cnd_f h
    cbv
    revert h
    refine st_idx_lp hJ hl9 fun y18 k19 hy20 ho21 h => ?_
    obtain ⟨v22, v23⟩ := y18
    try dsimp only at h
    cbv
    refine st_ld hJ eZone_len hl9 hy20 ho21 0 (fun hJ => by subst hJ; rfl) ([.int .i64 v22]) (Nat.le_of_ble_eq_true rfl) rfl (.int .nil) rfl ?_
    cbv
    revert h
    refine st_cmp hJ fun b24 eb24 h => ?_
    cbv
    cases b24 with
    | true =>
      replace h := cnd_t h
      cbv
      revert h
      refine st_idx_lp hJ hl9 fun y25 k26 hy27 ho28 h => ?_
      obtain ⟨v29, v30⟩ := y25
      try dsimp only at h
      cbv
      refine st_ld hJ eZone_len hl9 hy27 ho28 1 (fun hJ => by subst hJ; rfl) ([.int .i64 v30]) (Nat.le_of_ble_eq_true rfl) rfl (.int .nil) rfl ?_
      cbv
      revert h
      refine st_cmp hJ fun b31 eb31 h => ?_
      cbv
      refine ⟨fun _ => by kernel_rfl, ?_⟩
      cbv
      cases b31 with
      | true =>
        replace h := cnd_t h
        cbv
        cases h
        exact ⟨_, .refl _, [], _, _, [], _, rfl, rfl, rfl, rfl, rfl, rfl⟩
      | false =>
        replace h := cnd_f h
        cbv
        cases h
        exact ⟨_, .refl _, [], _, _, [], _, rfl, rfl, rfl, rfl, rfl, rfl⟩
    | false =>
      replace h := cnd_f h
      cbv
      refine ⟨fun _ => by kernel_rfl, ?_⟩
      cbv
      cases h
      exact ⟨_, .refl _, [], _, _, [], _, rfl, rfl, rfl, rfl, rfl, rfl⟩
end Go.AX
