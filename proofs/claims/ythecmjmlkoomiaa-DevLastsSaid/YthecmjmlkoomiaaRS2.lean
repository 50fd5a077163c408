/- What functions of the program compute: each is what its Lean function says. -/
import Derived.Test.YthecmjmlkoomiaaRM
namespace Go.AX
open Go.Proofs
set_option autoImplicit false
set_option linter.unusedVariables false
set_option maxRecDepth 100000
set_option maxHeartbeats 100000000
set_option linter.unusedSimpArgs false

theorem s66 {a1 : Ar 64} {d2 : List D} {v4 : Int} {v5 : Int} {v6 : Int} {v7 : Int} {v8 : Int} {v9 : Int} {v10 : Int} {l11 : List TZone} {c12 : List D} {n13 : Nat} {m15 : List (Int × Bool)} {c16 : List (List D × List D)} {m18 : List (TAt × (Ar 64))} {c19 : List (List D × List D)} {m21 : List (TAt × (Ar 64))} {c22 : List (List D × List D)} {l24 : List TDev_write} {c25 : List D} {n26 : Nat} {v28 : Int} {b29 : Bool} {v30 : Int} (ha3 : d2 = encL (eI .u8) a1.l) (hl14 : IsL eZone c12 n13 l11) (hm17 : c16 = encM (eI .i64) eB m15) (hm20 : c19 = encM eAt (eA .u8) m18) (hm23 : c22 = encM eAt (eA .u8) m21) (hl27 : IsL eDev_write c25 n26 l24) {v31 : Int} {v32 : Int} {v33 : Int} {v34 : Int} {v35 : Int} {l36 : List TZone} {c37 : List D} {n38 : Nat} {m40 : List (Int × Bool)} {c41 : List (List D × List D)} {m43 : List (TAt × (Ar 64))} {c44 : List (List D × List D)} {m46 : List (TAt × (Ar 64))} {c47 : List (List D × List D)} {l49 : List TDev_write} {c50 : List D} {n51 : Nat} {v53 : Int} {b54 : Bool} {v55 : Int} (hl39 : IsL eZone c37 n38 l36) (hm42 : c41 = encM (eI .i64) eB m40) (hm45 : c44 = encM eAt (eA .u8) m43) (hm48 : c47 = encM eAt (eA .u8) m46) (hl52 : IsL eDev_write c50 n51 l49) (h : m___dev_Device__Write_1 a1 (TAt.mk v4 v5) (TDev_Device.mk (TGeom.mk v6 v7 v8 v9 v10) l11 m15 m18 m21 l24 v28 b29 v30) = some (TDev_Device.mk (TGeom.mk v31 v32 v33 v34 v35) l36 m40 m43 m46 l49 v53 b54 v55)) : SpecM Try.prog 66 9 [(0, .box [.big 64 d2]), (1, .box [.ptr 3 0]), (2, .box [.d (.int .i64 v4), .d (.int .i64 v5)]), (3, .box [.d (.int .i64 v6), .d (.int .i64 v7), .d (.int .i64 v8), .d (.int .i64 v9), .d (.int .i64 v10), .own 4 n13 2, .map 5, .map 6, .map 7, .own 8 n26 66, .d (.int .i64 v28), .d (.bool b29), .d (.int .i64 v30)]), (4, .row c12 2 53), (5, .mp false false c16), (6, .mp true true c19), (7, .mp true true c22), (8, .row c25 66 109)] [.ptr 0 0, .ptr 1 0, .ptr 2 0] ⟨.tup [], [(0, .box [.big 64 d2]), (1, .box [.ptr 3 0]), (2, .box [.d (.int .i64 v4), .d (.int .i64 v5)]), (3, .box [.d (.int .i64 v31), .d (.int .i64 v32), .d (.int .i64 v33), .d (.int .i64 v34), .d (.int .i64 v35), .own 4 n38 2, .map 5, .map 6, .map 7, .own 9 n51 66, .d (.int .i64 v53), .d (.bool b54), .d (.int .i64 v55)]), (4, .row c37 2 53), (5, .mp false false c41), (6, .mp true true c44), (7, .mp true true c47), (9, .row c50 66 109), (8, .dead)], 1, True⟩ := by
  refine specM_b [] 8 9 Try.func66 rfl rfl rfl rfl rfl rfl fun J P hJ hP => ?_
  dsimp only [m___dev_Device__Write_1] at h
  cbv
  revert h
  refine st_up hJ eAt_kinds hm23 (k := (TAt.mk v4 v5)) rfl (v := a1) (fun hJ => by rw [(show d2 = encL (eI .u8) a1.l from ha3)]; subst hJ; first | done | rfl | simp [stdJ, std, eA, eA, encL, eI]) fun c58 m57 hm59 h => ?_
  cbv
  refine ⟨fun _ => by kernel_rfl, ?_⟩
  cbv
  have hl60 : IsL eDev_write ((D.int .i64 v4) :: ((D.int .i64 v5) :: (J .app d2 []))) 1 [(TDev_write.mk (TAt.mk v4 v5) a1)] := ⟨by rw [(show d2 = encL (eI .u8) a1.l from ha3)]; subst hJ; simp [stdJ, std, encL, eDev_write, eI], rfl⟩
  refine st_any hJ rfl rfl (by subst hJ; exact (by decide : 66 ≤ 16777216)) ?_
  cbv
  revert h
  refine st_app hJ eDev_write_len hl27 hl60 fun c62 n63 l61 hl64 h => ?_
  cbv
  refine ⟨fun _ => by kernel_rfl, ?_⟩
  cbv
  cases h
  obtain ⟨rfl, rfl⟩ := IsL.uniq hl39 hl14
  obtain rfl := hm42.trans (hm17).symm
  obtain rfl := hm45.trans (hm20).symm
  obtain rfl := hm48.trans (hm59).symm
  obtain ⟨rfl, rfl⟩ := IsL.uniq hl52 hl64
  exact ⟨_, .refl _, [], _, _, [(0, 0), (1, 1), (2, 2), (3, 3), (4, 4), (5, 5), (6, 6), (7, 7), (26, 9)], _, rfl, rfl, rfl, rfl, rfl, rfl⟩
theorem s87 {v1 : Int} {v2 : Int} {v3 : Int} {v4 : Int} {v5 : Int} {l6 : List TZone} {c7 : List D} {n8 : Nat} {m10 : List (Int × Bool)} {c11 : List (List D × List D)} {m13 : List (TAt × (Ar 64))} {c14 : List (List D × List D)} {m16 : List (TAt × (Ar 64))} {c17 : List (List D × List D)} {l19 : List TDev_write} {c20 : List D} {n21 : Nat} {v23 : Int} {b24 : Bool} {v25 : Int} (hl9 : IsL eZone c7 n8 l6) (hm12 : c11 = encM (eI .i64) eB m10) (hm15 : c14 = encM eAt (eA .u8) m13) (hm18 : c17 = encM eAt (eA .u8) m16) (hl22 : IsL eDev_write c20 n21 l19) {v26 : Int} {v27 : Int} {v28 : Int} {v29 : Int} {v30 : Int} {l31 : List TZone} {c32 : List D} {n33 : Nat} {m35 : List (Int × Bool)} {c36 : List (List D × List D)} {m38 : List (TAt × (Ar 64))} {c39 : List (List D × List D)} {m41 : List (TAt × (Ar 64))} {c42 : List (List D × List D)} {l44 : List TDev_write} {c45 : List D} {n46 : Nat} {v48 : Int} {b49 : Bool} {v50 : Int} (hl34 : IsL eZone c32 n33 l31) (hm37 : c36 = encM (eI .i64) eB m35) (hm40 : c39 = encM eAt (eA .u8) m38) (hm43 : c42 = encM eAt (eA .u8) m41) (hl47 : IsL eDev_write c45 n46 l44) (h : m___dev_Device__count (TDev_Device.mk (TGeom.mk v1 v2 v3 v4 v5) l6 m10 m13 m16 l19 v23 b24 v25) = some (TDev_Device.mk (TGeom.mk v26 v27 v28 v29 v30) l31 m35 m38 m41 l44 v48 b49 v50)) : SpecM Try.prog 87 6 [(0, .box [.d (.int .i64 v1), .d (.int .i64 v2), .d (.int .i64 v3), .d (.int .i64 v4), .d (.int .i64 v5), .own 1 n8 2, .map 2, .map 3, .map 4, .own 5 n21 66, .d (.int .i64 v23), .d (.bool b24), .d (.int .i64 v25)]), (1, .row c7 2 53), (2, .mp false false c11), (3, .mp true true c14), (4, .mp true true c17), (5, .row c20 66 109)] [.ptr 0 0] ⟨.tup [], [(0, .box [.d (.int .i64 v26), .d (.int .i64 v27), .d (.int .i64 v28), .d (.int .i64 v29), .d (.int .i64 v30), .own 1 n33 2, .map 2, .map 3, .map 4, .own 5 n46 66, .d (.int .i64 v48), .d (.bool b49), .d (.int .i64 v50)]), (1, .row c32 2 53), (2, .mp false false c36), (3, .mp true true c39), (4, .mp true true c42), (5, .row c45 66 109)], 0, True⟩ := by
  refine specM_b [] 6 6 Try.func87 rfl rfl rfl rfl rfl rfl fun J P hJ hP => ?_
  dsimp only [m___dev_Device__count] at h
  cbv
  revert h
  refine st_cmp hJ fun b52 eb52 h => ?_
  cbv
  cases b52 with
  | true =>
    replace h := cnd_t h
    cbv
    revert h
    refine st_bin hJ fun v53 ev53 h => ?_
    cbv
    revert h
    refine st_cmp hJ fun b54 eb54 h => ?_
    cbv
    cases h
    obtain ⟨rfl, rfl⟩ := IsL.uniq hl34 hl9
    obtain rfl := hm37.trans (hm12).symm
    obtain rfl := hm40.trans (hm15).symm
    obtain rfl := hm43.trans (hm18).symm
    obtain ⟨rfl, rfl⟩ := IsL.uniq hl47 hl22
    exact ⟨_, .refl _, [], _, _, [(0, 0), (1, 1), (2, 2), (3, 3), (4, 4), (5, 5)], _, rfl, rfl, rfl, rfl, rfl, rfl⟩
  | false =>
    replace h := cnd_f h
    cbv
    cases h
    obtain ⟨rfl, rfl⟩ := IsL.uniq hl34 hl9
    obtain rfl := hm37.trans (hm12).symm
    obtain rfl := hm40.trans (hm15).symm
    obtain rfl := hm43.trans (hm18).symm
    obtain ⟨rfl, rfl⟩ := IsL.uniq hl47 hl22
    exact ⟨_, .refl _, [], _, _, [(0, 0), (1, 1), (2, 2), (3, 3), (4, 4), (5, 5)], _, rfl, rfl, rfl, rfl, rfl, rfl⟩
theorem s56 {v1 : Int} {v2 : Int} {a3 : Ar 64} {d4 : List D} (ha5 : d4 = encL (eI .u8) a3.l) {b6 : Bool}  (h : m___dev_Device__Flush_1_1 (TDev_write.mk (TAt.mk v1 v2) a3) = some b6) : Spec Try.prog 56 [.agg [.d (.int .i64 v1), .d (.int .i64 v2), .big 64 d4]] ⟨.d (.bool b6), [], 0, True⟩ := by
  refine spec_b [] Try.func56 rfl rfl rfl fun J P hJ hP => ?_
  dsimp only [m___dev_Device__Flush_1_1] at h
  cbv
  cases h
  exact ⟨_, .refl _, [], _, _, [], _, rfl, rfl, rfl, rfl, rfl, rfl⟩
end Go.AX
