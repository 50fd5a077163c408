/- What functions of the program compute: each is what its Lean function says. -/
import Derived.Test.YthecmjmlkoomiaaRM
namespace Go.AX
open Go.Proofs
set_option autoImplicit false
set_option linter.unusedVariables false
set_option maxRecDepth 100000
set_option maxHeartbeats 100000000
set_option linter.unusedSimpArgs false

theorem s58 {l1 : List Int} {c2 : List D} {n3 : Nat} {v5 : Int} {v6 : Int} {v7 : Int} {v8 : Int} {v9 : Int} {v10 : Int} {v11 : Int} {v12 : Int} {l13 : List TZone} {c14 : List D} {n15 : Nat} {m17 : List (Int × Bool)} {c18 : List (List D × List D)} {m20 : List (TAt × (Ar 64))} {c21 : List (List D × List D)} {m23 : List (TAt × (Ar 64))} {c24 : List (List D × List D)} {l26 : List TDev_write} {c27 : List D} {n28 : Nat} {v30 : Int} {b31 : Bool} {v32 : Int} (hl4 : IsL (eI .i64) c2 n3 l1) (hl16 : IsL eZone c14 n15 l13) (hm19 : c18 = encM (eI .i64) eB m17) (hm22 : c21 = encM eAt (eA .u8) m20) (hm25 : c24 = encM eAt (eA .u8) m23) (hl29 : IsL eDev_write c27 n28 l26) {v33 : Int}  (h : m___dev_Device__keep (TWreck.mk l1 v5 v6) v7 (TDev_Device.mk (TGeom.mk v8 v9 v10 v11 v12) l13 m17 m20 m23 l26 v30 b31 v32) = some v33) : SpecM Try.prog 58 6 [(0, .box [.d (.int .i64 v8), .d (.int .i64 v9), .d (.int .i64 v10), .d (.int .i64 v11), .d (.int .i64 v12), .own 1 n15 2, .map 2, .map 3, .map 4, .own 5 n28 66, .d (.int .i64 v30), .d (.bool b31), .d (.int .i64 v32)]), (1, .row c14 2 53), (2, .mp false false c18), (3, .mp true true c21), (4, .mp true true c24), (5, .row c27 66 109)] [.ptr 0 0, .agg [.d (.lst c2 n3), .d (.int .u64 v5), .d (.int .i64 v6)], .d (.int .i64 v7)] ⟨.d (.int .i64 v33), [(0, .box [.d (.int .i64 v8), .d (.int .i64 v9), .d (.int .i64 v10), .d (.int .i64 v11), .d (.int .i64 v12), .own 1 n15 2, .map 2, .map 3, .map 4, .own 5 n28 66, .d (.int .i64 v30), .d (.bool b31), .d (.int .i64 v32)]), (1, .row c14 2 53), (2, .mp false false c18), (3, .mp true true c21), (4, .mp true true c24), (5, .row c27 66 109)], 0, True⟩ := by
  refine specM_b [] 6 6 Try.func58 rfl rfl rfl rfl rfl rfl fun J P hJ hP => ?_
  dsimp only [m___dev_Device__keep] at h
  cbv
  revert h
  refine st_bin hJ fun v35 ev35 h => ?_
  cbv
  revert h
  refine st_len hJ hl4 fun v36 ev36 h => ?_
  cbv
  revert h
  refine st_cmp hJ fun b37 eb37 h => ?_
  cbv
  cases b37 with
  | true =>
    replace h := cnd_t h
    cbv
    revert h
    refine st_idx_lp hJ hl4 fun y38 k39 hy40 ho41 h => ?_
    cbv
    refine st_ld hJ (eI_len .i64) hl4 hy40 ho41 0 (fun hJ => by subst hJ; rfl) ([.int .i64 y38]) (Nat.le_of_ble_eq_true rfl) rfl (.int .nil) rfl ?_
    cbv
    revert h
    refine st_max hJ fun v43 ev43 h => ?_
    cbv
    cases h
    exact ⟨_, .refl _, [], _, _, [(0, 0), (1, 1), (2, 2), (3, 3), (4, 4), (5, 5)], _, rfl, rfl, rfl, rfl, rfl, rfl⟩
  | false =>
    replace h := cnd_f h
    cbv
    cases h
    exact ⟨_, .refl _, [], _, _, [(0, 0), (1, 1), (2, 2), (3, 3), (4, 4), (5, 5)], _, rfl, rfl, rfl, rfl, rfl, rfl⟩
theorem s59 {v1 : Int} {v2 : Int} {a3 : Ar 64} {d4 : List D} {v6 : Int} {v7 : Int} {v8 : Int} {v9 : Int} {v10 : Int} {v11 : Int} {l12 : List TZone} {c13 : List D} {n14 : Nat} {m16 : List (Int × Bool)} {c17 : List (List D × List D)} {m19 : List (TAt × (Ar 64))} {c20 : List (List D × List D)} {m22 : List (TAt × (Ar 64))} {c23 : List (List D × List D)} {l25 : List TDev_write} {c26 : List D} {n27 : Nat} {v29 : Int} {b30 : Bool} {v31 : Int} (ha5 : d4 = encL (eI .u8) a3.l) (hl15 : IsL eZone c13 n14 l12) (hm18 : c17 = encM (eI .i64) eB m16) (hm21 : c20 = encM eAt (eA .u8) m19) (hm24 : c23 = encM eAt (eA .u8) m22) (hl28 : IsL eDev_write c26 n27 l25) {v32 : Int} {v33 : Int} {v34 : Int} {v35 : Int} {v36 : Int} {l37 : List TZone} {c38 : List D} {n39 : Nat} {m41 : List (Int × Bool)} {c42 : List (List D × List D)} {m44 : List (TAt × (Ar 64))} {c45 : List (List D × List D)} {m47 : List (TAt × (Ar 64))} {c48 : List (List D × List D)} {l50 : List TDev_write} {c51 : List D} {n52 : Nat} {v54 : Int} {b55 : Bool} {v56 : Int} (hl40 : IsL eZone c38 n39 l37) (hm43 : c42 = encM (eI .i64) eB m41) (hm46 : c45 = encM eAt (eA .u8) m44) (hm49 : c48 = encM eAt (eA .u8) m47) (hl53 : IsL eDev_write c51 n52 l50) (h : m___dev_Device__tear (TDev_write.mk (TAt.mk v1 v2) a3) v6 (TDev_Device.mk (TGeom.mk v7 v8 v9 v10 v11) l12 m16 m19 m22 l25 v29 b30 v31) = some (TDev_Device.mk (TGeom.mk v32 v33 v34 v35 v36) l37 m41 m44 m47 l50 v54 b55 v56)) : SpecM Try.prog 59 6 [(0, .box [.d (.int .i64 v7), .d (.int .i64 v8), .d (.int .i64 v9), .d (.int .i64 v10), .d (.int .i64 v11), .own 1 n14 2, .map 2, .map 3, .map 4, .own 5 n27 66, .d (.int .i64 v29), .d (.bool b30), .d (.int .i64 v31)]), (1, .row c13 2 53), (2, .mp false false c17), (3, .mp true true c20), (4, .mp true true c23), (5, .row c26 66 109)] [.ptr 0 0, .agg [.d (.int .i64 v1), .d (.int .i64 v2), .big 64 d4], .d (.int .i64 v6)] ⟨.tup [], [(0, .box [.d (.int .i64 v32), .d (.int .i64 v33), .d (.int .i64 v34), .d (.int .i64 v35), .d (.int .i64 v36), .own 1 n39 2, .map 2, .map 3, .map 4, .own 5 n52 66, .d (.int .i64 v54), .d (.bool b55), .d (.int .i64 v56)]), (1, .row c38 2 53), (2, .mp false false c42), (3, .mp true true c45), (4, .mp true true c48), (5, .row c51 66 109)], 0, True⟩ := by
  refine specM_b [8] 6 6 Try.func59 rfl rfl rfl rfl rfl rfl fun J P hJ hP => ?_
  dsimp only [m___dev_Device__tear] at h
  cbv
  obtain ⟨j59, hj60, h⟩ := jn h
  refine JoinP.mk ({x : (Ar 64) × (List D) // x.2 = encL (eI .u8) x.1.l ∧ j59 (x.1) = some (TDev_Device.mk (TGeom.mk v32 v33 v34 v35 v36) l37 m41 m44 m47 l50 v54 b55 v56)}) (fun x => ⟨[(0, .ptr 0 0), (2, .d (.int .i64 v6)), (4, .ptr 6 0), (6, .ptr 7 0)], [(0, .box [.d (.int .i64 v7), .d (.int .i64 v8), .d (.int .i64 v9), .d (.int .i64 v10), .d (.int .i64 v11), .own 1 n14 2, .map 2, .map 3, .map 4, .own 5 n27 66, .d (.int .i64 v29), .d (.bool b30), .d (.int .i64 v31)]), (1, .row c13 2 53), (2, .mp false false c17), (3, .mp true true c20), (4, .mp true true c23), (5, .row c26 66 109), (6, .box [.d (.int .i64 v1), .d (.int .i64 v2), .big 64 d4]), (7, .box [.big 64 x.1.2])], 8, 38⟩) (fun _ => True) [0, 2, 4, 6] ?_ ?_
  · cbv
    revert h
    refine st_cmp hJ fun b61 eb61 h => ?_
    cbv
    refine ⟨fun _ => by kernel_rfl, ?_⟩
    cbv
    cases b61 with
    | true =>
      replace h := cnd_t h
      cbv
      obtain ⟨o62, ho62, h⟩ := letv h
      obtain ⟨y63, hy63, h⟩ := letv h
      obtain ⟨b64, hb64, h⟩ := letv h
      obtain ⟨d66, ha67⟩ := nameA .u8 y63
      refine st_lk hJ eAt_kinds hm21 (k := (TAt.mk v1 v2)) rfl (z := (Ar.zero 64)) (by rfl) (eA_len .u8) ho62 hy63 hb64 (ds := d66 ++ []) (by rw [(show d66 = encL (eI .u8) y63.l from ha67)]; first | done | rfl | simp [eA, encL, eI]) (.big ⟨by rw [(show d66 = encL (eI .u8) y63.l from ha67)]; exact eA_len _ _, by decide⟩ .nil) rfl ?_
      cbv
      refine ⟨fun _ => by kernel_rfl, ?_⟩
      cbv
      exact ⟨⟨(y63, d66), ha67, h⟩, [(0, 0), (1, 1), (2, 2), (3, 3), (4, 4), (5, 5), (6, 6), (8, 7)], 8, [], rfl, trivial⟩
    | false =>
      replace h := cnd_f h
      cbv
      exact ⟨⟨((Ar.zero 64), (J .rep 64 (.int .u8 0))), (rep_z hJ 64 .u8), h⟩, [(0, 0), (1, 1), (2, 2), (3, 3), (4, 4), (5, 5), (6, 6), (8, 7)], 8, [], rfl, trivial⟩
  · rintro ⟨⟨a61, d62⟩, ha63, h⟩ -
    rw [hj60] at h
    try dsimp only at h ⊢
    cbv
    revert h
    refine st_min hJ fun v64 ev64 h => ?_
    cbv
    revert h
    refine st_sla hJ (eI_len .u8) (cells := d62) ha63 (Ar.h a61) fun c66 n67 l65 k69 hl68 hs70 h => ?_
    cbv
    revert h
    refine st_sla hJ (eI_len .u8) (cells := d4) ha5 (Ar.h a3) fun c72 n73 l71 k75 hl74 hs76 h => ?_
    cbv
    obtain ⟨a77, ha79, h⟩ := letv h
    obtain ⟨d78, hd78⟩ := nameA .u8 a77
    obtain ⟨v80, hv80, h⟩ := letv h
    obtain ⟨e811, e812, e813⟩ := cpA_facts hJ ha63 hl68 hs70 (fun hJ => (srcA hJ ha5 hl74 hs76)) hl74.n ha79 hd78 hv80
    refine st_any hJ (v' := .d (.int .i64 v80)) (wr' := [(7, .box [.big 64 d78])]) (by rw [e812]) (by rw [e811]) (by first | exact ⟨trivial, e813⟩ | exact e813) ?_
    cbv
    refine ⟨fun _ => by kernel_rfl, ?_⟩
    cbv
    revert h
    refine st_up hJ eAt_kinds hm21 (k := (TAt.mk v1 v2)) rfl (v := a77) (fun hJ => by rw [(show d78 = encL (eI .u8) a77.l from hd78)]; subst hJ; first | done | rfl | simp [stdJ, std, eA, eA, encL, eI]) fun c83 m82 hm84 h => ?_
    cbv
    refine ⟨fun _ => by kernel_rfl, ?_⟩
    cbv
    cases h
    obtain ⟨rfl, rfl⟩ := IsL.uniq hl40 hl15
    obtain rfl := hm43.trans (hm18).symm
    obtain rfl := hm46.trans (hm84).symm
    obtain rfl := hm49.trans (hm24).symm
    obtain ⟨rfl, rfl⟩ := IsL.uniq hl53 hl28
    exact ⟨_, .refl _, [], _, _, [(0, 0), (1, 1), (2, 2), (3, 3), (4, 4), (5, 5)], _, rfl, rfl, rfl, rfl, rfl, rfl⟩
end Go.AX
