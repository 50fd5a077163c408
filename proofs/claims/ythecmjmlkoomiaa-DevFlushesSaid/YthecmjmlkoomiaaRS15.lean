/- What functions of the program compute: each is what its Lean function says. -/
import Derived.Test.YthecmjmlkoomiaaRS6
namespace Go.AX
open Go.Proofs
set_option autoImplicit false
set_option linter.unusedVariables false
set_option maxRecDepth 100000
set_option maxHeartbeats 100000000
set_option linter.unusedSimpArgs false

theorem s48 {v1 : Int} {v2 : Int} {v3 : Int} {v4 : Int} {v5 : Int} {l6 : List TZone} {c7 : List D} {n8 : Nat} {l10 : List Int} {c11 : List D} {n12 : Nat} {l14 : List TRef05_Cell} {c15 : List D} {n16 : Nat} {l18 : List TRef05_Cell} {c19 : List D} {n20 : Nat} {b22 : Bool} {v23 : Int} {b24 : Bool} {v25 : Int} {l26 : List Int} {c27 : List D} {n28 : Nat} {v30 : Int} {v31 : Int} (hl9 : IsL eZone c7 n8 l6) (hl13 : IsL (eI .i64) c11 n12 l10) (hl17 : IsL eRef05_Cell c15 n16 l14) (hl21 : IsL eRef05_Cell c19 n20 l18) (hl29 : IsL (eI .i64) c27 n28 l26) {v32 : Int} {v33 : Int} {v34 : Int} {v35 : Int} {v36 : Int} {l37 : List TZone} {c38 : List D} {n39 : Nat} {l41 : List Int} {c42 : List D} {n43 : Nat} {l45 : List TRef05_Cell} {c46 : List D} {n47 : Nat} {l49 : List TRef05_Cell} {c50 : List D} {n51 : Nat} {b53 : Bool} {v54 : Int} {b55 : Bool} {v56 : Int} (hl40 : IsL eZone c38 n39 l37) (hl44 : IsL (eI .i64) c42 n43 l41) (hl48 : IsL eRef05_Cell c46 n47 l45) (hl52 : IsL eRef05_Cell c50 n51 l49) (h : m_ref05_Crash (TRef05_Disk.mk (TGeom.mk v1 v2 v3 v4 v5) l6 l10 l14 l18 b22 v23 b24 v25) (TWreck.mk l26 v30 v31) = some (TRef05_Disk.mk (TGeom.mk v32 v33 v34 v35 v36) l37 l41 l45 l49 b53 v54 b55 v56)) : Spec Try.prog 48 [.agg [.d (.int .i64 v1), .d (.int .i64 v2), .d (.int .i64 v3), .d (.int .i64 v4), .d (.int .i64 v5), .d (.lst c7 n8), .d (.lst c11 n12), .d (.lst c15 n16), .d (.lst c19 n20), .d (.bool b22), .d (.int .i64 v23), .d (.bool b24), .d (.int .i64 v25)], .agg [.d (.lst c27 n28), .d (.int .u64 v30), .d (.int .i64 v31)]] ⟨.agg [.d (.int .i64 v32), .d (.int .i64 v33), .d (.int .i64 v34), .d (.int .i64 v35), .d (.int .i64 v36), .own 0 n39 2, .d (.lst c42 n43), .own 1 n47 66, .d .nils, .d (.bool b53), .d (.int .i64 v54), .d (.bool b55), .d (.int .i64 v56)], [(0, .row c38 2 53), (1, .row c46 66 104)], 2, True⟩ := by
  refine spec_b [48, 30, 42, 40, 54, 66, 74, 72, 94, 108, 104] Try.func48 rfl rfl rfl fun J P hJ hP => ?_
  dsimp only [m_ref05_Crash] at h
  cbv
  have hl58 : IsL eRef05_Cell [] 0 [] := ⟨rfl, rfl⟩
  refine st_any hJ rfl rfl (by subst hJ; exact (by decide : 0 ≤ 16777216)) ?_
  cbv
  revert h
  refine st_app hJ eRef05_Cell_len hl58 hl17 fun c60 n61 l59 hl62 h => ?_
  cbv
  refine ⟨fun _ => by kernel_rfl, ?_⟩
  cbv
  obtain ⟨p64, q63, hp65, hf66, hq67⟩ := bnd_loop h
  clear h
  refine LoopB.mk ({x : Nat × Int × Int × Int × (Ar 64) × (List D) × (List TRef05_Cell) × (List D) × Nat // x.2.2.2.2.2.1 = encL (eI .i64) x.2.2.2.2.1.l ∧ IsL eRef05_Cell x.2.2.2.2.2.2.2.1 x.2.2.2.2.2.2.2.2 x.2.2.2.2.2.2.1 ∧ loopN p64 x.1 (x.2.1, x.2.2.1, x.2.2.2.1, x.2.2.2.2.1, x.2.2.2.2.2.2.1) = some q63}) (fun x => ⟨[(2, .ptr 0 0), (3, .ptr 1 0), (4, .ptr 2 0), (5, .ptr 3 0), (6, .d (.int .u64 x.1.2.1)), (7, .d (.int .i64 x.1.2.2.1)), (8, .ptr 4 0), (9, .d (.int .i64 x.1.2.2.2.1))], [(0, .box [.d (.int .i64 v1), .d (.int .i64 v2), .d (.int .i64 v3), .d (.int .i64 v4), .d (.int .i64 v5), .d (.lst c7 n8), .d (.lst c11 n12), .d (.lst c15 n16), .d (.lst c19 n20), .d (.bool b22), .d (.int .i64 v23), .d (.bool b24), .d (.int .i64 v25)]), (1, .box [.d (.lst c27 n28), .d (.int .u64 v30), .d (.int .i64 v31)]), (2, .box [.d (.int .i64 0), .d (.int .i64 0), .d (.int .i64 0), .d (.int .i64 0), .d (.int .i64 0), .d .nils, .d .nils, .d .nils, .d .nils, .d (.bool false), .d (.int .i64 0), .d (.bool false), .d (.int .i64 0)]), (3, .box [.d (.int .i64 v1), .d (.int .i64 v2), .d (.int .i64 v3), .d (.int .i64 v4), .d (.int .i64 v5), .d .nils, .d (.lst c11 n12), .own 5 x.1.2.2.2.2.2.2.2.2 66, .d .nils, .d (.bool false), .d (.int .i64 0), .d (.bool false), .d (.int .i64 v25)]), (4, .box [.big 64 x.1.2.2.2.2.2.1]), (5, .row x.1.2.2.2.2.2.2.2.1 66 104)], 6, 245⟩) (fun x => x.1.1) [2, 3, 4, 5, 6, 7, 8, 9] 6 ⟨(FUEL, v30, 0, 0, (Ar.zero 64), (J .rep 64 (.int .i64 0)), l59, c60, n61), (rep_z hJ 64 .i64), hl62, hf66⟩ ⟨[(0, 0), (2, 1), (4, 2), (19, 3), (26, 4), (16, 5)], [], ?_⟩ ?_
  · rfl
  · rintro ⟨⟨N70, v73, v74, v75, a76, d77, l79, c80, n81⟩, ha78, hl82, hr69⟩
    obtain ⟨M71, o68, eN72, h, hr69⟩ := loopN_step hr69
    subst eN72
    rw [hp65] at h
    try dsimp only at h ⊢
    cbv
    revert h
    refine st_len hJ hl21 fun v83 ev83 h => ?_
    cbv
    revert h
    refine st_cmp hJ fun b84 eb84 h => ?_
    cbv
    cases b84 with
    | true =>
      replace h := cnd_t h
      cbv
      revert h
      refine st_idx_lp hJ hl21 fun y85 k86 hy87 ho88 h => ?_
      obtain ⟨⟨v89, v90⟩, a91⟩ := y85
      obtain ⟨d92, ha93⟩ := nameA .u8 a91
      try dsimp only at h
      cbv
      refine st_ldW hJ eRef05_Cell_len hl21 hy87 ho88 (fun hJ => by subst hJ; rfl) ([.int .i64 v89, .int .i64 v90] ++ (d92 ++ [])) (by rw [(show d92 = encL (eI .u8) a91.l from ha93)]; first | done | rfl | simp [eRef05_Cell, encL_len (k := 1) (eI_len _), Ar.h]) (.int (.int (.big ⟨by rw [(show d92 = encL (eI .u8) a91.l from ha93)]; exact eA_len _ _, by decide⟩ .nil))) rfl ?_
      cbv
      obtain ⟨j95, hj96, h⟩ := jn h
      refine JoinP.mk ({x : Int × Int × Bool × Bool × (Ar 64) × (List D) // x.2.2.2.2.2 = encL (eI .i64) x.2.2.2.2.1.l ∧ j95 (x.1, x.2.1, x.2.2.1, x.2.2.2.1, x.2.2.2.2.1) = some o68}) (fun x => ⟨[(2, .ptr 0 0), (3, .ptr 1 0), (4, .ptr 2 0), (5, .ptr 3 0), (6, .d (.int .u64 x.1.1)), (7, .d (.int .i64 x.1.2.1)), (8, .ptr 4 0), (9, .d (.int .i64 v75)), (10, .ptr 5 0), (11, .d (.int .i64 v89)), (12, .d (.bool x.1.2.2.1)), (13, .d (.bool x.1.2.2.2.1))], [(0, .box [.d (.int .i64 v1), .d (.int .i64 v2), .d (.int .i64 v3), .d (.int .i64 v4), .d (.int .i64 v5), .d (.lst c7 n8), .d (.lst c11 n12), .d (.lst c15 n16), .d (.lst c19 n20), .d (.bool b22), .d (.int .i64 v23), .d (.bool b24), .d (.int .i64 v25)]), (1, .box [.d (.lst c27 n28), .d (.int .u64 v30), .d (.int .i64 v31)]), (2, .box [.d (.int .i64 0), .d (.int .i64 0), .d (.int .i64 0), .d (.int .i64 0), .d (.int .i64 0), .d .nils, .d .nils, .d .nils, .d .nils, .d (.bool false), .d (.int .i64 0), .d (.bool false), .d (.int .i64 0)]), (3, .box [.d (.int .i64 v1), .d (.int .i64 v2), .d (.int .i64 v3), .d (.int .i64 v4), .d (.int .i64 v5), .d .nils, .d (.lst c11 n12), .own 6 n81 66, .d .nils, .d (.bool false), .d (.int .i64 0), .d (.bool false), .d (.int .i64 v25)]), (4, .box [.big 64 x.1.2.2.2.2.2]), (5, .box [.d (.int .i64 v89), .d (.int .i64 v90), .big 64 d92]), (6, .row c80 66 104)], 7, 245⟩) (fun _ => True) [2, 3, 4, 5, 6, 7, 8, 9, 10, 11, 12, 13] ?_ ?_
      · cbv
        revert h
        refine st_cmp hJ fun b97 eb97 h => ?_
        cbv
        cases b97 with
        | true =>
          replace h := cnd_t h
          cbv
          obtain ⟨j99, hj100, h⟩ := jn h
          refine JoinP.mk ({x : Int // j99 (x) = some o68}) (fun x => ⟨[(2, .ptr 0 0), (3, .ptr 1 0), (4, .ptr 2 0), (5, .ptr 3 0), (6, .d (.int .u64 x.1)), (7, .d (.int .i64 v74)), (8, .ptr 4 0), (9, .d (.int .i64 v75)), (10, .ptr 5 0), (11, .d (.int .i64 v89)), (13, .d (.bool true))], [(0, .box [.d (.int .i64 v1), .d (.int .i64 v2), .d (.int .i64 v3), .d (.int .i64 v4), .d (.int .i64 v5), .d (.lst c7 n8), .d (.lst c11 n12), .d (.lst c15 n16), .d (.lst c19 n20), .d (.bool b22), .d (.int .i64 v23), .d (.bool b24), .d (.int .i64 v25)]), (1, .box [.d (.lst c27 n28), .d (.int .u64 v30), .d (.int .i64 v31)]), (2, .box [.d (.int .i64 0), .d (.int .i64 0), .d (.int .i64 0), .d (.int .i64 0), .d (.int .i64 0), .d .nils, .d .nils, .d .nils, .d .nils, .d (.bool false), .d (.int .i64 0), .d (.bool false), .d (.int .i64 0)]), (3, .box [.d (.int .i64 v1), .d (.int .i64 v2), .d (.int .i64 v3), .d (.int .i64 v4), .d (.int .i64 v5), .d .nils, .d (.lst c11 n12), .own 6 n81 66, .d .nils, .d (.bool false), .d (.int .i64 0), .d (.bool false), .d (.int .i64 v25)]), (4, .box [.big 64 d77]), (5, .box [.d (.int .i64 v89), .d (.int .i64 v90), .big 64 d92]), (6, .row c80 66 104)], 7, 245⟩) (fun _ => True) [2, 3, 4, 5, 6, 7, 8, 9, 10, 11, 13] ?_ ?_
          · cbv
            revert h
            refine st_div hJ fun v101 zv101 ev101 h => ?_
            cbv
            revert h
            refine st_cmp hJ fun b102 eb102 h => ?_
            cbv
            cases b102 with
            | true =>
              replace h := cnd_t h
              cbv
              exact ⟨⟨(v30), h⟩, [(0, 0), (1, 1), (2, 2), (3, 3), (4, 4), (16, 5), (5, 6)], 7, [], rfl, trivial⟩
            | false =>
              replace h := cnd_f h
              cbv
              exact ⟨⟨(v73), h⟩, [(0, 0), (1, 1), (2, 2), (3, 3), (4, 4), (16, 5), (5, 6)], 7, [], rfl, trivial⟩
          · rintro ⟨v101, h⟩ -
            rw [hj100] at h
            try dsimp only at h ⊢
            cbv
            revert h
            refine st_div hJ fun v102 zv102 ev102 h => ?_
            cbv
            revert h
            refine st_cmp hJ fun b103 eb103 h => ?_
            cbv
            revert h
            refine st_div hJ fun v104 zv104 ev104 h => ?_
            cbv
            revert h
            refine st_bin hJ fun v105 ev105 h => ?_
            cbv
            exact ⟨⟨(v104, v105, b103, true, a76, d77), ha78, h⟩, [(0, 0), (1, 1), (2, 2), (3, 3), (4, 4), (5, 5), (6, 6)], 7, [], rfl, trivial⟩
        | false =>
          replace h := cnd_f h
          cbv
          obtain ⟨j99, hj100, h⟩ := jn h
          refine JoinP.mk ({x : Int // j99 (x) = some o68}) (fun x => ⟨[(2, .ptr 0 0), (3, .ptr 1 0), (4, .ptr 2 0), (5, .ptr 3 0), (6, .d (.int .u64 v73)), (7, .d (.int .i64 v74)), (8, .ptr 4 0), (9, .d (.int .i64 v75)), (10, .ptr 5 0), (11, .d (.int .i64 v89)), (14, .d (.int .i64 x.1))], [(0, .box [.d (.int .i64 v1), .d (.int .i64 v2), .d (.int .i64 v3), .d (.int .i64 v4), .d (.int .i64 v5), .d (.lst c7 n8), .d (.lst c11 n12), .d (.lst c15 n16), .d (.lst c19 n20), .d (.bool b22), .d (.int .i64 v23), .d (.bool b24), .d (.int .i64 v25)]), (1, .box [.d (.lst c27 n28), .d (.int .u64 v30), .d (.int .i64 v31)]), (2, .box [.d (.int .i64 0), .d (.int .i64 0), .d (.int .i64 0), .d (.int .i64 0), .d (.int .i64 0), .d .nils, .d .nils, .d .nils, .d .nils, .d (.bool false), .d (.int .i64 0), .d (.bool false), .d (.int .i64 0)]), (3, .box [.d (.int .i64 v1), .d (.int .i64 v2), .d (.int .i64 v3), .d (.int .i64 v4), .d (.int .i64 v5), .d .nils, .d (.lst c11 n12), .own 6 n81 66, .d .nils, .d (.bool false), .d (.int .i64 0), .d (.bool false), .d (.int .i64 v25)]), (4, .box [.big 64 d77]), (5, .box [.d (.int .i64 v89), .d (.int .i64 v90), .big 64 d92]), (6, .row c80 66 104)], 7, 245⟩) (fun _ => True) [2, 3, 4, 5, 6, 7, 8, 9, 10, 11, 14] ?_ ?_
          · cbv
            obtain ⟨j102, hj103, h⟩ := jn h
            refine JoinP.mk ({x : Bool // j102 (x) = some o68}) (fun x => ⟨[(2, .ptr 0 0), (3, .ptr 1 0), (4, .ptr 2 0), (5, .ptr 3 0), (6, .d (.int .u64 v73)), (7, .d (.int .i64 v74)), (8, .ptr 4 0), (9, .d (.int .i64 v75)), (10, .ptr 5 0), (11, .d (.int .i64 v89)), (14, .d (.int .i64 0)), (89, .d (.bool x.1))], [(0, .box [.d (.int .i64 v1), .d (.int .i64 v2), .d (.int .i64 v3), .d (.int .i64 v4), .d (.int .i64 v5), .d (.lst c7 n8), .d (.lst c11 n12), .d (.lst c15 n16), .d (.lst c19 n20), .d (.bool b22), .d (.int .i64 v23), .d (.bool b24), .d (.int .i64 v25)]), (1, .box [.d (.lst c27 n28), .d (.int .u64 v30), .d (.int .i64 v31)]), (2, .box [.d (.int .i64 0), .d (.int .i64 0), .d (.int .i64 0), .d (.int .i64 0), .d (.int .i64 0), .d .nils, .d .nils, .d .nils, .d .nils, .d (.bool false), .d (.int .i64 0), .d (.bool false), .d (.int .i64 0)]), (3, .box [.d (.int .i64 v1), .d (.int .i64 v2), .d (.int .i64 v3), .d (.int .i64 v4), .d (.int .i64 v5), .d .nils, .d (.lst c11 n12), .own 6 n81 66, .d .nils, .d (.bool false), .d (.int .i64 0), .d (.bool false), .d (.int .i64 v25)]), (4, .box [.big 64 d77]), (5, .box [.d (.int .i64 v89), .d (.int .i64 v90), .big 64 d92]), (6, .row c80 66 104)], 7, 245⟩) (fun _ => True) [2, 3, 4, 5, 6, 7, 8, 9, 10, 11, 14, 89] ?_ ?_
            · cbv
              revert h
              refine st_bin hJ fun v104 ev104 h => ?_
              cbv
              revert h
              refine st_len hJ hl29 fun v105 ev105 h => ?_
              cbv
              revert h
              refine st_cmp hJ fun b106 eb106 h => ?_
              cbv
              cases b106 with
              | true =>
                replace h := cnd_t h
                cbv
                revert h
                refine st_bin hJ fun v107 ev107 h => ?_
                cbv
                revert h
                refine st_idx_lp hJ hl29 fun y108 k109 hy110 ho111 h => ?_
                cbv
                refine st_ld hJ (eI_len .i64) hl29 hy110 ho111 0 (fun hJ => by subst hJ; rfl) ([.int .i64 y108]) (Nat.le_of_ble_eq_true rfl) rfl (.int .nil) rfl ?_
                cbv
                revert h
                refine st_cmp hJ fun b113 eb113 h => ?_
                cbv
                exact ⟨⟨(b113), h⟩, [(0, 0), (1, 1), (2, 2), (3, 3), (4, 4), (16, 5), (5, 6)], 7, [], rfl, trivial⟩
              | false =>
                replace h := cnd_f h
                cbv
                exact ⟨⟨(false), h⟩, [(0, 0), (1, 1), (2, 2), (3, 3), (4, 4), (16, 5), (5, 6)], 7, [], rfl, trivial⟩
            · rintro ⟨b104, h⟩ -
              rw [hj103] at h
              try dsimp only at h ⊢
              cbv
              cases b104 with
              | true =>
                replace h := cnd_t h
                cbv
                revert h
                refine st_bin hJ fun v105 ev105 h => ?_
                cbv
                revert h
                refine st_idx_lp hJ hl29 fun y106 k107 hy108 ho109 h => ?_
                cbv
                refine st_ld hJ (eI_len .i64) hl29 hy108 ho109 0 (fun hJ => by subst hJ; rfl) ([.int .i64 y106]) (Nat.le_of_ble_eq_true rfl) rfl (.int .nil) rfl ?_
                cbv
                exact ⟨⟨(y106), h⟩, [(0, 0), (1, 1), (2, 2), (3, 3), (4, 4), (5, 5), (6, 6)], 7, [], rfl, trivial⟩
              | false =>
                replace h := cnd_f h
                cbv
                exact ⟨⟨(0), h⟩, [(0, 0), (1, 1), (2, 2), (3, 3), (4, 4), (5, 5), (6, 6)], 7, [], rfl, trivial⟩
          · rintro ⟨v101, h⟩ -
            rw [hj100] at h
            try dsimp only at h ⊢
            cbv
            revert h
            refine st_idx_px hJ (Ar.h a76) fun v102 k103 hy104 ho105 h => ?_
            cbv
            refine st_ldA hJ ha78 hy104 ho105 (fun hJ => by subst hJ; simp [stdJ, std]) ?_
            cbv
            revert h
            refine st_cmp hJ fun b106 eb106 h => ?_
            cbv
            revert h
            refine st_idx_px hJ (Ar.h a76) fun v107 k108 hy109 ho110 h => ?_
            cbv
            refine st_ldA hJ ha78 hy109 ho110 (fun hJ => by subst hJ; simp [stdJ, std]) ?_
            cbv
            revert h
            refine st_cmp hJ fun b111 eb111 h => ?_
            cbv
            revert h
            refine st_idx_px hJ (Ar.h a76) fun v112 k113 hy114 ho115 h => ?_
            cbv
            refine st_ldA hJ ha78 hy114 ho115 (fun hJ => by subst hJ; simp [stdJ, std]) ?_
            cbv
            revert h
            refine st_bin hJ fun v116 ev116 h => ?_
            cbv
            revert h
            refine st_idx_px hJ (Ar.h a76) fun v117 k118 hy119 ho120 h => ?_
            cbv
            obtain ⟨a121, ha121, h⟩ := letv h
            obtain ⟨d122, ha123⟩ := nameA .i64 a121
            refine st_any hJ rfl (wr' := [(4, .box [.big 64 d122])]) (by rw [set_put hJ ha78 ho120 ha121 ha123]) (px_leA hJ ho120 hy119) ?_
            cbv
            exact ⟨⟨(v73, v74, b106, b111, a121, d122), ha123, h⟩, [(0, 0), (1, 1), (2, 2), (3, 3), (4, 4), (5, 5), (6, 6)], 7, [], rfl, trivial⟩
      · rintro ⟨⟨v97, v98, b99, b100, a101, d102⟩, ha103, h⟩ -
        rw [hj96] at h
        try dsimp only at h ⊢
        cbv
        cases b99 with
        | true =>
          replace h := cnd_t h
          cbv
          have hl104 : IsL eRef05_Cell ((D.int .i64 v89) :: ((D.int .i64 v90) :: (J .app d92 []))) 1 [(TRef05_Cell.mk (TAt.mk v89 v90) a91)] := ⟨by rw [(show d92 = encL (eI .u8) a91.l from ha93)]; subst hJ; simp [stdJ, std, encL, eRef05_Cell, eI], rfl⟩
          refine st_any hJ rfl rfl (by subst hJ; exact (by decide : 66 ≤ 16777216)) ?_
          cbv
          revert h
          refine st_app hJ eRef05_Cell_len hl82 hl104 fun c106 n107 l105 hl108 h => ?_
          cbv
          revert h
          refine st_bin hJ fun v109 ev109 h => ?_
          cbv
          cases h
          exact ⟨⟨(M71, v97, v98, v109, a101, d102, l105, c106, n107), ha103, hl108, hr69⟩, [(0, 0), (1, 1), (2, 2), (3, 3), (4, 4), (13, 5)], 6, [], rfl, Nat.lt_succ_self _⟩
        | false =>
          replace h := cnd_f h
          cbv
          obtain ⟨j105, hj106, h⟩ := jn h
          refine JoinP.mk ({x : Bool // j105 (x) = some o68}) (fun x => ⟨[(2, .ptr 0 0), (3, .ptr 1 0), (4, .ptr 2 0), (5, .ptr 3 0), (6, .d (.int .u64 v97)), (7, .d (.int .i64 v98)), (8, .ptr 4 0), (9, .d (.int .i64 v75)), (10, .ptr 5 0), (11, .d (.int .i64 v89)), (134, .d (.bool x.1))], [(0, .box [.d (.int .i64 v1), .d (.int .i64 v2), .d (.int .i64 v3), .d (.int .i64 v4), .d (.int .i64 v5), .d (.lst c7 n8), .d (.lst c11 n12), .d (.lst c15 n16), .d (.lst c19 n20), .d (.bool b22), .d (.int .i64 v23), .d (.bool b24), .d (.int .i64 v25)]), (1, .box [.d (.lst c27 n28), .d (.int .u64 v30), .d (.int .i64 v31)]), (2, .box [.d (.int .i64 0), .d (.int .i64 0), .d (.int .i64 0), .d (.int .i64 0), .d (.int .i64 0), .d .nils, .d .nils, .d .nils, .d .nils, .d (.bool false), .d (.int .i64 0), .d (.bool false), .d (.int .i64 0)]), (3, .box [.d (.int .i64 v1), .d (.int .i64 v2), .d (.int .i64 v3), .d (.int .i64 v4), .d (.int .i64 v5), .d .nils, .d (.lst c11 n12), .own 6 n81 66, .d .nils, .d (.bool false), .d (.int .i64 0), .d (.bool false), .d (.int .i64 v25)]), (4, .box [.big 64 d102]), (5, .box [.d (.int .i64 v89), .d (.int .i64 v90), .big 64 d92]), (6, .row c80 66 104)], 7, 245⟩) (fun _ => True) [2, 3, 4, 5, 6, 7, 8, 9, 10, 11, 134] ?_ ?_
          · cbv
            cases b100 with
            | true =>
              replace h := cnd_t h
              cbv
              revert h
              refine st_len hJ hl21 fun v107 ev107 h => ?_
              cbv
              revert h
              refine st_bin hJ fun v108 ev108 h => ?_
              cbv
              revert h
              refine st_cmp hJ fun b109 eb109 h => ?_
              cbv
              cases b109 with
              | true =>
                replace h := cnd_t h
                cbv
                revert h
                refine st_cmp hJ fun b110 eb110 h => ?_
                cbv
                exact ⟨⟨(b110), h⟩, [(0, 0), (1, 1), (2, 2), (3, 3), (4, 4), (5, 5), (6, 6)], 7, [], rfl, trivial⟩
              | false =>
                replace h := cnd_f h
                cbv
                exact ⟨⟨(false), h⟩, [(0, 0), (1, 1), (2, 2), (3, 3), (4, 4), (5, 5), (6, 6)], 7, [], rfl, trivial⟩
            | false =>
              replace h := cnd_f h
              cbv
              exact ⟨⟨(false), h⟩, [(0, 0), (1, 1), (2, 2), (3, 3), (4, 4), (5, 5), (6, 6)], 7, [], rfl, trivial⟩
          · rintro ⟨b107, h⟩ -
            rw [hj106] at h
            try dsimp only at h ⊢
            cbv
            cases b107 with
            | true =>
              replace h := cnd_t h
              cbv
              obtain ⟨j109, hj110, h⟩ := jn h
              refine JoinP.mk ({x : (Ar 64) × (List D) // x.2 = encL (eI .u8) x.1.l ∧ j109 (x.1) = some o68}) (fun x => ⟨[(2, .ptr 0 0), (3, .ptr 1 0), (4, .ptr 2 0), (5, .ptr 3 0), (6, .d (.int .u64 v97)), (7, .d (.int .i64 v98)), (8, .ptr 4 0), (9, .d (.int .i64 v75)), (10, .ptr 5 0), (15, .ptr 6 0)], [(0, .box [.d (.int .i64 v1), .d (.int .i64 v2), .d (.int .i64 v3), .d (.int .i64 v4), .d (.int .i64 v5), .d (.lst c7 n8), .d (.lst c11 n12), .d (.lst c15 n16), .d (.lst c19 n20), .d (.bool b22), .d (.int .i64 v23), .d (.bool b24), .d (.int .i64 v25)]), (1, .box [.d (.lst c27 n28), .d (.int .u64 v30), .d (.int .i64 v31)]), (2, .box [.d (.int .i64 0), .d (.int .i64 0), .d (.int .i64 0), .d (.int .i64 0), .d (.int .i64 0), .d .nils, .d .nils, .d .nils, .d .nils, .d (.bool false), .d (.int .i64 0), .d (.bool false), .d (.int .i64 0)]), (3, .box [.d (.int .i64 v1), .d (.int .i64 v2), .d (.int .i64 v3), .d (.int .i64 v4), .d (.int .i64 v5), .d .nils, .d (.lst c11 n12), .own 7 n81 66, .d .nils, .d (.bool false), .d (.int .i64 0), .d (.bool false), .d (.int .i64 v25)]), (4, .box [.big 64 d102]), (5, .box [.d (.int .i64 v89), .d (.int .i64 v90), .big 64 d92]), (6, .box [.big 64 x.1.2]), (7, .row c80 66 104)], 8, 245⟩) (fun _ => True) [2, 3, 4, 5, 6, 7, 8, 9, 10, 15] ?_ ?_
              · cbv
                revert h
                refine st_cmp hJ fun b111 eb111 h => ?_
                cbv
                cases b111 with
                | true =>
                  replace h := cnd_t h
                  cbv
                  obtain ⟨⟨a114, b117⟩, h113, h⟩ := bnd h
                  obtain ⟨d115, ha116⟩ := nameA .u8 a114
                  try dsimp only at h
                  refine call_by hP (s63 hl17 ha116 h113) hJ rfl rfl ?_
                  cbv
                  obtain ⟨⟨a120, b123⟩, h119, h⟩ := bnd h
                  obtain ⟨d121, ha122⟩ := nameA .u8 a120
                  try dsimp only at h
                  refine snap_by hP (s63 hl82 ha122 h119) hJ (by cbv) rfl ⟨⟨⟨(noL_big ha122), trivial⟩, ⟨trivial, trivial⟩⟩, trivial⟩ ?_
                  cbv
                  cases b123 with
                  | true =>
                    replace h := cnd_t h
                    cbv
                    exact ⟨⟨(a120, d121), ha122, h⟩, [(0, 0), (1, 1), (2, 2), (3, 3), (4, 4), (5, 5), (8, 6), (6, 7)], 8, [], rfl, trivial⟩
                  | false =>
                    replace h := cnd_f h
                    cbv
                    exact ⟨⟨(a114, d115), ha116, h⟩, [(0, 0), (1, 1), (2, 2), (3, 3), (4, 4), (5, 5), (8, 6), (6, 7)], 8, [], rfl, trivial⟩
                | false =>
                  replace h := cnd_f h
                  cbv
                  exact ⟨⟨((Ar.zero 64), (J .rep 64 (.int .u8 0))), (rep_z hJ 64 .u8), h⟩, [(0, 0), (1, 1), (2, 2), (3, 3), (4, 4), (5, 5), (8, 6), (6, 7)], 8, [], rfl, trivial⟩
              · rintro ⟨⟨a111, d112⟩, ha113, h⟩ -
                rw [hj110] at h
                try dsimp only at h ⊢
                cbv
                obtain ⟨j115, hj116, h⟩ := jn h
                refine JoinP.mk ({x : (Ar 64) × (List D) // x.2 = encL (eI .u8) x.1.l ∧ j115 (x.1) = some o68}) (fun x => ⟨[(2, .ptr 0 0), (3, .ptr 1 0), (4, .ptr 2 0), (5, .ptr 3 0), (6, .d (.int .u64 v97)), (7, .d (.int .i64 v98)), (8, .ptr 4 0), (9, .d (.int .i64 v75)), (10, .ptr 5 0), (15, .ptr 6 0)], [(0, .box [.d (.int .i64 v1), .d (.int .i64 v2), .d (.int .i64 v3), .d (.int .i64 v4), .d (.int .i64 v5), .d (.lst c7 n8), .d (.lst c11 n12), .d (.lst c15 n16), .d (.lst c19 n20), .d (.bool b22), .d (.int .i64 v23), .d (.bool b24), .d (.int .i64 v25)]), (1, .box [.d (.lst c27 n28), .d (.int .u64 v30), .d (.int .i64 v31)]), (2, .box [.d (.int .i64 0), .d (.int .i64 0), .d (.int .i64 0), .d (.int .i64 0), .d (.int .i64 0), .d .nils, .d .nils, .d .nils, .d .nils, .d (.bool false), .d (.int .i64 0), .d (.bool false), .d (.int .i64 0)]), (3, .box [.d (.int .i64 v1), .d (.int .i64 v2), .d (.int .i64 v3), .d (.int .i64 v4), .d (.int .i64 v5), .d .nils, .d (.lst c11 n12), .own 7 n81 66, .d .nils, .d (.bool false), .d (.int .i64 0), .d (.bool false), .d (.int .i64 v25)]), (4, .box [.big 64 d102]), (5, .box [.d (.int .i64 v89), .d (.int .i64 v90), .big 64 d92]), (6, .box [.big 64 x.1.2]), (7, .row c80 66 104)], 8, 245⟩) (fun _ => True) [2, 3, 4, 5, 6, 7, 8, 9, 10, 15] ?_ ?_
                · cbv
                  obtain ⟨p118, q117, hp119, hf120, hq121⟩ := bnd_loop h
                  clear h
                  refine LoopB.mk ({x : Nat × Int × (Ar 64) × (List D) // x.2.2.2 = encL (eI .u8) x.2.2.1.l ∧ loopN p118 x.1 (x.2.1, x.2.2.1) = some q117}) (fun x => ⟨[(2, .ptr 0 0), (3, .ptr 1 0), (4, .ptr 2 0), (5, .ptr 3 0), (6, .d (.int .u64 v97)), (7, .d (.int .i64 v98)), (8, .ptr 4 0), (9, .d (.int .i64 v75)), (10, .ptr 5 0), (15, .ptr 6 0), (18, .d (.int .i64 x.1.2.1))], [(0, .box [.d (.int .i64 v1), .d (.int .i64 v2), .d (.int .i64 v3), .d (.int .i64 v4), .d (.int .i64 v5), .d (.lst c7 n8), .d (.lst c11 n12), .d (.lst c15 n16), .d (.lst c19 n20), .d (.bool b22), .d (.int .i64 v23), .d (.bool b24), .d (.int .i64 v25)]), (1, .box [.d (.lst c27 n28), .d (.int .u64 v30), .d (.int .i64 v31)]), (2, .box [.d (.int .i64 0), .d (.int .i64 0), .d (.int .i64 0), .d (.int .i64 0), .d (.int .i64 0), .d .nils, .d .nils, .d .nils, .d .nils, .d (.bool false), .d (.int .i64 0), .d (.bool false), .d (.int .i64 0)]), (3, .box [.d (.int .i64 v1), .d (.int .i64 v2), .d (.int .i64 v3), .d (.int .i64 v4), .d (.int .i64 v5), .d .nils, .d (.lst c11 n12), .own 7 n81 66, .d .nils, .d (.bool false), .d (.int .i64 0), .d (.bool false), .d (.int .i64 v25)]), (4, .box [.big 64 d102]), (5, .box [.d (.int .i64 v89), .d (.int .i64 v90), .big 64 d92]), (6, .box [.big 64 x.1.2.2.2]), (7, .row c80 66 104)], 8, 245⟩) (fun x => x.1.1) [2, 3, 4, 5, 6, 7, 8, 9, 10, 15, 18] 8 ⟨(FUEL, 0, a111, d112), ha113, hf120⟩ ⟨[(0, 0), (1, 1), (2, 2), (3, 3), (4, 4), (5, 5), (6, 6), (7, 7)], [], ?_⟩ ?_
                  · rfl
                  · rintro ⟨⟨N124, v127, a128, d129⟩, ha130, hr123⟩
                    obtain ⟨M125, o122, eN126, h, hr123⟩ := loopN_step hr123
                    subst eN126
                    rw [hp119] at h
                    try dsimp only at h ⊢
                    cbv
                    obtain ⟨j132, hj133, h⟩ := jn h
                    refine JoinP.mk ({x : Unit // j132 () = some o122}) (fun x => ⟨[(2, .ptr 0 0), (3, .ptr 1 0), (4, .ptr 2 0), (5, .ptr 3 0), (6, .d (.int .u64 v97)), (7, .d (.int .i64 v98)), (8, .ptr 4 0), (9, .d (.int .i64 v75)), (10, .ptr 5 0), (15, .ptr 6 0), (18, .d (.int .i64 v127))], [(0, .box [.d (.int .i64 v1), .d (.int .i64 v2), .d (.int .i64 v3), .d (.int .i64 v4), .d (.int .i64 v5), .d (.lst c7 n8), .d (.lst c11 n12), .d (.lst c15 n16), .d (.lst c19 n20), .d (.bool b22), .d (.int .i64 v23), .d (.bool b24), .d (.int .i64 v25)]), (1, .box [.d (.lst c27 n28), .d (.int .u64 v30), .d (.int .i64 v31)]), (2, .box [.d (.int .i64 0), .d (.int .i64 0), .d (.int .i64 0), .d (.int .i64 0), .d (.int .i64 0), .d .nils, .d .nils, .d .nils, .d .nils, .d (.bool false), .d (.int .i64 0), .d (.bool false), .d (.int .i64 0)]), (3, .box [.d (.int .i64 v1), .d (.int .i64 v2), .d (.int .i64 v3), .d (.int .i64 v4), .d (.int .i64 v5), .d .nils, .d (.lst c11 n12), .own 7 n81 66, .d .nils, .d (.bool false), .d (.int .i64 0), .d (.bool false), .d (.int .i64 v25)]), (4, .box [.big 64 d102]), (5, .box [.d (.int .i64 v89), .d (.int .i64 v90), .big 64 d92]), (6, .box [.big 64 d129]), (7, .row c80 66 104)], 8, 245⟩) (fun _ => True) [2, 3, 4, 5, 6, 7, 8, 9, 10, 15, 18] ?_ ?_
                    · cbv
                      revert h
                      refine st_cmp hJ fun b134 eb134 h => ?_
                      cbv
                      cases b134 with
                      | true =>
                        replace h := cnd_t h
                        cbv
                        revert h
                        refine st_cmp hJ fun b135 eb135 h => ?_
                        cbv
                        cases b135 with
                        | true =>
                          replace h := cnd_t h
                          cbv
                          exact ⟨⟨(), h⟩, [(0, 0), (1, 1), (2, 2), (3, 3), (4, 4), (5, 5), (6, 6), (7, 7)], 8, [], rfl, trivial⟩
                        | false =>
                          replace h := cnd_f h
                          cbv
                          cases h
                          have h := hq121
                          obtain rfl := hr123
                          try dsimp only at h
                          exact ⟨⟨(a128, d129), ha130, h⟩, [(0, 0), (1, 1), (2, 2), (3, 3), (4, 4), (5, 5), (6, 6), (7, 7)], 8, [], rfl, trivial⟩
                      | false =>
                        replace h := cnd_f h
                        cbv
                        cases h
                        have h := hq121
                        obtain rfl := hr123
                        try dsimp only at h
                        exact ⟨⟨(a128, d129), ha130, h⟩, [(0, 0), (1, 1), (2, 2), (3, 3), (4, 4), (5, 5), (6, 6), (7, 7)], 8, [], rfl, trivial⟩
                    · rintro ⟨_, h⟩ -
                      rw [hj133] at h
                      try dsimp only at h ⊢
                      cbv
                      revert h
                      refine st_idx_px hJ (Ar.h a91) fun v134 k135 hy136 ho137 h => ?_
                      cbv
                      refine st_ldA hJ ha93 hy136 ho137 (fun hJ => by subst hJ; simp [stdJ, std]) ?_
                      cbv
                      revert h
                      refine st_idx_px hJ (Ar.h a128) fun v138 k139 hy140 ho141 h => ?_
                      cbv
                      obtain ⟨a142, ha142, h⟩ := letv h
                      obtain ⟨d143, ha144⟩ := nameA .u8 a142
                      refine st_any hJ rfl (wr' := [(6, .box [.big 64 d143])]) (by rw [set_put hJ ha130 ho141 ha142 ha144]) (px_leA hJ ho141 hy140) ?_
                      cbv
                      revert h
                      refine st_bin hJ fun v145 ev145 h => ?_
                      cbv
                      cases h
                      exact ⟨⟨(M125, v145, a142, d143), ha144, hr123⟩, [(0, 0), (1, 1), (2, 2), (3, 3), (4, 4), (5, 5), (6, 6), (7, 7)], 8, [], rfl, Nat.lt_succ_self _⟩
                · rintro ⟨⟨a117, d118⟩, ha119, h⟩ -
                  rw [hj116] at h
                  try dsimp only at h ⊢
                  cbv
                  have hl120 : IsL eRef05_Cell ((D.int .i64 v89) :: ((D.int .i64 v90) :: (J .app d118 []))) 1 [(TRef05_Cell.mk (TAt.mk v89 v90) a117)] := ⟨by rw [(show d118 = encL (eI .u8) a117.l from ha119)]; subst hJ; simp [stdJ, std, encL, eRef05_Cell, eI], rfl⟩
                  refine st_any hJ rfl rfl (by subst hJ; exact (by decide : 66 ≤ 16777216)) ?_
                  cbv
                  revert h
                  refine st_app hJ eRef05_Cell_len hl82 hl120 fun c122 n123 l121 hl124 h => ?_
                  cbv
                  revert h
                  refine st_bin hJ fun v125 ev125 h => ?_
                  cbv
                  cases h
                  exact ⟨⟨(M71, v97, v98, v125, a101, d102, l121, c122, n123), ha103, hl124, hr69⟩, [(0, 0), (1, 1), (2, 2), (3, 3), (4, 4), (16, 5)], 6, [], rfl, Nat.lt_succ_self _⟩
            | false =>
              replace h := cnd_f h
              cbv
              revert h
              refine st_bin hJ fun v108 ev108 h => ?_
              cbv
              cases h
              exact ⟨⟨(M71, v97, v98, v108, a101, d102, l79, c80, n81), ha103, hl82, hr69⟩, [(0, 0), (1, 1), (2, 2), (3, 3), (4, 4), (6, 5)], 6, [], rfl, Nat.lt_succ_self _⟩
    | false =>
      replace h := cnd_f h
      cbv
      cases h
      have h := hq67
      obtain rfl := hr69
      try dsimp only at h
      obtain ⟨p86, q85, hp87, hf88, hq89⟩ := bnd_loop h
      clear h
      refine LoopB.mk ({x : Nat × Int × (List TZone) × (List D) × Nat // IsL eZone x.2.2.2.1 x.2.2.2.2 x.2.2.1 ∧ loopN p86 x.1 (x.2.1, x.2.2.1) = some q85}) (fun x => ⟨[(2, .ptr 0 0), (4, .ptr 1 0), (5, .ptr 2 0), (19, .d (.int .i64 x.1.2.1))], [(0, .box [.d (.int .i64 v1), .d (.int .i64 v2), .d (.int .i64 v3), .d (.int .i64 v4), .d (.int .i64 v5), .d (.lst c7 n8), .d (.lst c11 n12), .d (.lst c15 n16), .d (.lst c19 n20), .d (.bool b22), .d (.int .i64 v23), .d (.bool b24), .d (.int .i64 v25)]), (1, .box [.d (.int .i64 0), .d (.int .i64 0), .d (.int .i64 0), .d (.int .i64 0), .d (.int .i64 0), .d .nils, .d .nils, .d .nils, .d .nils, .d (.bool false), .d (.int .i64 0), .d (.bool false), .d (.int .i64 0)]), (2, .box [.d (.int .i64 v1), .d (.int .i64 v2), .d (.int .i64 v3), .d (.int .i64 v4), .d (.int .i64 v5), .own 4 x.1.2.2.2.2 2, .d (.lst c11 n12), .own 3 n81 66, .d .nils, .d (.bool false), .d (.int .i64 0), .d (.bool false), .d (.int .i64 v25)]), (3, .row c80 66 104), (4, .row x.1.2.2.2.1 2 53)], 5, 245⟩) (fun x => x.1.1) [2, 4, 5, 19] 4 ⟨(FUEL, 0, ([] : List TZone), [], 0), (IsL.nil' (g := eZone)), hf88⟩ ⟨[(0, 0), (2, 1), (3, 2), (5, 3)], [.cell 2 5 4 2 53], ?_⟩ ?_
      · rfl
      · rintro ⟨⟨N92, v95, l96, c97, n98⟩, hl99, hr91⟩
        obtain ⟨M93, o90, eN94, h, hr91⟩ := loopN_step hr91
        subst eN94
        rw [hp87] at h
        try dsimp only at h ⊢
        cbv
        revert h
        refine st_len hJ hl9 fun v100 ev100 h => ?_
        cbv
        revert h
        refine st_cmp hJ fun b101 eb101 h => ?_
        cbv
        cases b101 with
        | true =>
          replace h := cnd_t h
          cbv
          revert h
          refine st_idx_lp hJ hl9 fun y102 k103 hy104 ho105 h => ?_
          obtain ⟨v106, v107⟩ := y102
          try dsimp only at h
          cbv
          refine st_ld hJ eZone_len hl9 hy104 ho105 0 (fun hJ => by subst hJ; rfl) ([.int .i64 v106, .int .i64 v107]) (Nat.le_of_ble_eq_true rfl) rfl (.int (.int .nil)) rfl ?_
          cbv
          obtain ⟨j109, hj110, h⟩ := jn h
          refine JoinP.mk ({x : Int // j109 (x) = some o90}) (fun x => ⟨[(2, .ptr 0 0), (4, .ptr 1 0), (5, .ptr 2 0), (19, .d (.int .i64 v95)), (20, .ptr 3 0), (21, .d (.int .i64 x.1))], [(0, .box [.d (.int .i64 v1), .d (.int .i64 v2), .d (.int .i64 v3), .d (.int .i64 v4), .d (.int .i64 v5), .d (.lst c7 n8), .d (.lst c11 n12), .d (.lst c15 n16), .d (.lst c19 n20), .d (.bool b22), .d (.int .i64 v23), .d (.bool b24), .d (.int .i64 v25)]), (1, .box [.d (.int .i64 0), .d (.int .i64 0), .d (.int .i64 0), .d (.int .i64 0), .d (.int .i64 0), .d .nils, .d .nils, .d .nils, .d .nils, .d (.bool false), .d (.int .i64 0), .d (.bool false), .d (.int .i64 0)]), (2, .box [.d (.int .i64 v1), .d (.int .i64 v2), .d (.int .i64 v3), .d (.int .i64 v4), .d (.int .i64 v5), .own 4 n98 2, .d (.lst c11 n12), .own 5 n81 66, .d .nils, .d (.bool false), .d (.int .i64 0), .d (.bool false), .d (.int .i64 v25)]), (3, .box [.d (.int .i64 v106), .d (.int .i64 v107)]), (4, .row c97 2 53), (5, .row c80 66 104)], 6, 245⟩) (fun _ => True) [2, 4, 5, 19, 20, 21] ?_ ?_
          · cbv
            obtain ⟨p112, q111, hp113, hf114, hq115⟩ := bnd_loop h
            clear h
            refine LoopB.mk ({x : Nat × Int // loopN p112 x.1 (x.2) = some q111}) (fun x => ⟨[(2, .ptr 0 0), (4, .ptr 1 0), (5, .ptr 2 0), (19, .d (.int .i64 v95)), (20, .ptr 3 0), (21, .d (.int .i64 x.1.2))], [(0, .box [.d (.int .i64 v1), .d (.int .i64 v2), .d (.int .i64 v3), .d (.int .i64 v4), .d (.int .i64 v5), .d (.lst c7 n8), .d (.lst c11 n12), .d (.lst c15 n16), .d (.lst c19 n20), .d (.bool b22), .d (.int .i64 v23), .d (.bool b24), .d (.int .i64 v25)]), (1, .box [.d (.int .i64 0), .d (.int .i64 0), .d (.int .i64 0), .d (.int .i64 0), .d (.int .i64 0), .d .nils, .d .nils, .d .nils, .d .nils, .d (.bool false), .d (.int .i64 0), .d (.bool false), .d (.int .i64 0)]), (2, .box [.d (.int .i64 v1), .d (.int .i64 v2), .d (.int .i64 v3), .d (.int .i64 v4), .d (.int .i64 v5), .own 4 n98 2, .d (.lst c11 n12), .own 5 n81 66, .d .nils, .d (.bool false), .d (.int .i64 0), .d (.bool false), .d (.int .i64 v25)]), (3, .box [.d (.int .i64 v106), .d (.int .i64 v107)]), (4, .row c97 2 53), (5, .row c80 66 104)], 6, 245⟩) (fun x => x.1.1) [2, 4, 5, 19, 20, 21] 6 ⟨(FUEL, 0), hf114⟩ ⟨[(0, 0), (1, 1), (2, 2), (15, 3), (4, 4), (3, 5)], [], ?_⟩ ?_
            · rfl
            · rintro ⟨⟨N118, v121⟩, hr117⟩
              obtain ⟨M119, o116, eN120, h, hr117⟩ := loopN_step hr117
              subst eN120
              rw [hp113] at h
              try dsimp only at h ⊢
              cbv
              obtain ⟨v124, h123, h⟩ := bnd h
              refine call_by hP (s84 h123) hJ rfl rfl ?_
              cbv
              revert h
              refine st_cmp hJ fun b125 eb125 h => ?_
              cbv
              cases b125 with
              | true =>
                replace h := cnd_t h
                cbv
                obtain ⟨⟨a128, b131⟩, h127, h⟩ := bnd h
                obtain ⟨d129, ha130⟩ := nameA .u8 a128
                try dsimp only at h
                refine snap_by hP (s63 hl82 ha130 h127) hJ (by cbv) rfl ⟨⟨⟨(noL_big ha130), trivial⟩, ⟨trivial, trivial⟩⟩, trivial⟩ ?_
                cbv
                revert h
                refine st_not hJ fun b132 eb132 h => ?_
                cbv
                cases b132 with
                | true =>
                  replace h := cnd_t h
                  cbv
                  cases h
                  have h := hq115
                  obtain rfl := hr117
                  try dsimp only at h
                  exact ⟨⟨(v121), h⟩, [(0, 0), (1, 1), (2, 2), (3, 3), (4, 4), (5, 5)], 6, [], rfl, trivial⟩
                | false =>
                  replace h := cnd_f h
                  cbv
                  revert h
                  refine st_bin hJ fun v133 ev133 h => ?_
                  cbv
                  cases h
                  exact ⟨⟨(M119, v133), hr117⟩, [(0, 0), (1, 1), (2, 2), (3, 3), (4, 4), (5, 5)], 6, [], rfl, Nat.lt_succ_self _⟩
              | false =>
                replace h := cnd_f h
                cbv
                cases h
                have h := hq115
                obtain rfl := hr117
                try dsimp only at h
                exact ⟨⟨(v121), h⟩, [(0, 0), (1, 1), (2, 2), (3, 3), (4, 4), (5, 5)], 6, [], rfl, trivial⟩
          · rintro ⟨v111, h⟩ -
            rw [hj110] at h
            try dsimp only at h ⊢
            cbv
            obtain ⟨j113, hj114, h⟩ := jn h
            refine JoinP.mk ({x : Int × Int // j113 (x.1, x.2) = some o90}) (fun x => ⟨[(2, .ptr 0 0), (4, .ptr 1 0), (5, .ptr 2 0), (19, .d (.int .i64 v95)), (20, .ptr 3 0)], [(0, .box [.d (.int .i64 v1), .d (.int .i64 v2), .d (.int .i64 v3), .d (.int .i64 v4), .d (.int .i64 v5), .d (.lst c7 n8), .d (.lst c11 n12), .d (.lst c15 n16), .d (.lst c19 n20), .d (.bool b22), .d (.int .i64 v23), .d (.bool b24), .d (.int .i64 v25)]), (1, .box [.d (.int .i64 0), .d (.int .i64 0), .d (.int .i64 0), .d (.int .i64 0), .d (.int .i64 0), .d .nils, .d .nils, .d .nils, .d .nils, .d (.bool false), .d (.int .i64 0), .d (.bool false), .d (.int .i64 0)]), (2, .box [.d (.int .i64 v1), .d (.int .i64 v2), .d (.int .i64 v3), .d (.int .i64 v4), .d (.int .i64 v5), .own 4 n98 2, .d (.lst c11 n12), .own 5 n81 66, .d .nils, .d (.bool false), .d (.int .i64 0), .d (.bool false), .d (.int .i64 v25)]), (3, .box [.d (.int .i64 x.1.1), .d (.int .i64 x.1.2)]), (4, .row c97 2 53), (5, .row c80 66 104)], 6, 245⟩) (fun _ => True) [2, 4, 5, 19, 20] ?_ ?_
            · cbv
              revert h
              refine st_cmp hJ fun b115 eb115 h => ?_
              cbv
              cases b115 with
              | true =>
                replace h := cnd_t h
                cbv
                obtain ⟨j117, hj118, h⟩ := jn h
                refine JoinP.mk ({x : Int // j117 (x) = some o90}) (fun x => ⟨[(2, .ptr 0 0), (4, .ptr 1 0), (5, .ptr 2 0), (19, .d (.int .i64 v95)), (20, .ptr 3 0), (21, .d (.int .i64 v111))], [(0, .box [.d (.int .i64 v1), .d (.int .i64 v2), .d (.int .i64 v3), .d (.int .i64 v4), .d (.int .i64 v5), .d (.lst c7 n8), .d (.lst c11 n12), .d (.lst c15 n16), .d (.lst c19 n20), .d (.bool b22), .d (.int .i64 v23), .d (.bool b24), .d (.int .i64 v25)]), (1, .box [.d (.int .i64 0), .d (.int .i64 0), .d (.int .i64 0), .d (.int .i64 0), .d (.int .i64 0), .d .nils, .d .nils, .d .nils, .d .nils, .d (.bool false), .d (.int .i64 0), .d (.bool false), .d (.int .i64 0)]), (2, .box [.d (.int .i64 v1), .d (.int .i64 v2), .d (.int .i64 v3), .d (.int .i64 v4), .d (.int .i64 v5), .own 4 n98 2, .d (.lst c11 n12), .own 5 n81 66, .d .nils, .d (.bool false), .d (.int .i64 0), .d (.bool false), .d (.int .i64 v25)]), (3, .box [.d (.int .i64 x.1), .d (.int .i64 v111)]), (4, .row c97 2 53), (5, .row c80 66 104)], 6, 245⟩) (fun _ => True) [2, 4, 5, 19, 20, 21] ?_ ?_
                · cbv
                  revert h
                  refine st_cmp hJ fun b119 eb119 h => ?_
                  cbv
                  cases b119 with
                  | true =>
                    replace h := cnd_t h
                    cbv
                    exact ⟨⟨(0), h⟩, [(0, 0), (1, 1), (2, 2), (3, 3), (4, 4), (5, 5)], 6, [], rfl, trivial⟩
                  | false =>
                    replace h := cnd_f h
                    cbv
                    exact ⟨⟨(2), h⟩, [(0, 0), (1, 1), (2, 2), (3, 3), (4, 4), (5, 5)], 6, [], rfl, trivial⟩
                · rintro ⟨v119, h⟩ -
                  rw [hj118] at h
                  try dsimp only at h ⊢
                  cbv
                  obtain ⟨b122, h121, h⟩ := bnd h
                  refine call_by hP (s85 hl13 h121) hJ rfl rfl ?_
                  cbv
                  cases b122 with
                  | true =>
                    replace h := cnd_t h
                    cbv
                    exact ⟨⟨(3, v111), h⟩, [(0, 0), (1, 1), (2, 2), (3, 3), (4, 4), (5, 5)], 6, [], rfl, trivial⟩
                  | false =>
                    replace h := cnd_f h
                    cbv
                    revert h
                    refine st_cmp hJ fun b123 eb123 h => ?_
                    cbv
                    cases b123 with
                    | true =>
                      replace h := cnd_t h
                      cbv
                      exact ⟨⟨(3, v111), h⟩, [(0, 0), (1, 1), (2, 2), (3, 3), (4, 4), (5, 5)], 6, [], rfl, trivial⟩
                    | false =>
                      replace h := cnd_f h
                      cbv
                      exact ⟨⟨(v119, v111), h⟩, [(0, 0), (1, 1), (2, 2), (3, 3), (4, 4), (5, 5)], 6, [], rfl, trivial⟩
              | false =>
                replace h := cnd_f h
                cbv
                exact ⟨⟨(v106, v107), h⟩, [(0, 0), (1, 1), (2, 2), (3, 3), (4, 4), (5, 5)], 6, [], rfl, trivial⟩
            · rintro ⟨⟨v115, v116⟩, h⟩ -
              rw [hj114] at h
              try dsimp only at h ⊢
              cbv
              have hl117 : IsL eZone [.int .i64 v115, .int .i64 v116] 1 [(TZone.mk v115 v116)] := ⟨rfl, rfl⟩
              refine st_any hJ rfl rfl (by subst hJ; exact (by decide : 2 ≤ 16777216)) ?_
              cbv
              revert h
              refine st_app hJ eZone_len hl99 hl117 fun c119 n120 l118 hl121 h => ?_
              cbv
              revert h
              refine st_bin hJ fun v122 ev122 h => ?_
              cbv
              cases h
              exact ⟨⟨(M93, v122, l118, c119, n120), hl121, hr91⟩, [(0, 0), (1, 1), (2, 2), (5, 3), (11, 4)], 5, [], rfl, Nat.lt_succ_self _⟩
        | false =>
          replace h := cnd_f h
          cbv
          cases h
          have h := hq89
          obtain rfl := hr91
          try dsimp only at h
          cases h
          obtain ⟨rfl, rfl⟩ := IsL.uniq hl40 hl99
          obtain ⟨rfl, rfl⟩ := IsL.uniq hl44 hl13
          obtain ⟨rfl, rfl⟩ := IsL.uniq hl48 hl82
          obtain ⟨rfl, rfl⟩ := IsL.nil hl52
          exact ⟨_, .refl _, [], _, _, [(4, 0), (3, 1)], _, rfl, rfl, rfl, rfl, rfl, rfl⟩
end Go.AX
