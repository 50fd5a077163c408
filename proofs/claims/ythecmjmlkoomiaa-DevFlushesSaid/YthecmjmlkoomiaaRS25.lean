/- What functions of the program compute: each is what its Lean function says. -/
import Derived.Test.YthecmjmlkoomiaaRS15
import Derived.Test.YthecmjmlkoomiaaRS16
import Derived.Test.YthecmjmlkoomiaaRS7
import Derived.Test.YthecmjmlkoomiaaRS8
namespace Go.AX
open Go.Proofs
set_option autoImplicit false
set_option linter.unusedVariables false
set_option maxRecDepth 100000
set_option maxHeartbeats 100000000
set_option linter.unusedSimpArgs false

theorem s16 {v1 : Int} {v2 : Int} {v3 : Int} {v4 : Int} {v5 : Int} {l6 : List TZone} {c7 : List D} {n8 : Nat} {l10 : List Int} {c11 : List D} {n12 : Nat} {l14 : List TRef05_Cell} {c15 : List D} {n16 : Nat} {l18 : List TRef05_Cell} {c19 : List D} {n20 : Nat} {b22 : Bool} {v23 : Int} {b24 : Bool} {v25 : Int} {v26 : Int} {v27 : Int} {v28 : Int} {a29 : Ar 64} {d30 : List D} {v32 : Int} {l33 : List Int} {c34 : List D} {n35 : Nat} {v37 : Int} {v38 : Int} (hl9 : IsL eZone c7 n8 l6) (hl13 : IsL (eI .i64) c11 n12 l10) (hl17 : IsL eRef05_Cell c15 n16 l14) (hl21 : IsL eRef05_Cell c19 n20 l18) (ha31 : d30 = encL (eI .u8) a29.l) (hl36 : IsL (eI .i64) c34 n35 l33) {v39 : Int} {v40 : Int} {v41 : Int} {v42 : Int} {v43 : Int} {l44 : List TZone} {c45 : List D} {n46 : Nat} {l48 : List Int} {c49 : List D} {n50 : Nat} {l52 : List TRef05_Cell} {c53 : List D} {n54 : Nat} {l56 : List TRef05_Cell} {c57 : List D} {n58 : Nat} {b60 : Bool} {v61 : Int} {b62 : Bool} {v63 : Int} {v64 : Int} (hl47 : IsL eZone c45 n46 l44) (hl51 : IsL (eI .i64) c49 n50 l48) (hl55 : IsL eRef05_Cell c53 n54 l52) (hl59 : IsL eRef05_Cell c57 n58 l56) (h : m_ref05_Do (TRef05_Disk.mk (TGeom.mk v1 v2 v3 v4 v5) l6 l10 l14 l18 b22 v23 b24 v25) (TRef05_Act.mk v26 (TAt.mk v27 v28) a29 v32 (TWreck.mk l33 v37 v38)) = some ((TRef05_Disk.mk (TGeom.mk v39 v40 v41 v42 v43) l44 l48 l52 l56 b60 v61 b62 v63), v64)) : Spec Try.prog 16 [.agg [.d (.int .i64 v1), .d (.int .i64 v2), .d (.int .i64 v3), .d (.int .i64 v4), .d (.int .i64 v5), .d (.lst c7 n8), .d (.lst c11 n12), .d (.lst c15 n16), .d (.lst c19 n20), .d (.bool b22), .d (.int .i64 v23), .d (.bool b24), .d (.int .i64 v25)], .agg [.d (.int .u8 v26), .d (.int .i64 v27), .d (.int .i64 v28), .big 64 d30, .d (.int .i64 v32), .d (.lst c34 n35), .d (.int .u64 v37), .d (.int .i64 v38)]] ⟨.tup [.agg [.d (.int .i64 v39), .d (.int .i64 v40), .d (.int .i64 v41), .d (.int .i64 v42), .d (.int .i64 v43), .d (.lst c45 n46), .d (.lst c49 n50), .d (.lst c53 n54), .d (.lst c57 n58), .d (.bool b60), .d (.int .i64 v61), .d (.bool b62), .d (.int .i64 v63)], .d (.int .i64 v64)], [], 0, True⟩ := by
  refine spec_b [36, 50, 70, 78, 84] Try.func16 rfl rfl rfl fun J P hJ hP => ?_
  dsimp only [m_ref05_Do] at h
  cbv
  revert h
  refine st_div hJ fun v66 zv66 ev66 h => ?_
  cbv
  revert h
  refine st_conv hJ fun v67 ev67 h => ?_
  cbv
  revert h
  refine st_cmp hJ fun b68 eb68 h => ?_
  cbv
  cases b68 with
  | true =>
    replace h := cnd_t h
    cbv
    revert h
    refine st_not hJ fun b69 eb69 h => ?_
    cbv
    cases b69 with
    | true =>
      replace h := cnd_t h
      cbv
      revert h
      refine st_cmp hJ fun b70 eb70 h => ?_
      cbv
      revert h
      refine st_cmp hJ fun b71 eb71 h => ?_
      cbv
      cases h
      obtain ⟨rfl, rfl⟩ := IsL.uniq hl47 hl9
      obtain ⟨rfl, rfl⟩ := IsL.uniq hl51 hl13
      obtain ⟨rfl, rfl⟩ := IsL.uniq hl55 hl17
      obtain ⟨rfl, rfl⟩ := IsL.uniq hl59 hl21
      exact ⟨_, .refl _, [], _, _, [], _, rfl, rfl, rfl, rfl, rfl, rfl⟩
    | false =>
      replace h := cnd_f h
      cbv
      cases h
      obtain ⟨rfl, rfl⟩ := IsL.uniq hl47 hl9
      obtain ⟨rfl, rfl⟩ := IsL.uniq hl51 hl13
      obtain ⟨rfl, rfl⟩ := IsL.uniq hl55 hl17
      obtain ⟨rfl, rfl⟩ := IsL.uniq hl59 hl21
      exact ⟨_, .refl _, [], _, _, [], _, rfl, rfl, rfl, rfl, rfl, rfl⟩
  | false =>
    replace h := cnd_f h
    cbv
    revert h
    refine st_cmp hJ fun b69 eb69 h => ?_
    cbv
    cases b69 with
    | true =>
      replace h := cnd_t h
      cbv
      obtain ⟨⟨⟨v72, v73, v74, v75, v76⟩, l77, l81, l85, l89, b93, v94, b95, v96⟩, h71, h⟩ := bnd h
      obtain ⟨c78, n79, hl80⟩ := nameL eZone l77
      obtain ⟨c82, n83, hl84⟩ := nameL (eI .i64) l81
      obtain ⟨c86, n87, hl88⟩ := nameL eRef05_Cell l85
      obtain ⟨c90, n91, hl92⟩ := nameL eRef05_Cell l89
      try dsimp only at h
      refine call_by hP (s48 hl9 hl13 hl17 hl21 hl36 hl80 hl84 hl88 hl92 h71) hJ rfl rfl ?_
      cbv
      cases h
      obtain ⟨rfl, rfl⟩ := IsL.uniq hl47 hl80
      obtain ⟨rfl, rfl⟩ := IsL.uniq hl51 hl84
      obtain ⟨rfl, rfl⟩ := IsL.uniq hl55 hl88
      obtain ⟨rfl, rfl⟩ := IsL.nil hl59
      exact ⟨_, .refl _, [.nlC 4 8], _, _, [], _, rfl, rfl, rfl, rfl, rfl, rfl⟩
    | false =>
      replace h := cnd_f h
      cbv
      cases b24 with
      | true =>
        replace h := cnd_t h
        cbv
        cases h
        obtain ⟨rfl, rfl⟩ := IsL.uniq hl47 hl9
        obtain ⟨rfl, rfl⟩ := IsL.uniq hl51 hl13
        obtain ⟨rfl, rfl⟩ := IsL.uniq hl55 hl17
        obtain ⟨rfl, rfl⟩ := IsL.uniq hl59 hl21
        exact ⟨_, .refl _, [], _, _, [], _, rfl, rfl, rfl, rfl, rfl, rfl⟩
      | false =>
        replace h := cnd_f h
        cbv
        obtain ⟨j71, hj72, h⟩ := jn h
        refine JoinP.mk ({x : (List TZone) × (List D) × Nat × Int // IsL eZone x.2.1 x.2.2.1 x.1 ∧ j71 (x.1, x.2.2.2) = some ((TRef05_Disk.mk (TGeom.mk v39 v40 v41 v42 v43) l44 l48 l52 l56 b60 v61 b62 v63), v64)}) (fun x => ⟨[(2, .ptr 0 0), (3, .ptr 1 0), (4, .ptr 2 0), (6, .d (.int .i64 v67)), (7, .d (.lst x.1.2.1 x.1.2.2.1)), (8, .d (.int .i64 x.1.2.2.2))], [(0, .box [.d (.int .i64 v1), .d (.int .i64 v2), .d (.int .i64 v3), .d (.int .i64 v4), .d (.int .i64 v5), .d (.lst c7 n8), .d (.lst c11 n12), .d (.lst c15 n16), .d (.lst c19 n20), .d (.bool b22), .d (.int .i64 v23), .d (.bool false), .d (.int .i64 v25)]), (1, .box [.d (.int .u8 v26), .d (.int .i64 v27), .d (.int .i64 v28), .big 64 d30, .d (.int .i64 v32), .d (.lst c34 n35), .d (.int .u64 v37), .d (.int .i64 v38)]), (2, .box [.d (.int .i64 0), .d (.int .i64 0), .d (.int .i64 0), .d (.int .i64 0), .d (.int .i64 0), .d .nils, .d .nils, .d .nils, .d .nils, .d (.bool false), .d (.int .i64 0), .d (.bool false), .d (.int .i64 0)])], 3, 174⟩) (fun _ => True) [2, 3, 4, 6, 7, 8] ?_ ?_
        · cbv
          revert h
          refine st_cmp hJ fun b73 eb73 h => ?_
          cbv
          cases b73 with
          | true =>
            replace h := cnd_t h
            cbv
            obtain ⟨⟨l76, v80⟩, h75, h⟩ := bnd h
            obtain ⟨c77, n78, hl79⟩ := nameL eZone l76
            try dsimp only at h
            refine call_by hP (s49 hl9 hl79 h75) hJ rfl rfl ?_
            cbv
            exact ⟨⟨(l76, c77, n78, v80), hl79, h⟩, [(0, 0), (2, 1), (4, 2)], 3, [], rfl, trivial⟩
          | false =>
            replace h := cnd_f h
            cbv
            revert h
            refine st_cmp hJ fun b74 eb74 h => ?_
            cbv
            cases b74 with
            | true =>
              replace h := cnd_t h
              cbv
              revert h
              refine st_bin hJ fun v75 ev75 h => ?_
              cbv
              obtain ⟨⟨l78, v82⟩, h77, h⟩ := bnd h
              obtain ⟨c79, n80, hl81⟩ := nameL eZone l78
              try dsimp only at h
              refine call_by hP (s49 hl9 hl81 h77) hJ rfl rfl ?_
              cbv
              exact ⟨⟨(l78, c79, n80, v82), hl81, h⟩, [(0, 0), (2, 1), (4, 2)], 3, [], rfl, trivial⟩
            | false =>
              replace h := cnd_f h
              cbv
              exact ⟨⟨(l6, c7, n8, 0), hl9, h⟩, [(0, 0), (2, 1), (4, 2)], 3, [], rfl, trivial⟩
        · rintro ⟨⟨l73, c74, n75, v77⟩, hl76, h⟩ -
          rw [hj72] at h
          try dsimp only at h ⊢
          cbv
          revert h
          refine st_cmp hJ fun b78 eb78 h => ?_
          cbv
          cases b78 with
          | true =>
            replace h := cnd_t h
            cbv
            revert h
            refine st_bin hJ fun v79 ev79 h => ?_
            cbv
            cases h
            obtain ⟨rfl, rfl⟩ := IsL.uniq hl47 hl9
            obtain ⟨rfl, rfl⟩ := IsL.uniq hl51 hl13
            obtain ⟨rfl, rfl⟩ := IsL.uniq hl55 hl17
            obtain ⟨rfl, rfl⟩ := IsL.uniq hl59 hl21
            exact ⟨_, .refl _, [], _, _, [], _, rfl, rfl, rfl, rfl, rfl, rfl⟩
          | false =>
            replace h := cnd_f h
            cbv
            obtain ⟨j80, hj81, h⟩ := jn h
            refine JoinP.mk ({x : (List TRef05_Cell) × (List D) × Nat // IsL eRef05_Cell x.2.1 x.2.2 x.1 ∧ j80 (x.1) = some ((TRef05_Disk.mk (TGeom.mk v39 v40 v41 v42 v43) l44 l48 l52 l56 b60 v61 b62 v63), v64)}) (fun x => ⟨[(2, .ptr 0 0), (4, .ptr 1 0), (6, .d (.int .i64 v67)), (9, .d (.int .i64 v27))], [(0, .box [.d (.int .i64 v1), .d (.int .i64 v2), .d (.int .i64 v3), .d (.int .i64 v4), .d (.int .i64 v5), .d (.lst c74 n75), .d (.lst c11 n12), .d (.lst c15 n16), .d (.lst x.1.2.1 x.1.2.2), .d (.bool b22), .d (.int .i64 v23), .d (.bool false), .d (.int .i64 v25)]), (1, .box [.d (.int .i64 0), .d (.int .i64 0), .d (.int .i64 0), .d (.int .i64 0), .d (.int .i64 0), .d .nils, .d .nils, .d .nils, .d .nils, .d (.bool false), .d (.int .i64 0), .d (.bool false), .d (.int .i64 0)])], 2, 174⟩) (fun _ => True) [2, 4, 6, 9] ?_ ?_
            · cbv
              revert h
              refine st_cmp hJ fun b82 eb82 h => ?_
              cbv
              cases b82 with
              | true =>
                replace h := cnd_t h
                cbv
                have hl83 : IsL eRef05_Cell ((D.int .i64 v27) :: ((D.int .i64 v28) :: (J .app d30 []))) 1 [(TRef05_Cell.mk (TAt.mk v27 v28) a29)] := ⟨by rw [(show d30 = encL (eI .u8) a29.l from ha31)]; subst hJ; simp [stdJ, std, encL, eRef05_Cell, eI], rfl⟩
                refine st_any hJ rfl rfl (by subst hJ; exact (by decide : 66 ≤ 16777216)) ?_
                cbv
                obtain ⟨l86, h85, h⟩ := bnd h
                obtain ⟨c87, n88, hl89⟩ := nameL eRef05_Cell l86
                refine snap_by hP (s50 hl21 hl83 hl89 h85) hJ (by cbv) rfl ⟨trivial, ⟨noL_enc hl89 eRef05_Cell_noL, trivial⟩⟩ ?_
                cbv
                exact ⟨⟨(l86, c87, n88), hl89, h⟩, [(0, 0), (2, 1)], 2, [], rfl, trivial⟩
              | false =>
                replace h := cnd_f h
                cbv
                exact ⟨⟨(l18, c19, n20), hl21, h⟩, [(0, 0), (2, 1)], 2, [], rfl, trivial⟩
            · rintro ⟨⟨l82, c83, n84⟩, hl85, h⟩ -
              rw [hj81] at h
              try dsimp only at h ⊢
              cbv
              obtain ⟨j87, hj88, h⟩ := jn h
              refine JoinP.mk ({x : (List Int) × (List D) × Nat × (List TRef05_Cell) × (List D) × Nat × (List TRef05_Cell) × (List D) × Nat // IsL (eI .i64) x.2.1 x.2.2.1 x.1 ∧ IsL eRef05_Cell x.2.2.2.2.1 x.2.2.2.2.2.1 x.2.2.2.1 ∧ IsL eRef05_Cell x.2.2.2.2.2.2.2.1 x.2.2.2.2.2.2.2.2 x.2.2.2.2.2.2.1 ∧ j87 (x.1, x.2.2.2.1, x.2.2.2.2.2.2.1) = some ((TRef05_Disk.mk (TGeom.mk v39 v40 v41 v42 v43) l44 l48 l52 l56 b60 v61 b62 v63), v64)}) (fun x => ⟨[(2, .ptr 0 0), (4, .ptr 1 0), (6, .d (.int .i64 v67)), (9, .d (.int .i64 v27))], [(0, .box [.d (.int .i64 v1), .d (.int .i64 v2), .d (.int .i64 v3), .d (.int .i64 v4), .d (.int .i64 v5), .d (.lst c74 n75), .d (.lst x.1.2.1 x.1.2.2.1), .d (.lst x.1.2.2.2.2.1 x.1.2.2.2.2.2.1), .d (.lst x.1.2.2.2.2.2.2.2.1 x.1.2.2.2.2.2.2.2.2), .d (.bool b22), .d (.int .i64 v23), .d (.bool false), .d (.int .i64 v25)]), (1, .box [.d (.int .i64 0), .d (.int .i64 0), .d (.int .i64 0), .d (.int .i64 0), .d (.int .i64 0), .d .nils, .d .nils, .d .nils, .d .nils, .d (.bool false), .d (.int .i64 0), .d (.bool false), .d (.int .i64 0)])], 2, 174⟩) (fun _ => True) [2, 4, 6, 9] ?_ ?_
              · cbv
                revert h
                refine st_cmp hJ fun b89 eb89 h => ?_
                cbv
                cases b89 with
                | true =>
                  replace h := cnd_t h
                  cbv
                  obtain ⟨l92, h91, h⟩ := bnd h
                  obtain ⟨c93, n94, hl95⟩ := nameL eRef05_Cell l92
                  refine call_by hP (s51 hl17 hl95 h91) hJ rfl rfl ?_
                  cbv
                  obtain ⟨l98, h97, h⟩ := bnd h
                  obtain ⟨c99, n100, hl101⟩ := nameL eRef05_Cell l98
                  refine call_by hP (s51 hl85 hl101 h97) hJ rfl rfl ?_
                  cbv
                  obtain ⟨p103, q102, hp104, hf105, hq106⟩ := bnd_loop h
                  clear h
                  refine LoopB.mk ({x : Nat × Int × (List Int) × (List D) × Nat // IsL (eI .i64) x.2.2.2.1 x.2.2.2.2 x.2.2.1 ∧ loopN p103 x.1 (x.2.1, x.2.2.1) = some q102}) (fun x => ⟨[(2, .ptr 0 0), (4, .ptr 1 0), (6, .d (.int .i64 v67)), (9, .d (.int .i64 v27)), (10, .own 4 x.1.2.2.2.2 1), (11, .d (.int .i64 x.1.2.1))], [(0, .box [.d (.int .i64 v1), .d (.int .i64 v2), .d (.int .i64 v3), .d (.int .i64 v4), .d (.int .i64 v5), .d (.lst c74 n75), .d (.lst c11 n12), .own 2 n94 66, .own 3 n100 66, .d (.bool b22), .d (.int .i64 v23), .d (.bool false), .d (.int .i64 v25)]), (1, .box [.d (.int .i64 0), .d (.int .i64 0), .d (.int .i64 0), .d (.int .i64 0), .d (.int .i64 0), .d .nils, .d .nils, .d .nils, .d .nils, .d (.bool false), .d (.int .i64 0), .d (.bool false), .d (.int .i64 0)]), (2, .row c93 66 104), (3, .row c99 66 104), (4, .row x.1.2.2.2.1 1 3)], 5, 174⟩) (fun x => x.1.1) [2, 4, 6, 9, 10, 11] 4 ⟨(FUEL, 0, ([] : List Int), [], 0), (IsL.nil' (g := (eI .i64))), hf105⟩ ⟨[(0, 0), (1, 1), (7, 2), (14, 3)], [.slot 10 4 1 3], ?_⟩ ?_
                  · rfl
                  · rintro ⟨⟨N109, v112, l113, c114, n115⟩, hl116, hr108⟩
                    obtain ⟨M110, o107, eN111, h, hr108⟩ := loopN_step hr108
                    subst eN111
                    rw [hp104] at h
                    try dsimp only at h ⊢
                    cbv
                    revert h
                    refine st_len hJ hl13 fun v117 ev117 h => ?_
                    cbv
                    revert h
                    refine st_cmp hJ fun b118 eb118 h => ?_
                    cbv
                    cases b118 with
                    | true =>
                      replace h := cnd_t h
                      cbv
                      revert h
                      refine st_idx_lp hJ hl13 fun y119 k120 hy121 ho122 h => ?_
                      cbv
                      refine st_ld hJ (eI_len .i64) hl13 hy121 ho122 0 (fun hJ => by subst hJ; rfl) ([.int .i64 y119]) (Nat.le_of_ble_eq_true rfl) rfl (.int .nil) rfl ?_
                      cbv
                      revert h
                      refine st_cmp hJ fun b124 eb124 h => ?_
                      cbv
                      cases b124 with
                      | true =>
                        replace h := cnd_t h
                        cbv
                        revert h
                        refine st_idx_lp hJ hl13 fun y125 k126 hy127 ho128 h => ?_
                        cbv
                        refine st_ld hJ (eI_len .i64) hl13 hy127 ho128 0 (fun hJ => by subst hJ; rfl) ([.int .i64 y125]) (Nat.le_of_ble_eq_true rfl) rfl (.int .nil) rfl ?_
                        cbv
                        have hl130 : IsL (eI .i64) [.int .i64 y125] 1 [y125] := ⟨rfl, rfl⟩
                        refine st_any hJ rfl rfl (by subst hJ; exact (by decide : 1 ≤ 16777216)) ?_
                        cbv
                        revert h
                        refine st_app hJ (eI_len .i64) hl116 hl130 fun c132 n133 l131 hl134 h => ?_
                        cbv
                        revert h
                        refine st_bin hJ fun v135 ev135 h => ?_
                        cbv
                        cases h
                        exact ⟨⟨(M110, v135, l131, c132, n133), hl134, hr108⟩, [(0, 0), (1, 1), (2, 2), (3, 3), (25, 4)], 5, [], rfl, Nat.lt_succ_self _⟩
                      | false =>
                        replace h := cnd_f h
                        cbv
                        revert h
                        refine st_bin hJ fun v125 ev125 h => ?_
                        cbv
                        cases h
                        exact ⟨⟨(M110, v125, l113, c114, n115), hl116, hr108⟩, [(0, 0), (1, 1), (2, 2), (3, 3), (4, 4)], 5, [], rfl, Nat.lt_succ_self _⟩
                    | false =>
                      replace h := cnd_f h
                      cbv
                      cases h
                      have h := hq106
                      obtain rfl := hr108
                      try dsimp only at h
                      exact ⟨⟨(l113, c114, n115, l92, c93, n94, l98, c99, n100), hl116, hl95, hl101, h⟩, [(0, 0), (1, 1)], 2, [], rfl, trivial⟩
                | false =>
                  replace h := cnd_f h
                  cbv
                  exact ⟨⟨(l10, c11, n12, l14, c15, n16, l82, c83, n84), hl13, hl17, hl85, h⟩, [(0, 0), (1, 1)], 2, [], rfl, trivial⟩
              · rintro ⟨⟨l89, c90, n91, l93, c94, n95, l97, c98, n99⟩, hl92, hl96, hl100, h⟩ -
                rw [hj88] at h
                try dsimp only at h ⊢
                cbv
                obtain ⟨j102, hj103, h⟩ := jn h
                refine JoinP.mk ({x : (List Int) × (List D) × Nat × (List TRef05_Cell) × (List D) × Nat × (List TRef05_Cell) × (List D) × Nat // IsL (eI .i64) x.2.1 x.2.2.1 x.1 ∧ IsL eRef05_Cell x.2.2.2.2.1 x.2.2.2.2.2.1 x.2.2.2.1 ∧ IsL eRef05_Cell x.2.2.2.2.2.2.2.1 x.2.2.2.2.2.2.2.2 x.2.2.2.2.2.2.1 ∧ j102 (x.1, x.2.2.2.1, x.2.2.2.2.2.2.1) = some ((TRef05_Disk.mk (TGeom.mk v39 v40 v41 v42 v43) l44 l48 l52 l56 b60 v61 b62 v63), v64)}) (fun x => ⟨[(2, .ptr 0 0), (4, .ptr 1 0), (6, .d (.int .i64 v67))], [(0, .box [.d (.int .i64 v1), .d (.int .i64 v2), .d (.int .i64 v3), .d (.int .i64 v4), .d (.int .i64 v5), .d (.lst c74 n75), .d (.lst x.1.2.1 x.1.2.2.1), .d (.lst x.1.2.2.2.2.1 x.1.2.2.2.2.2.1), .d (.lst x.1.2.2.2.2.2.2.2.1 x.1.2.2.2.2.2.2.2.2), .d (.bool b22), .d (.int .i64 v23), .d (.bool false), .d (.int .i64 v25)]), (1, .box [.d (.int .i64 0), .d (.int .i64 0), .d (.int .i64 0), .d (.int .i64 0), .d (.int .i64 0), .d .nils, .d .nils, .d .nils, .d .nils, .d (.bool false), .d (.int .i64 0), .d (.bool false), .d (.int .i64 0)])], 2, 174⟩) (fun _ => True) [2, 4, 6] ?_ ?_
                · cbv
                  revert h
                  refine st_cmp hJ fun b104 eb104 h => ?_
                  cbv
                  cases b104 with
                  | true =>
                    replace h := cnd_t h
                    cbv
                    obtain ⟨l107, h106, h⟩ := bnd h
                    obtain ⟨c108, n109, hl110⟩ := nameL eRef05_Cell l107
                    refine call_by hP (s52 hl100 hl110 h106) hJ rfl rfl ?_
                    cbv
                    obtain ⟨l113, h112, h⟩ := bnd h
                    obtain ⟨c114, n115, hl116⟩ := nameL eRef05_Cell l113
                    refine snap_by hP (s50 hl96 hl110 hl116 h112) hJ (by cbv) rfl ⟨trivial, ⟨noL_enc hl116 eRef05_Cell_noL, trivial⟩⟩ ?_
                    cbv
                    refine ⟨fun _ => by kernel_rfl, ?_⟩
                    cbv
                    obtain ⟨l119, h118, h⟩ := bnd h
                    obtain ⟨c120, n121, hl122⟩ := nameL eRef05_Cell l119
                    refine call_by hP (s51 hl100 hl122 h118) hJ rfl rfl ?_
                    cbv
                    have hl123 : IsL (eI .i64) [] 0 [] := ⟨rfl, rfl⟩
                    refine st_any hJ rfl rfl (by subst hJ; exact (by decide : 0 ≤ 16777216)) ?_
                    cbv
                    revert h
                    refine st_app hJ (eI_len .i64) hl123 hl92 fun c125 n126 l124 hl127 h => ?_
                    cbv
                    have hl128 : IsL (eI .i64) [.int .i64 v27] 1 [v27] := ⟨rfl, rfl⟩
                    refine st_any hJ rfl rfl (by subst hJ; exact (by decide : 1 ≤ 16777216)) ?_
                    cbv
                    revert h
                    refine st_app hJ (eI_len .i64) hl127 hl128 fun c130 n131 l129 hl132 h => ?_
                    cbv
                    exact ⟨⟨(l129, c130, n131, l113, c114, n115, l119, c120, n121), hl132, hl116, hl122, h⟩, [(0, 0), (1, 1)], 2, [], rfl, trivial⟩
                  | false =>
                    replace h := cnd_f h
                    cbv
                    exact ⟨⟨(l89, c90, n91, l93, c94, n95, l97, c98, n99), hl92, hl96, hl100, h⟩, [(0, 0), (1, 1)], 2, [], rfl, trivial⟩
                · rintro ⟨⟨l104, c105, n106, l108, c109, n110, l112, c113, n114⟩, hl107, hl111, hl115, h⟩ -
                  rw [hj103] at h
                  try dsimp only at h ⊢
                  cbv
                  obtain ⟨j117, hj118, h⟩ := jn h
                  refine JoinP.mk ({x : (List TRef05_Cell) × (List D) × Nat × (List TRef05_Cell) × (List D) × Nat // IsL eRef05_Cell x.2.1 x.2.2.1 x.1 ∧ IsL eRef05_Cell x.2.2.2.2.1 x.2.2.2.2.2 x.2.2.2.1 ∧ j117 (x.1, x.2.2.2.1) = some ((TRef05_Disk.mk (TGeom.mk v39 v40 v41 v42 v43) l44 l48 l52 l56 b60 v61 b62 v63), v64)}) (fun x => ⟨[(2, .ptr 0 0), (4, .ptr 1 0)], [(0, .box [.d (.int .i64 v1), .d (.int .i64 v2), .d (.int .i64 v3), .d (.int .i64 v4), .d (.int .i64 v5), .d (.lst c74 n75), .d (.lst c105 n106), .d (.lst x.1.2.1 x.1.2.2.1), .d (.lst x.1.2.2.2.2.1 x.1.2.2.2.2.2), .d (.bool b22), .d (.int .i64 v23), .d (.bool false), .d (.int .i64 v25)]), (1, .box [.d (.int .i64 0), .d (.int .i64 0), .d (.int .i64 0), .d (.int .i64 0), .d (.int .i64 0), .d .nils, .d .nils, .d .nils, .d .nils, .d (.bool false), .d (.int .i64 0), .d (.bool false), .d (.int .i64 0)])], 2, 174⟩) (fun _ => True) [2, 4] ?_ ?_
                  · cbv
                    revert h
                    refine st_cmp hJ fun b119 eb119 h => ?_
                    cbv
                    cases b119 with
                    | true =>
                      replace h := cnd_t h
                      cbv
                      obtain ⟨l122, h121, h⟩ := bnd h
                      obtain ⟨c123, n124, hl125⟩ := nameL eRef05_Cell l122
                      refine call_by hP (s50 hl111 hl115 hl125 h121) hJ rfl rfl ?_
                      cbv
                      exact ⟨⟨(l122, c123, n124, ([] : List TRef05_Cell), [], 0), hl125, (IsL.nil' (g := eRef05_Cell)), h⟩, [(0, 0), (1, 1)], 2, [.nlC 0 8], rfl, trivial⟩
                    | false =>
                      replace h := cnd_f h
                      cbv
                      exact ⟨⟨(l108, c109, n110, l112, c113, n114), hl111, hl115, h⟩, [(0, 0), (1, 1)], 2, [], rfl, trivial⟩
                  · rintro ⟨⟨l119, c120, n121, l123, c124, n125⟩, hl122, hl126, h⟩ -
                    rw [hj118] at h
                    try dsimp only at h ⊢
                    cbv
                    cases b22 with
                    | true =>
                      replace h := cnd_t h
                      cbv
                      revert h
                      refine st_bin hJ fun v127 ev127 h => ?_
                      cbv
                      revert h
                      refine st_cmp hJ fun b128 eb128 h => ?_
                      cbv
                      cases h
                      obtain ⟨rfl, rfl⟩ := IsL.uniq hl47 hl76
                      obtain ⟨rfl, rfl⟩ := IsL.uniq hl51 hl107
                      obtain ⟨rfl, rfl⟩ := IsL.uniq hl55 hl122
                      obtain ⟨rfl, rfl⟩ := IsL.uniq hl59 hl126
                      exact ⟨_, .refl _, [], _, _, [], _, rfl, rfl, rfl, rfl, rfl, rfl⟩
                    | false =>
                      replace h := cnd_f h
                      cbv
                      cases h
                      obtain ⟨rfl, rfl⟩ := IsL.uniq hl47 hl76
                      obtain ⟨rfl, rfl⟩ := IsL.uniq hl51 hl107
                      obtain ⟨rfl, rfl⟩ := IsL.uniq hl55 hl122
                      obtain ⟨rfl, rfl⟩ := IsL.uniq hl59 hl126
                      exact ⟨_, .refl _, [], _, _, [], _, rfl, rfl, rfl, rfl, rfl, rfl⟩
end Go.AX
