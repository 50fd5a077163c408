/- What functions of the program compute: each is what its Lean function says. -/
import Derived.Test.YtjpajfgdbmeiiaaQS1
import Derived.Test.YtjpajfgdbmeiiaaQS11
import Derived.Test.YtjpajfgdbmeiiaaQS14
import Derived.Test.YtjpajfgdbmeiiaaQS16
import Derived.Test.YtjpajfgdbmeiiaaQS17
import Derived.Test.YtjpajfgdbmeiiaaQS2
namespace Go.AX
open Go.Proofs
set_option autoImplicit false
set_option linter.unusedVariables false
set_option maxRecDepth 100000
set_option maxHeartbeats 4000000
set_option linter.unusedSimpArgs false

theorem s7 {v1 : Int} {v2 : Int} {v3 : Int} {v4 : Int} {v5 : Int} {l6 : List TLaw11_Act} {c7 : List D} {n8 : Nat} (hl9 : IsL eLaw11_Act c7 n8 l6) {b10 : Bool}  (h : m_law11_PoolOne (TGeom.mk v1 v2 v3 v4 v5) l6 = some b10) : Spec Try.prog 7 [.agg [.d (.int .i64 v1), .d (.int .i64 v2), .d (.int .i64 v3), .d (.int .i64 v4), .d (.int .i64 v5)], .d (.lst c7 n8)] ⟨.d (.bool b10), [], 0, True⟩ := by
  refine spec_b [6, 4, 50, 46] Try.func7 rfl rfl rfl fun J P hJ hP => ?_
  dsimp only [m_law11_PoolOne] at h
  cbv
  obtain ⟨j13, hj14, h⟩ := jn h
  refine JoinP.mk ({x : Unit // j13 () = some b10}) (fun x => ⟨[(1, .d (.lst c7 n8)), (2, .ptr 0 0)], [(0, .box [.d (.int .i64 v1), .d (.int .i64 v2), .d (.int .i64 v3), .d (.int .i64 v4), .d (.int .i64 v5)])], 1, 128⟩) (fun _ => True) [1, 2] ?_ ?_
  · cbv
    obtain ⟨j16, hj17, h⟩ := jn h
    refine JoinP.mk ({x : Bool // j16 (x) = some b10}) (fun x => ⟨[(1, .d (.lst c7 n8)), (2, .ptr 0 0), (27, .d (.bool x.1))], [(0, .box [.d (.int .i64 v1), .d (.int .i64 v2), .d (.int .i64 v3), .d (.int .i64 v4), .d (.int .i64 v5)])], 1, 128⟩) (fun _ => True) [1, 2, 27] ?_ ?_
    · cbv
      obtain ⟨b20, h19, h⟩ := bnd h
      refine call_by hP (s14 h19) hJ rfl rfl ?_
      cbv
      revert h
      refine st_not hJ fun b21 eb21 h => ?_
      cbv
      cases b21 with
      | true =>
        replace h := cnd_t h
        cbv
        exact ⟨⟨(true), h⟩, [(0, 0)], 1, [], rfl, trivial⟩
      | false =>
        replace h := cnd_f h
        cbv
        obtain ⟨b24, h23, h⟩ := bnd h
        refine call_by hP (s15 h23) hJ rfl rfl ?_
        cbv
        revert h
        refine st_not hJ fun b25 eb25 h => ?_
        cbv
        cases b25 with
        | true =>
          replace h := cnd_t h
          cbv
          exact ⟨⟨(true), h⟩, [(0, 0)], 1, [], rfl, trivial⟩
        | false =>
          replace h := cnd_f h
          cbv
          revert h
          refine st_len hJ hl9 fun v26 ev26 h => ?_
          cbv
          revert h
          refine st_cmp hJ fun b27 eb27 h => ?_
          cbv
          exact ⟨⟨(b27), h⟩, [(0, 0)], 1, [], rfl, trivial⟩
    · rintro ⟨b18, h⟩ -
      rw [hj17] at h
      try dsimp only at h ⊢
      cbv
      cases b18 with
      | true =>
        replace h := cnd_t h
        cbv
        obtain ⟨b21, h20, h⟩ := bnd h
        refine call_by hP (s14 h20) hJ rfl rfl ?_
        cbv
        cases h
        exact ⟨[], _, _, [], rfl, rfl, rfl, rfl⟩
      | false =>
        replace h := cnd_f h
        cbv
        exact ⟨⟨(), h⟩, [(0, 0)], 1, [], rfl, trivial⟩
  · rintro ⟨_, h⟩ -
    rw [hj14] at h
    try dsimp only at h ⊢
    cbv
    obtain ⟨l17, h16, h⟩ := bnd h
    obtain ⟨c18, n19, hl20⟩ := nameL eZone l17
    refine call_by hP (s32 hl20 h16) hJ rfl rfl ?_
    cbv
    obtain ⟨⟨⟨l23, ⟨v27, v28, v29⟩⟩, b30⟩, h22, h⟩ := bnd h
    obtain ⟨c24, n25, hl26⟩ := nameL (eI .i64) l23
    try dsimp only at h
    refine snap_by hP (s23 hl20 hl26 h22) hJ (by cbv) rfl ⟨by simp [V.noL, noLs, D.noL], ⟨noL_enc hl26 (eI_noL .i64), trivial⟩⟩ ?_
    cbv
    refine ⟨fun _ => by kernel_rfl, ?_⟩
    cbv
    revert h
    refine st_not hJ fun b31 eb31 h => ?_
    cbv
    cases b31 with
    | true =>
      replace h := cnd_t h
      cbv
      cases h
      exact ⟨[], _, _, [], rfl, rfl, rfl, rfl⟩
    | false =>
      replace h := cnd_f h
      cbv
      obtain ⟨p33, q32, hp34, hf35, hq36⟩ := bnd_loop h
      clear h
      refine LoopB.mk ({x : Nat × Int × Int × Int × Int × (Ar 64) × (List D) × (List Int) × (List D) × Nat // x.2.2.2.2.2.2.1 = encL (eI .i64) x.2.2.2.2.2.1.l ∧ IsL (eI .i64) x.2.2.2.2.2.2.2.2.1 x.2.2.2.2.2.2.2.2.2 x.2.2.2.2.2.2.2.1 ∧ loopN p33 x.1 (x.2.1, x.2.2.1, x.2.2.2.1, x.2.2.2.2.1, x.2.2.2.2.2.1, x.2.2.2.2.2.2.2.1) = some q32}) (fun x => ⟨[(1, .d (.lst c7 n8)), (2, .ptr 0 0), (5, .ptr 1 0), (7, .ptr 2 0), (8, .d (.int .i64 x.1.2.1))], [(0, .box [.d (.int .i64 v1), .d (.int .i64 v2), .d (.int .i64 v3), .d (.int .i64 v4), .d (.int .i64 v5)]), (1, .box [.own 3 x.1.2.2.2.2.2.2.2.2.2 1, .d (.int .i64 x.1.2.2.1), .d (.int .i64 x.1.2.2.2.1), .d (.int .i64 x.1.2.2.2.2.1)]), (2, .box [.big 64 x.1.2.2.2.2.2.2.1]), (3, .row x.1.2.2.2.2.2.2.2.2.1 1 3)], 4, 128⟩) (fun x => x.1.1) [1, 2, 5, 7, 8] 4 ⟨(FUEL, 0, v27, v28, v29, (Ar.zero 64), (J .rep 64 (.int .i64 0)), l23, c24, n25), (rep_z hJ 64 .i64), hl26, hf35⟩ ⟨[(0, 0), (10, 1), (16, 2), (5, 3)], [], ?_⟩ ?_
      · rfl
      · rintro ⟨⟨N39, v42, v43, v44, v45, a46, d47, l49, c50, n51⟩, ha48, hl52, hr38⟩
        obtain ⟨M40, o37, eN41, h, hr38⟩ := loopN_step hr38
        subst eN41
        rw [hp34] at h
        try dsimp only at h ⊢
        cbv
        revert h
        refine st_len hJ hl9 fun v53 ev53 h => ?_
        cbv
        revert h
        refine st_cmp hJ fun b54 eb54 h => ?_
        cbv
        cases b54 with
        | true =>
          replace h := cnd_t h
          cbv
          revert h
          refine st_idx_lp hJ hl9 fun y55 k56 hy57 ho58 h => ?_
          obtain ⟨v59, v60⟩ := y55
          try dsimp only at h
          cbv
          refine st_ld hJ eLaw11_Act_len hl9 hy57 ho58 0 (fun hJ => by subst hJ; rfl) [.int .u8 v59] (Nat.le_of_ble_eq_true rfl) rfl rfl rfl ?_
          cbv
          revert h
          refine st_div hJ fun v61 zv61 ev61 h => ?_
          cbv
          revert h
          refine st_conv hJ fun v62 ev62 h => ?_
          cbv
          obtain ⟨j64, hj65, h⟩ := jn h
          refine JoinP.mk ({x : Int × Int × Int × (Ar 64) × (List D) × (List Int) × (List D) × Nat // x.2.2.2.2.1 = encL (eI .i64) x.2.2.2.1.l ∧ IsL (eI .i64) x.2.2.2.2.2.2.1 x.2.2.2.2.2.2.2 x.2.2.2.2.2.1 ∧ j64 (x.1, x.2.1, x.2.2.1, x.2.2.2.1, x.2.2.2.2.2.1) = some o37}) (fun x => ⟨[(1, .d (.lst c7 n8)), (2, .ptr 0 0), (5, .ptr 1 0), (7, .ptr 2 0), (8, .d (.int .i64 v42))], [(0, .box [.d (.int .i64 v1), .d (.int .i64 v2), .d (.int .i64 v3), .d (.int .i64 v4), .d (.int .i64 v5)]), (1, .box [.own 3 x.1.2.2.2.2.2.2.2 1, .d (.int .i64 x.1.1), .d (.int .i64 x.1.2.1), .d (.int .i64 x.1.2.2.1)]), (2, .box [.big 64 x.1.2.2.2.2.1]), (3, .row x.1.2.2.2.2.2.2.1 1 3)], 4, 128⟩) (fun _ => True) [1, 2, 5, 7, 8] ?_ ?_
          · cbv
            revert h
            refine st_cmp hJ fun b66 eb66 h => ?_
            cbv
            cases b66 with
            | true =>
              replace h := cnd_t h
              cbv
              revert h
              refine st_idx_lp hJ hl9 fun y67 k68 hy69 ho70 h => ?_
              obtain ⟨v71, v72⟩ := y67
              try dsimp only at h
              cbv
              refine st_ld hJ eLaw11_Act_len hl9 hy69 ho70 1 (fun hJ => by subst hJ; rfl) [.int .u8 v72] (Nat.le_of_ble_eq_true rfl) rfl rfl rfl ?_
              cbv
              revert h
              refine st_conv hJ fun v73 ev73 h => ?_
              cbv
              revert h
              refine st_div hJ fun v74 zv74 ev74 h => ?_
              cbv
              revert h
              refine st_bin hJ fun v75 ev75 h => ?_
              cbv
              refine ⟨fun _ => by kernel_rfl, ?_⟩
              cbv
              obtain ⟨⟨⟨l78, ⟨v82, v83, v84⟩⟩, b85⟩, h77, h⟩ := bnd h
              obtain ⟨c79, n80, hl81⟩ := nameL (eI .i64) l78
              try dsimp only at h
              refine snap_by hP (s20 hl52 hl81 h77) hJ (by cbv) rfl ⟨by simp [V.noL, noLs, D.noL], ⟨noL_enc hl81 (eI_noL .i64), trivial⟩⟩ ?_
              cbv
              revert h
              refine st_idx_px hJ (Ar.h a46) fun v86 k87 hy88 ho89 h => ?_
              cbv
              refine st_ldA hJ ha48 hy88 ho89 (fun hJ => by subst hJ; simp [stdJ, std]) ?_
              cbv
              revert h
              refine st_cmp hJ fun b90 eb90 h => ?_
              cbv
              revert h
              refine st_neb hJ fun b91 eb91 h => ?_
              cbv
              refine ⟨fun _ => by kernel_rfl, ?_⟩
              cbv
              cases b91 with
              | true =>
                replace h := cnd_t h
                cbv
                cases h
                have h := hq36
                obtain rfl := hr38
                try dsimp only at h
                cases h
                exact ⟨[], _, _, [], rfl, rfl, rfl, rfl⟩
              | false =>
                replace h := cnd_f h
                cbv
                cases b85 with
                | true =>
                  replace h := cnd_t h
                  cbv
                  revert h
                  refine st_idx_px hJ (Ar.h a46) fun v92 k93 hy94 ho95 h => ?_
                  cbv
                  obtain ⟨a96, ha96, h⟩ := letv h
                  obtain ⟨d97, ha98⟩ := nameA .i64 a96
                  refine st_any hJ rfl (wr' := [(2, .box [.big 64 d97])]) (by rw [set_put hJ ha48 ho95 ha96 ha98]) (px_leA hJ ho95 hy94) ?_
                  cbv
                  exact ⟨⟨(v82, v83, v84, a96, d97, l78, c79, n80), ha98, hl81, h⟩, [(0, 0), (1, 1), (2, 2), (34, 3)], 4, [], rfl, trivial⟩
                | false =>
                  replace h := cnd_f h
                  cbv
                  exact ⟨⟨(v82, v83, v84, a46, d47, l78, c79, n80), ha48, hl81, h⟩, [(0, 0), (1, 1), (2, 2), (34, 3)], 4, [], rfl, trivial⟩
            | false =>
              replace h := cnd_f h
              cbv
              obtain ⟨⟨⟨v69, v70⟩, ⟨l71, ⟨v75, v76, v77⟩⟩, b78⟩, h68, h⟩ := bnd h
              obtain ⟨c72, n73, hl74⟩ := nameL (eI .i64) l71
              try dsimp only at h
              refine snap_by hP (s19 hl52 hl74 h68) hJ (by cbv) rfl ⟨by simp [V.noL, noLs, D.noL], ⟨noL_enc hl74 (eI_noL .i64), trivial⟩⟩ ?_
              cbv
              cases b78 with
              | true =>
                replace h := cnd_t h
                cbv
                obtain ⟨j80, hj81, h⟩ := jn h
                refine JoinP.mk ({x : Unit // j80 () = some o37}) (fun x => ⟨[(1, .d (.lst c7 n8)), (2, .ptr 0 0), (5, .ptr 1 0), (7, .ptr 2 0), (8, .d (.int .i64 v42)), (13, .ptr 3 0), (14, .ptr 4 0)], [(0, .box [.d (.int .i64 v1), .d (.int .i64 v2), .d (.int .i64 v3), .d (.int .i64 v4), .d (.int .i64 v5)]), (1, .box [.own 5 n51 1, .d (.int .i64 v43), .d (.int .i64 v44), .d (.int .i64 v45)]), (2, .box [.big 64 d47]), (3, .box [.d (.int .i64 v69), .d (.int .i64 v70)]), (4, .box [.own 6 n73 1, .d (.int .i64 v75), .d (.int .i64 v76), .d (.int .i64 v77)]), (5, .row c50 1 3), (6, .row c72 1 3)], 7, 128⟩) (fun _ => True) [1, 2, 5, 7, 8, 13, 14] ?_ ?_
                · cbv
                  revert h
                  refine st_cmp hJ fun b82 eb82 h => ?_
                  cbv
                  cases b82 with
                  | true =>
                    replace h := cnd_t h
                    cbv
                    refine ⟨fun _ => by kernel_rfl, ?_⟩
                    cbv
                    cases h
                    have h := hq36
                    obtain rfl := hr38
                    try dsimp only at h
                    cases h
                    exact ⟨[], _, _, [], rfl, rfl, rfl, rfl⟩
                  | false =>
                    replace h := cnd_f h
                    cbv
                    revert h
                    refine st_bin hJ fun v83 ev83 h => ?_
                    cbv
                    revert h
                    refine st_cmp hJ fun b84 eb84 h => ?_
                    cbv
                    cases b84 with
                    | true =>
                      replace h := cnd_t h
                      cbv
                      refine ⟨fun _ => by kernel_rfl, ?_⟩
                      cbv
                      cases h
                      have h := hq36
                      obtain rfl := hr38
                      try dsimp only at h
                      cases h
                      exact ⟨[], _, _, [], rfl, rfl, rfl, rfl⟩
                    | false =>
                      replace h := cnd_f h
                      cbv
                      revert h
                      refine st_idx_px hJ (Ar.h a46) fun v85 k86 hy87 ho88 h => ?_
                      cbv
                      refine st_ldA hJ ha48 hy87 ho88 (fun hJ => by subst hJ; simp [stdJ, std]) ?_
                      cbv
                      revert h
                      refine st_cmp hJ fun b89 eb89 h => ?_
                      cbv
                      refine ⟨fun _ => by kernel_rfl, ?_⟩
                      cbv
                      cases b89 with
                      | true =>
                        replace h := cnd_t h
                        cbv
                        cases h
                        have h := hq36
                        obtain rfl := hr38
                        try dsimp only at h
                        cases h
                        exact ⟨[], _, _, [], rfl, rfl, rfl, rfl⟩
                      | false =>
                        replace h := cnd_f h
                        cbv
                        exact ⟨⟨(), h⟩, [(0, 0), (1, 1), (2, 2), (27, 3), (29, 4), (3, 5), (21, 6)], 7, [], rfl, trivial⟩
                · rintro ⟨_, h⟩ -
                  rw [hj81] at h
                  try dsimp only at h ⊢
                  cbv
                  revert h
                  refine st_idx_px hJ (Ar.h a46) fun v82 k83 hy84 ho85 h => ?_
                  cbv
                  refine st_ldA hJ ha48 hy84 ho85 (fun hJ => by subst hJ; simp [stdJ, std]) ?_
                  cbv
                  revert h
                  refine st_bin hJ fun v86 ev86 h => ?_
                  cbv
                  revert h
                  refine st_idx_px hJ (Ar.h a46) fun v87 k88 hy89 ho90 h => ?_
                  cbv
                  obtain ⟨a91, ha91, h⟩ := letv h
                  obtain ⟨d92, ha93⟩ := nameA .i64 a91
                  refine st_any hJ rfl (wr' := [(2, .box [.big 64 d92])]) (by rw [set_put hJ ha48 ho90 ha91 ha93]) (px_leA hJ ho90 hy89) ?_
                  cbv
                  exact ⟨⟨(v75, v76, v77, a91, d92, l71, c72, n73), ha93, hl74, h⟩, [(0, 0), (1, 1), (2, 2), (6, 3)], 4, [], rfl, trivial⟩
              | false =>
                replace h := cnd_f h
                cbv
                exact ⟨⟨(v75, v76, v77, a46, d47, l71, c72, n73), ha48, hl74, h⟩, [(0, 0), (1, 1), (2, 2), (21, 3)], 4, [], rfl, trivial⟩
          · rintro ⟨⟨v66, v67, v68, a69, d70, l72, c73, n74⟩, ha71, hl75, h⟩ -
            rw [hj65] at h
            try dsimp only at h ⊢
            cbv
            obtain ⟨b78, h77, h⟩ := bnd h
            refine snap_by hP (s25 hl75 h77) hJ (by cbv) rfl ⟨by simp [V.noL, noLs, D.noL], trivial⟩ ?_
            cbv
            revert h
            refine st_not hJ fun b79 eb79 h => ?_
            cbv
            cases b79 with
            | true =>
              replace h := cnd_t h
              cbv
              cases h
              have h := hq36
              obtain rfl := hr38
              try dsimp only at h
              cases h
              exact ⟨[], _, _, [], rfl, rfl, rfl, rfl⟩
            | false =>
              replace h := cnd_f h
              cbv
              revert h
              refine st_bin hJ fun v80 ev80 h => ?_
              cbv
              cases h
              exact ⟨⟨(M40, v80, v66, v67, v68, a69, d70, l72, c73, n74), ha71, hl75, hr38⟩, [(0, 0), (1, 1), (2, 2), (3, 3)], 4, [], rfl, Nat.lt_succ_self _⟩
        | false =>
          replace h := cnd_f h
          cbv
          cases h
          have h := hq36
          obtain rfl := hr38
          try dsimp only at h
          cases h
          exact ⟨[], _, _, [], rfl, rfl, rfl, rfl⟩
end Go.AX
