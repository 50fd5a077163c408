/- What functions of the program compute: each is what its Lean function says. -/
import Derived.Test.YtgphlcbjgcogkaaXS11
import Derived.Test.YtgphlcbjgcogkaaXS16
import Derived.Test.YtgphlcbjgcogkaaXS19
import Derived.Test.YtgphlcbjgcogkaaXS24
namespace Go.AX
open Go.Proofs
set_option linter.unusedVariables false
set_option maxRecDepth 100000
set_option maxHeartbeats 100000000
set_option linter.unusedSimpArgs false
set_option autoImplicit true
set_option relaxedAutoImplicit true
variable {Ze : ZeT} {Zn : ZnT} {Za : ZaT} {Zb : ZbT} {Zm : ZmT}

theorem s13 (hZ : ZS Ze Zn Za Zb Zm)  (h : m_ref14_Lay x0 x1 = some z0) : SpecM Try.prog 13 0 [] [.agg [.d (.int .i64 x0.Conv), .d (.int .i64 x0.Soft), .d (.int .i64 x0.Seq), .d (.int .i64 x0.Size), .d (.int .i64 x0.Open)], .d (.lst (Ze _ eRef14_Step x1) (Zn _ x1))] ⟨.ptr 0 0, [(0, .box [.d (.int .i64 z0.g.Conv), .d (.int .i64 z0.g.Soft), .d (.int .i64 z0.g.Seq), .d (.int .i64 z0.g.Size), .d (.int .i64 z0.g.Open), .own 1 (Zn _ z0.zones) 2, .map 2, .map 3, .map 4, .own 5 (Zn _ z0.cached) 66, .d (.int .i64 z0.left_), .d (.bool z0.down), .d (.int .i64 z0.illegal)]), (1, .row (Ze _ eZone z0.zones) 2 66), (2, .mp false false (Zm _ _ (eI .i64) eB z0.finished)), (3, .mp true true (Zm _ _ eAt (eA (n := 64) .u8) z0.safe)), (4, .mp true true (Zm _ _ eAt (eA (n := 64) .u8) z0.now)), (5, .row (Ze _ eDev_write z0.cached) 66 88)], 6, True⟩ := by
  refine specM_b [24, 22, 13] 0 0 Try.func13 rfl rfl rfl rfl rfl rfl fun J P hJ hP => ?_
  dsimp only [m_ref14_Lay] at h
  cbv
  obtain ⟨z64u8, ez64u8, h⟩ := letv h; have rz64u8 := zrep hJ hZ 64 .u8 ez64u8
  obtain ⟨o3, h2, h⟩ := bnd h
  refine callM_by hP (s21 hZ h2) [] false hJ rfl rfl rfl rfl rfl (.inl rfl) ?_; cbv
  obtain ⟨j4, hj5, h⟩ := jn h
  refine JoinP.mk {x : TDev_Device // j4 x = some z0} (fun x => ⟨[(5, .ptr 0 0)], [(0, .box [.d (.int .i64 x.1.g.Conv), .d (.int .i64 x.1.g.Soft), .d (.int .i64 x.1.g.Seq), .d (.int .i64 x.1.g.Size), .d (.int .i64 x.1.g.Open), .own 1 (Zn _ x.1.zones) 2, .map 2, .map 3, .map 4, .own 5 (Zn _ x.1.cached) 66, .d (.int .i64 x.1.left_), .d (.bool x.1.down), .d (.int .i64 x.1.illegal)]), (1, .row (Ze _ eZone x.1.zones) 2 66), (2, .mp false false (Zm _ _ (eI .i64) eB x.1.finished)), (3, .mp true true (Zm _ _ eAt (eA (n := 64) .u8) x.1.safe)), (4, .mp true true (Zm _ _ eAt (eA (n := 64) .u8) x.1.now)), (5, .row (Ze _ eDev_write x.1.cached) 66 88)], 6, 60⟩) (fun _ => True) [5] ?_ ?_
  · cbv
    obtain ⟨p7, q6, hp8, hf9, hq10⟩ := bnd_loop h; clear h
    refine LoopB.mk {x : Nat × Int × TDev_Device // loopN p7 x.1 x.2 = some q6} (fun x => ⟨[(1, .d (.lst (Ze _ eRef14_Step x1) (Zn _ x1))), (2, .ptr 0 0), (5, .ptr 1 0), (6, .d (.int .i64 x.1.2.1))], [(0, .box [.d (.int .i64 x0.Conv), .d (.int .i64 x0.Soft), .d (.int .i64 x0.Seq), .d (.int .i64 x0.Size), .d (.int .i64 x0.Open)]), (1, .box [.d (.int .i64 x.1.2.2.g.Conv), .d (.int .i64 x.1.2.2.g.Soft), .d (.int .i64 x.1.2.2.g.Seq), .d (.int .i64 x.1.2.2.g.Size), .d (.int .i64 x.1.2.2.g.Open), .own 2 (Zn _ x.1.2.2.zones) 2, .map 3, .map 4, .map 5, .own 6 (Zn _ x.1.2.2.cached) 66, .d (.int .i64 x.1.2.2.left_), .d (.bool x.1.2.2.down), .d (.int .i64 x.1.2.2.illegal)]), (2, .row (Ze _ eZone x.1.2.2.zones) 2 66), (3, .mp false false (Zm _ _ (eI .i64) eB x.1.2.2.finished)), (4, .mp true true (Zm _ _ eAt (eA (n := 64) .u8) x.1.2.2.safe)), (5, .mp true true (Zm _ _ eAt (eA (n := 64) .u8) x.1.2.2.now)), (6, .row (Ze _ eDev_write x.1.2.2.cached) 66 88)], 7, 60⟩) (fun x => x.1.1) [1, 2, 5, 6] 6 ⟨(FUEL, _), hf9⟩ ⟨[(0, 0), (4, 1), (5, 2), (6, 3), (7, 4), (8, 5)], [.cell 1 9 6 66 88], ?_⟩ ?_
    · simp only [hZ.e0, hZ.n0]; rfl
    · rintro ⟨⟨N13, ⟨v16, o17⟩⟩, hr12⟩; obtain ⟨M14, o11, eN15, h, hr12⟩ := loopN_step hr12; subst eN15; rw [hp8] at h; try dsimp only at h ⊢
      cbv
      revert h; refine zln hJ hZ fun v18 h => ?_; cbv
      revert h; refine zc hJ fun b19 h => ?_; cbv
      cases b19 with
      | true =>
        replace h := cnd_t h; cbv
        revert h; refine zlp hJ hZ fun y20 k21 hy22 ho23 h => ?_; cbv
        refine zl hJ hZ eRef14_Step_len hy22 ho23 (fun hJ => by subst hJ; rfl) (l_eRef14_Step_0_5 hZ _) ?_; cbv
        revert h; refine zw hJ fun v24 h => ?_; cbv
        revert h; refine zq hJ fun v25 h => ?_; cbv
        revert h; refine zb hJ fun v26 h => ?_; cbv
        refine ⟨fun _ => by kernel_rfl, ?_⟩; cbv
        refine JoinP.mk Unit (fun _ => ⟨[(1, .d (.lst (Ze _ eRef14_Step x1) (Zn _ x1))), (2, .ptr 0 0), (5, .ptr 1 0), (6, .d (.int .i64 v16)), (7, .d (.int .i64 v26))], [(0, .box [.d (.int .i64 x0.Conv), .d (.int .i64 x0.Soft), .d (.int .i64 x0.Seq), .d (.int .i64 x0.Size), .d (.int .i64 x0.Open)]), (1, .box [.d (.int .i64 o17.g.Conv), .d (.int .i64 o17.g.Soft), .d (.int .i64 o17.g.Seq), .d (.int .i64 o17.g.Size), .d (.int .i64 o17.g.Open), .own 2 (Zn _ o17.zones) 2, .map 3, .map 4, .map 5, .own 6 (Zn _ o17.cached) 66, .d (.int .i64 o17.left_), .d (.bool o17.down), .d (.int .i64 o17.illegal)]), (2, .row (Ze _ eZone o17.zones) 2 66), (3, .mp false false (Zm _ _ (eI .i64) eB o17.finished)), (4, .mp true true (Zm _ _ eAt (eA (n := 64) .u8) o17.safe)), (5, .mp true true (Zm _ _ eAt (eA (n := 64) .u8) o17.now)), (6, .row (Ze _ eDev_write o17.cached) 66 88)], 7, 60⟩) (fun _ => True) [1, 2, 5, 6, 7] ⟨(), [(0, 0), (1, 1), (2, 2), (3, 3), (4, 4), (5, 5), (6, 6)], 7, [], rfl, trivial⟩ ?_; intro _ _; cbv
        obtain ⟨l28, h27, h⟩ := bnd h
        refine callM_by hP (s22 hZ h27) [(1, 0), (2, 1), (3, 2), (4, 3), (5, 4), (6, 5)] false hJ rfl rfl rfl rfl rfl (.inl rfl) ?_; cbv
        revert h; refine zln hJ hZ fun v29 h => ?_; cbv
        revert h; refine zc hJ fun b30 h => ?_; cbv
        cases b30 with
        | true =>
          replace h := cnd_t h; cbv
          revert h; refine zb hJ fun v31 h => ?_; cbv
          cases h; exact ⟨⟨(M14, _), hr12⟩, [(0, 0), (1, 1), (2, 2), (3, 3), (4, 4), (5, 5), (6, 6)], 7, [], rfl, Nat.lt_succ_self _⟩
        | false =>
          replace h := cnd_f h; cbv
          try rw [rz64u8]
          try rw [rz64u8]
          obtain ⟨j31, hj32, h⟩ := jn h
          refine JoinP.mk {x : (Ar 64) // j31 x = some o11} (fun x => ⟨[(1, .d (.lst (Ze _ eRef14_Step x1) (Zn _ x1))), (2, .ptr 0 0), (5, .ptr 1 0), (6, .d (.int .i64 v16)), (7, .d (.int .i64 v26)), (8, .own 2 (Zn _ l28) 2), (9, .ptr 3 0)], [(0, .box [.d (.int .i64 x0.Conv), .d (.int .i64 x0.Soft), .d (.int .i64 x0.Seq), .d (.int .i64 x0.Size), .d (.int .i64 x0.Open)]), (1, .box [.d (.int .i64 o17.g.Conv), .d (.int .i64 o17.g.Soft), .d (.int .i64 o17.g.Seq), .d (.int .i64 o17.g.Size), .d (.int .i64 o17.g.Open), .own 4 (Zn _ o17.zones) 2, .map 5, .map 6, .map 7, .own 8 (Zn _ o17.cached) 66, .d (.int .i64 o17.left_), .d (.bool o17.down), .d (.int .i64 o17.illegal)]), (2, .row (Ze _ eZone l28) 2 66), (3, .box [.big 64 (Za .u8 _ x.1)]), (4, .row (Ze _ eZone o17.zones) 2 66), (5, .mp false false (Zm _ _ (eI .i64) eB o17.finished)), (6, .mp true true (Zm _ _ eAt (eA (n := 64) .u8) o17.safe)), (7, .mp true true (Zm _ _ eAt (eA (n := 64) .u8) o17.now)), (8, .row (Ze _ eDev_write o17.cached) 66 88)], 9, 60⟩) (fun _ => True) [1, 2, 5, 6, 7, 8, 9] ?_ ?_
          · cbv
            revert h; refine zlp hJ hZ fun y33 k34 hy35 ho36 h => ?_; cbv
            refine zl hJ hZ eRef14_Step_len hy35 ho36 (fun hJ => by subst hJ; rfl) (l_eRef14_Step_38_4 hZ _) ?_; cbv
            revert h; refine st_not hJ fun b37 _ h => ?_; cbv
            cases b37 with
            | true =>
              replace h := cnd_t h; cbv
              revert h; refine zlp hJ hZ fun y38 k39 hy40 ho41 h => ?_; cbv
              refine zl hJ hZ eRef14_Step_len hy40 ho41 (fun hJ => by subst hJ; rfl) (l_eRef14_Step_1_31 hZ _) ?_; cbv
              obtain ⟨a43, h42, h⟩ := bnd h
              refine call_by hP (s23 hZ h42) hJ rfl rfl ?_; cbv
              exact ⟨⟨_, h⟩, [(0, 0), (1, 1), (8, 2), (16, 3), (2, 4), (3, 5), (4, 6), (5, 7), (6, 8)], 9, [], rfl, trivial⟩
            | false =>
              replace h := cnd_f h; cbv
              exact ⟨⟨_, h⟩, [(0, 0), (1, 1), (8, 2), (16, 3), (2, 4), (3, 5), (4, 6), (5, 7), (6, 8)], 9, [], rfl, trivial⟩
          · rintro ⟨a33, h⟩ -; rw [hj32] at h; try dsimp only at h ⊢
            cbv
            revert h; refine zpr hJ hZ fun y34 k35 hy36 ho37 h => ?_; cbv
            refine zl hJ hZ eZone_len hy36 ho37 (fun hJ => by subst hJ; rfl) (l_eZone_1_3 hZ _) ?_; cbv
            obtain ⟨⟨v39, o40⟩, h38, h⟩ := bnd h; try dsimp only at h
            refine callM_by hP (s24 hZ h38) [(1, 0), (5, 1), (6, 2), (7, 3), (4, 4), (8, 5)] false hJ rfl rfl rfl rfl rfl (.inl rfl) ?_; cbv
            refine ⟨fun _ => by kernel_rfl, ?_⟩; cbv
            revert h; refine zb hJ fun v41 h => ?_; cbv
            cases h; exact ⟨⟨(M14, _), hr12⟩, [(0, 0), (1, 1), (18, 2), (5, 3), (6, 4), (7, 5), (19, 6)], 7, [], rfl, Nat.lt_succ_self _⟩
      | false =>
        replace h := cnd_f h; cbv
        cases h; have h := hq10; obtain rfl := hr12; try dsimp only at h
        exact ⟨⟨_, h⟩, [(1, 0), (2, 1), (3, 2), (4, 3), (5, 4), (6, 5)], 6, [], rfl, trivial⟩
  · rintro ⟨o6, h⟩ -; rw [hj5] at h; try dsimp only at h ⊢
    cbv
    cases h
    exact ⟨_, .refl _, [], _, _, [(0, 0), (1, 1), (2, 2), (3, 3), (4, 4), (5, 5)], _, rfl, rfl, rfl, rfl, rfl, rfl⟩
end Go.AX
