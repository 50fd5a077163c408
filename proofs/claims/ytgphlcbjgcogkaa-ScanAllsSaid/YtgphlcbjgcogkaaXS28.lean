/- What functions of the program compute: each is what its Lean function says. -/
import Derived.Test.YtgphlcbjgcogkaaXS11
import Derived.Test.YtgphlcbjgcogkaaXS24
import Derived.Test.YtgphlcbjgcogkaaXS25
import Derived.Test.YtgphlcbjgcogkaaXS9
namespace Go.AX
open Go.Proofs
set_option linter.unusedVariables false
set_option maxRecDepth 100000
set_option maxHeartbeats 100000000
set_option linter.unusedSimpArgs false
set_option autoImplicit true
set_option relaxedAutoImplicit true
variable {Ze : ZeT} {Zn : ZnT} {Za : ZaT} {Zb : ZbT} {Zm : ZmT}

theorem s15 (hZ : ZS Ze Zn Za Zb Zm)  (h : m_ref14_All x1 x2 x3 o0 = some (z0, z1)) : SpecM Try.prog 15 6 [(0, .box [.d (.int .i64 o0.g.Conv), .d (.int .i64 o0.g.Soft), .d (.int .i64 o0.g.Seq), .d (.int .i64 o0.g.Size), .d (.int .i64 o0.g.Open), .own 1 (Zn _ o0.zones) 2, .map 2, .map 3, .map 4, .own 5 (Zn _ o0.cached) 66, .d (.int .i64 o0.left_), .d (.bool o0.down), .d (.int .i64 o0.illegal)]), (1, .row (Ze _ eZone o0.zones) 2 66), (2, .mp false false (Zm _ _ (eI .i64) eB o0.finished)), (3, .mp true true (Zm _ _ eAt (eA (n := 64) .u8) o0.safe)), (4, .mp true true (Zm _ _ eAt (eA (n := 64) .u8) o0.now)), (5, .row (Ze _ eDev_write o0.cached) 66 88)] [.ptr 0 0, .agg [.d (.int .i64 x1.Conv), .d (.int .i64 x1.Soft), .d (.int .i64 x1.Seq), .d (.int .i64 x1.Size), .d (.int .i64 x1.Open)], .d (.int .i64 x2), .d (.int .i64 x3)] ⟨.own 6 (Zn _ z0) 38, [(0, .box [.d (.int .i64 z1.g.Conv), .d (.int .i64 z1.g.Soft), .d (.int .i64 z1.g.Seq), .d (.int .i64 z1.g.Size), .d (.int .i64 z1.g.Open), .own 1 (Zn _ z1.zones) 2, .map 2, .map 3, .map 4, .own 5 (Zn _ z1.cached) 66, .d (.int .i64 z1.left_), .d (.bool z1.down), .d (.int .i64 z1.illegal)]), (1, .row (Ze _ eZone z1.zones) 2 66), (2, .mp false false (Zm _ _ (eI .i64) eB z1.finished)), (3, .mp true true (Zm _ _ eAt (eA (n := 64) .u8) z1.safe)), (4, .mp true true (Zm _ _ eAt (eA (n := 64) .u8) z1.now)), (5, .row (Ze _ eDev_write z1.cached) 66 88), (6, .row (Ze _ eFound z0) 38 33)], 1, True⟩ := by
  refine specM_b [38, 10, 16, 24, 36, 32] 6 6 Try.func15 rfl rfl rfl rfl rfl rfl fun J P hJ hP => ?_
  dsimp only [m_ref14_All] at h
  cbv
  obtain ⟨z32u8, ez32u8, h⟩ := letv h; have rz32u8 := zrep hJ hZ 32 .u8 ez32u8
  obtain ⟨z64u8, ez64u8, h⟩ := letv h; have rz64u8 := zrep hJ hZ 64 .u8 ez64u8
  obtain ⟨l3, h2, h⟩ := bnd h
  refine callM_by hP (s22 hZ h2) [(0, 0), (1, 1), (2, 2), (3, 3), (4, 4), (5, 5)] false hJ rfl rfl rfl rfl rfl (.inl rfl) ?_; cbv
  obtain ⟨j4, hj5, h⟩ := jn h
  refine JoinP.mk {x : TDev_Device × (List TFound) // j4 x = some (z0, z1)} (fun x => ⟨[(9, .own 6 (Zn _ x.1.2) 38)], [(0, .box [.d (.int .i64 x.1.1.g.Conv), .d (.int .i64 x.1.1.g.Soft), .d (.int .i64 x.1.1.g.Seq), .d (.int .i64 x.1.1.g.Size), .d (.int .i64 x.1.1.g.Open), .own 1 (Zn _ x.1.1.zones) 2, .map 2, .map 3, .map 4, .own 5 (Zn _ x.1.1.cached) 66, .d (.int .i64 x.1.1.left_), .d (.bool x.1.1.down), .d (.int .i64 x.1.1.illegal)]), (1, .row (Ze _ eZone x.1.1.zones) 2 66), (2, .mp false false (Zm _ _ (eI .i64) eB x.1.1.finished)), (3, .mp true true (Zm _ _ eAt (eA (n := 64) .u8) x.1.1.safe)), (4, .mp true true (Zm _ _ eAt (eA (n := 64) .u8) x.1.1.now)), (5, .row (Ze _ eDev_write x.1.1.cached) 66 88), (6, .row (Ze _ eFound x.1.2) 38 33)], 7, 106⟩) (fun _ => True) [9] ?_ ?_
  · cbv
    obtain ⟨p7, q6, hp8, hf9, hq10⟩ := bnd_loop h; clear h
    refine LoopB.mk {x : Nat × Int × TDev_Device × (List TFound) // loopN p7 x.1 x.2 = some q6} (fun x => ⟨[(0, .ptr 0 0), (2, .d (.int .i64 x2)), (3, .d (.int .i64 x3)), (5, .ptr 6 0), (9, .own 8 (Zn _ x.1.2.2.2) 38), (10, .own 7 (Zn _ l3) 2), (11, .d (.int .i64 x.1.2.1))], [(0, .box [.d (.int .i64 x.1.2.2.1.g.Conv), .d (.int .i64 x.1.2.2.1.g.Soft), .d (.int .i64 x.1.2.2.1.g.Seq), .d (.int .i64 x.1.2.2.1.g.Size), .d (.int .i64 x.1.2.2.1.g.Open), .own 1 (Zn _ x.1.2.2.1.zones) 2, .map 2, .map 3, .map 4, .own 5 (Zn _ x.1.2.2.1.cached) 66, .d (.int .i64 x.1.2.2.1.left_), .d (.bool x.1.2.2.1.down), .d (.int .i64 x.1.2.2.1.illegal)]), (1, .row (Ze _ eZone x.1.2.2.1.zones) 2 66), (2, .mp false false (Zm _ _ (eI .i64) eB x.1.2.2.1.finished)), (3, .mp true true (Zm _ _ eAt (eA (n := 64) .u8) x.1.2.2.1.safe)), (4, .mp true true (Zm _ _ eAt (eA (n := 64) .u8) x.1.2.2.1.now)), (5, .row (Ze _ eDev_write x.1.2.2.1.cached) 66 88), (6, .box [.d (.int .i64 x1.Conv), .d (.int .i64 x1.Soft), .d (.int .i64 x1.Seq), .d (.int .i64 x1.Size), .d (.int .i64 x1.Open)]), (7, .row (Ze _ eZone l3) 2 66), (8, .row (Ze _ eFound x.1.2.2.2) 38 33)], 9, 106⟩) (fun x => x.1.1) [0, 2, 3, 5, 9, 10, 11] 8 ⟨(FUEL, _), hf9⟩ ⟨[(0, 0), (1, 1), (2, 2), (3, 3), (4, 4), (5, 5), (6, 6), (11, 7)], [.slot 9 8 38 33], ?_⟩ ?_
    · simp only [hZ.e0, hZ.n0]; rfl
    · rintro ⟨⟨N13, ⟨v16, o17, l18⟩⟩, hr12⟩; obtain ⟨M14, o11, eN15, h, hr12⟩ := loopN_step hr12; subst eN15; rw [hp8] at h; try dsimp only at h ⊢
      cbv
      revert h; refine zln hJ hZ fun v19 h => ?_; cbv
      revert h; refine zc hJ fun b20 h => ?_; cbv
      cases b20 with
      | true =>
        replace h := cnd_t h; cbv
        obtain ⟨j21, hj22, h⟩ := jn h
        refine JoinP.mk {x : TDev_Device × (List TFound) // j21 x = some o11} (fun x => ⟨[(0, .ptr 0 0), (2, .d (.int .i64 x2)), (3, .d (.int .i64 x3)), (5, .ptr 6 0), (9, .own 7 (Zn _ x.1.2) 38), (10, .own 8 (Zn _ l3) 2), (11, .d (.int .i64 v16))], [(0, .box [.d (.int .i64 x.1.1.g.Conv), .d (.int .i64 x.1.1.g.Soft), .d (.int .i64 x.1.1.g.Seq), .d (.int .i64 x.1.1.g.Size), .d (.int .i64 x.1.1.g.Open), .own 1 (Zn _ x.1.1.zones) 2, .map 2, .map 3, .map 4, .own 5 (Zn _ x.1.1.cached) 66, .d (.int .i64 x.1.1.left_), .d (.bool x.1.1.down), .d (.int .i64 x.1.1.illegal)]), (1, .row (Ze _ eZone x.1.1.zones) 2 66), (2, .mp false false (Zm _ _ (eI .i64) eB x.1.1.finished)), (3, .mp true true (Zm _ _ eAt (eA (n := 64) .u8) x.1.1.safe)), (4, .mp true true (Zm _ _ eAt (eA (n := 64) .u8) x.1.1.now)), (5, .row (Ze _ eDev_write x.1.1.cached) 66 88), (6, .box [.d (.int .i64 x1.Conv), .d (.int .i64 x1.Soft), .d (.int .i64 x1.Seq), .d (.int .i64 x1.Size), .d (.int .i64 x1.Open)]), (7, .row (Ze _ eFound x.1.2) 38 33), (8, .row (Ze _ eZone l3) 2 66)], 9, 106⟩) (fun _ => True) [0, 2, 3, 5, 9, 10, 11] ?_ ?_
        · cbv
          obtain ⟨p24, q23, hp25, hf26, hq27⟩ := bnd_loop h; clear h
          refine LoopB.mk {x : Nat × Int × TDev_Device × (List TFound) // loopN p24 x.1 x.2 = some q23} (fun x => ⟨[(0, .ptr 0 0), (2, .d (.int .i64 x2)), (3, .d (.int .i64 x3)), (5, .ptr 6 0), (9, .own 7 (Zn _ x.1.2.2.2) 38), (10, .own 8 (Zn _ l3) 2), (11, .d (.int .i64 v16)), (12, .d (.int .i64 x.1.2.1))], [(0, .box [.d (.int .i64 x.1.2.2.1.g.Conv), .d (.int .i64 x.1.2.2.1.g.Soft), .d (.int .i64 x.1.2.2.1.g.Seq), .d (.int .i64 x.1.2.2.1.g.Size), .d (.int .i64 x.1.2.2.1.g.Open), .own 1 (Zn _ x.1.2.2.1.zones) 2, .map 2, .map 3, .map 4, .own 5 (Zn _ x.1.2.2.1.cached) 66, .d (.int .i64 x.1.2.2.1.left_), .d (.bool x.1.2.2.1.down), .d (.int .i64 x.1.2.2.1.illegal)]), (1, .row (Ze _ eZone x.1.2.2.1.zones) 2 66), (2, .mp false false (Zm _ _ (eI .i64) eB x.1.2.2.1.finished)), (3, .mp true true (Zm _ _ eAt (eA (n := 64) .u8) x.1.2.2.1.safe)), (4, .mp true true (Zm _ _ eAt (eA (n := 64) .u8) x.1.2.2.1.now)), (5, .row (Ze _ eDev_write x.1.2.2.1.cached) 66 88), (6, .box [.d (.int .i64 x1.Conv), .d (.int .i64 x1.Soft), .d (.int .i64 x1.Seq), .d (.int .i64 x1.Size), .d (.int .i64 x1.Open)]), (7, .row (Ze _ eFound x.1.2.2.2) 38 33), (8, .row (Ze _ eZone l3) 2 66)], 9, 106⟩) (fun x => x.1.1) [0, 2, 3, 5, 9, 10, 11, 12] 9 ⟨(FUEL, _), hf26⟩ ⟨[(0, 0), (1, 1), (2, 2), (3, 3), (4, 4), (5, 5), (6, 6), (8, 7), (7, 8)], [], ?_⟩ ?_
          · rfl
          · rintro ⟨⟨N30, ⟨v33, o34, l35⟩⟩, hr29⟩; obtain ⟨M31, o28, eN32, h, hr29⟩ := loopN_step hr29; subst eN32; rw [hp25] at h; try dsimp only at h ⊢
            cbv
            revert h; refine zpr hJ hZ fun y36 k37 hy38 ho39 h => ?_; cbv
            refine zl hJ hZ eZone_len hy38 ho39 (fun hJ => by subst hJ; rfl) (l_eZone_1_3 hZ _) ?_; cbv
            revert h; refine zc hJ fun b40 h => ?_; cbv
            cases b40 with
            | true =>
              replace h := cnd_t h; cbv
              obtain ⟨j41, hj42, h⟩ := jn h
              refine JoinP.mk {x : TDev_Device × (List TFound) // j41 x = some o28} (fun x => ⟨[(0, .ptr 0 0), (2, .d (.int .i64 x2)), (3, .d (.int .i64 x3)), (5, .ptr 6 0), (9, .own 7 (Zn _ x.1.2) 38), (10, .own 8 (Zn _ l3) 2), (11, .d (.int .i64 v16)), (12, .d (.int .i64 v33))], [(0, .box [.d (.int .i64 x.1.1.g.Conv), .d (.int .i64 x.1.1.g.Soft), .d (.int .i64 x.1.1.g.Seq), .d (.int .i64 x.1.1.g.Size), .d (.int .i64 x.1.1.g.Open), .own 1 (Zn _ x.1.1.zones) 2, .map 2, .map 3, .map 4, .own 5 (Zn _ x.1.1.cached) 66, .d (.int .i64 x.1.1.left_), .d (.bool x.1.1.down), .d (.int .i64 x.1.1.illegal)]), (1, .row (Ze _ eZone x.1.1.zones) 2 66), (2, .mp false false (Zm _ _ (eI .i64) eB x.1.1.finished)), (3, .mp true true (Zm _ _ eAt (eA (n := 64) .u8) x.1.1.safe)), (4, .mp true true (Zm _ _ eAt (eA (n := 64) .u8) x.1.1.now)), (5, .row (Ze _ eDev_write x.1.1.cached) 66 88), (6, .box [.d (.int .i64 x1.Conv), .d (.int .i64 x1.Soft), .d (.int .i64 x1.Seq), .d (.int .i64 x1.Size), .d (.int .i64 x1.Open)]), (7, .row (Ze _ eFound x.1.2) 38 33), (8, .row (Ze _ eZone l3) 2 66)], 9, 106⟩) (fun _ => True) [0, 2, 3, 5, 9, 10, 11, 12] ?_ ?_
              · cbv
                obtain ⟨⟨a44, v45, o46⟩, h43, h⟩ := bnd h; try dsimp only at h
                refine callM_by hP (s25 hZ h43) [(0, 0), (1, 1), (2, 2), (3, 3), (4, 4), (5, 5)] false hJ rfl rfl rfl rfl rfl (.inl rfl) ?_; cbv
                try rw [rz64u8]
                obtain ⟨⟨o48, v49⟩, h47, h⟩ := bnd h; try dsimp only at h
                refine call_by hP (s33 hZ h47) hJ rfl rfl ?_; cbv
                try rw [rz32u8]
                obtain ⟨j50, hj51, h⟩ := jn h
                refine JoinP.mk {x : Unit // j50 x = some o28} (fun x => ⟨[(0, .ptr 0 0), (2, .d (.int .i64 x2)), (3, .d (.int .i64 x3)), (5, .ptr 6 0), (9, .own 7 (Zn _ l35) 38), (10, .own 8 (Zn _ l3) 2), (11, .d (.int .i64 v16)), (12, .d (.int .i64 v33)), (15, .ptr 9 0)], [(0, .box [.d (.int .i64 o46.g.Conv), .d (.int .i64 o46.g.Soft), .d (.int .i64 o46.g.Seq), .d (.int .i64 o46.g.Size), .d (.int .i64 o46.g.Open), .own 1 (Zn _ o46.zones) 2, .map 2, .map 3, .map 4, .own 5 (Zn _ o46.cached) 66, .d (.int .i64 o46.left_), .d (.bool o46.down), .d (.int .i64 o46.illegal)]), (1, .row (Ze _ eZone o46.zones) 2 66), (2, .mp false false (Zm _ _ (eI .i64) eB o46.finished)), (3, .mp true true (Zm _ _ eAt (eA (n := 64) .u8) o46.safe)), (4, .mp true true (Zm _ _ eAt (eA (n := 64) .u8) o46.now)), (5, .row (Ze _ eDev_write o46.cached) 66 88), (6, .box [.d (.int .i64 x1.Conv), .d (.int .i64 x1.Soft), .d (.int .i64 x1.Seq), .d (.int .i64 x1.Size), .d (.int .i64 x1.Open)]), (7, .row (Ze _ eFound l35) 38 33), (8, .row (Ze _ eZone l3) 2 66), (9, .box [.d (.int .i64 o48.Kind), .d (.int .i64 o48.Epoch), .d (.int .i64 o48.Seq), .d (.int .i64 o48.Block), .d (.int .i64 o48.Count), .big 32 (Za .u8 _ o48.Data)])], 10, 106⟩) (fun _ => True) [0, 2, 3, 5, 9, 10, 11, 12, 15] ?_ ?_
                · cbv
                  revert h; refine zc hJ fun b52 h => ?_; cbv
                  cases b52 with
                  | true =>
                    replace h := cnd_t h; cbv
                    exact ⟨⟨_, h⟩, [(0, 0), (1, 1), (2, 2), (3, 3), (4, 4), (5, 5), (6, 6), (7, 7), (8, 8)], 9, [], rfl, trivial⟩
                  | false =>
                    replace h := cnd_f h; cbv
                    revert h; refine zc hJ fun b53 h => ?_; cbv
                    cases b53 with
                    | true =>
                      replace h := cnd_t h; cbv
                      exact ⟨⟨_, h⟩, [(0, 0), (1, 1), (2, 2), (3, 3), (4, 4), (5, 5), (6, 6), (7, 7), (8, 8)], 9, [], rfl, trivial⟩
                    | false =>
                      replace h := cnd_f h; cbv
                      revert h; refine zc hJ fun b54 h => ?_; cbv
                      cases b54 with
                      | true =>
                        replace h := cnd_t h; cbv
                        exact ⟨⟨_, h⟩, [(0, 0), (1, 1), (2, 2), (3, 3), (4, 4), (5, 5), (6, 6), (7, 7), (8, 8)], 9, [], rfl, trivial⟩
                      | false =>
                        replace h := cnd_f h; cbv
                        exact ⟨⟨_, h⟩, [(0, 0), (1, 1), (2, 2), (3, 3), (4, 4), (5, 5), (6, 6), (7, 7), (8, 8), (33, 9)], 10, [], rfl, trivial⟩
                · rintro ⟨_, h⟩ -; rw [hj51] at h; try dsimp only at h ⊢
                  cbv
                  obtain ⟨v53, h52, h⟩ := bnd h
                  refine call_by hP (s34 hZ h52) hJ rfl rfl ?_; cbv
                  try rw [rz32u8]
                  try rw [rz32u8]
                  refine ⟨fun _ => by kernel_rfl, ?_⟩; cbv
                  revert h; refine zln hJ hZ fun v54 h => ?_; cbv
                  refine zbs hJ hZ (show IsL eFound _ _ [(TFound.mk v53 o48)] from ⟨by obtain ⟨rfl, rfl, rfl, rfl, rfl⟩ := hZ; subst hJ; simp [stdJ, std, encL, eFound, eI], rfl⟩) (by subst hJ; exact (by decide : 38 ≤ 16777216)) ?_; cbv
                  revert h; refine zap hJ hZ eFound_len fun l55 h => ?_; cbv
                  obtain ⟨j56, hj57, h⟩ := jn h
                  refine JoinP.mk {x : Int × (List TFound) // j56 x = some o28} (fun x => ⟨[(0, .ptr 0 0), (2, .d (.int .i64 x2)), (3, .d (.int .i64 x3)), (5, .ptr 6 0), (9, .own 7 (Zn _ x.1.2) 38), (10, .own 8 (Zn _ l3) 2), (11, .d (.int .i64 v16)), (12, .d (.int .i64 v33)), (17, .ptr 9 0), (18, .d (.int .i64 x.1.1))], [(0, .box [.d (.int .i64 o46.g.Conv), .d (.int .i64 o46.g.Soft), .d (.int .i64 o46.g.Seq), .d (.int .i64 o46.g.Size), .d (.int .i64 o46.g.Open), .own 1 (Zn _ o46.zones) 2, .map 2, .map 3, .map 4, .own 5 (Zn _ o46.cached) 66, .d (.int .i64 o46.left_), .d (.bool o46.down), .d (.int .i64 o46.illegal)]), (1, .row (Ze _ eZone o46.zones) 2 66), (2, .mp false false (Zm _ _ (eI .i64) eB o46.finished)), (3, .mp true true (Zm _ _ eAt (eA (n := 64) .u8) o46.safe)), (4, .mp true true (Zm _ _ eAt (eA (n := 64) .u8) o46.now)), (5, .row (Ze _ eDev_write o46.cached) 66 88), (6, .box [.d (.int .i64 x1.Conv), .d (.int .i64 x1.Soft), .d (.int .i64 x1.Seq), .d (.int .i64 x1.Size), .d (.int .i64 x1.Open)]), (7, .row (Ze _ eFound x.1.2) 38 33), (8, .row (Ze _ eZone l3) 2 66), (9, .box [.d (.int .i64 v53), .d (.int .i64 o48.Kind), .d (.int .i64 o48.Epoch), .d (.int .i64 o48.Seq), .d (.int .i64 o48.Block), .d (.int .i64 o48.Count), .big 32 (Za .u8 _ o48.Data)])], 10, 106⟩) (fun _ => True) [0, 2, 3, 5, 9, 10, 11, 12, 17, 18] ?_ ?_
                  · cbv
                    obtain ⟨p59, q58, hp60, hf61, hq62⟩ := bnd_loop h; clear h
                    refine LoopB.mk {x : Nat × Int × (List TFound) // loopN p59 x.1 x.2 = some q58} (fun x => ⟨[(0, .ptr 0 0), (2, .d (.int .i64 x2)), (3, .d (.int .i64 x3)), (5, .ptr 6 0), (9, .own 7 (Zn _ x.1.2.2) 38), (10, .own 8 (Zn _ l3) 2), (11, .d (.int .i64 v16)), (12, .d (.int .i64 v33)), (17, .ptr 9 0), (18, .d (.int .i64 x.1.2.1))], [(0, .box [.d (.int .i64 o46.g.Conv), .d (.int .i64 o46.g.Soft), .d (.int .i64 o46.g.Seq), .d (.int .i64 o46.g.Size), .d (.int .i64 o46.g.Open), .own 1 (Zn _ o46.zones) 2, .map 2, .map 3, .map 4, .own 5 (Zn _ o46.cached) 66, .d (.int .i64 o46.left_), .d (.bool o46.down), .d (.int .i64 o46.illegal)]), (1, .row (Ze _ eZone o46.zones) 2 66), (2, .mp false false (Zm _ _ (eI .i64) eB o46.finished)), (3, .mp true true (Zm _ _ eAt (eA (n := 64) .u8) o46.safe)), (4, .mp true true (Zm _ _ eAt (eA (n := 64) .u8) o46.now)), (5, .row (Ze _ eDev_write o46.cached) 66 88), (6, .box [.d (.int .i64 x1.Conv), .d (.int .i64 x1.Soft), .d (.int .i64 x1.Seq), .d (.int .i64 x1.Size), .d (.int .i64 x1.Open)]), (7, .row (Ze _ eFound x.1.2.2) 38 33), (8, .row (Ze _ eZone l3) 2 66), (9, .box [.d (.int .i64 v53), .d (.int .i64 o48.Kind), .d (.int .i64 o48.Epoch), .d (.int .i64 o48.Seq), .d (.int .i64 o48.Block), .d (.int .i64 o48.Count), .big 32 (Za .u8 _ o48.Data)])], 10, 106⟩) (fun x => x.1.1) [0, 2, 3, 5, 9, 10, 11, 12, 17, 18] 10 ⟨(FUEL, _), hf61⟩ ⟨[(0, 0), (1, 1), (2, 2), (3, 3), (4, 4), (5, 5), (6, 6), (27, 7), (8, 8), (17, 9)], [], ?_⟩ ?_
                    · rfl
                    · rintro ⟨⟨N65, ⟨v68, l69⟩⟩, hr64⟩; obtain ⟨M66, o63, eN67, h, hr64⟩ := loopN_step hr64; subst eN67; rw [hp60] at h; try dsimp only at h ⊢
                      cbv
                      obtain ⟨j70, hj71, h⟩ := jn h
                      refine JoinP.mk {x : Unit // j70 x = some o63} (fun x => ⟨[(0, .ptr 0 0), (2, .d (.int .i64 x2)), (3, .d (.int .i64 x3)), (5, .ptr 6 0), (9, .own 7 (Zn _ l69) 38), (10, .own 8 (Zn _ l3) 2), (11, .d (.int .i64 v16)), (12, .d (.int .i64 v33)), (17, .ptr 9 0), (18, .d (.int .i64 v68))], [(0, .box [.d (.int .i64 o46.g.Conv), .d (.int .i64 o46.g.Soft), .d (.int .i64 o46.g.Seq), .d (.int .i64 o46.g.Size), .d (.int .i64 o46.g.Open), .own 1 (Zn _ o46.zones) 2, .map 2, .map 3, .map 4, .own 5 (Zn _ o46.cached) 66, .d (.int .i64 o46.left_), .d (.bool o46.down), .d (.int .i64 o46.illegal)]), (1, .row (Ze _ eZone o46.zones) 2 66), (2, .mp false false (Zm _ _ (eI .i64) eB o46.finished)), (3, .mp true true (Zm _ _ eAt (eA (n := 64) .u8) o46.safe)), (4, .mp true true (Zm _ _ eAt (eA (n := 64) .u8) o46.now)), (5, .row (Ze _ eDev_write o46.cached) 66 88), (6, .box [.d (.int .i64 x1.Conv), .d (.int .i64 x1.Soft), .d (.int .i64 x1.Seq), .d (.int .i64 x1.Size), .d (.int .i64 x1.Open)]), (7, .row (Ze _ eFound l69) 38 33), (8, .row (Ze _ eZone l3) 2 66), (9, .box [.d (.int .i64 v53), .d (.int .i64 o48.Kind), .d (.int .i64 o48.Epoch), .d (.int .i64 o48.Seq), .d (.int .i64 o48.Block), .d (.int .i64 o48.Count), .big 32 (Za .u8 _ o48.Data)])], 10, 106⟩) (fun _ => True) [0, 2, 3, 5, 9, 10, 11, 12, 17, 18] ?_ ?_
                      · cbv
                        revert h; refine zc hJ fun b72 h => ?_; cbv
                        cases b72 with
                        | true =>
                          replace h := cnd_t h; cbv
                          revert h; refine zb hJ fun v73 h => ?_; cbv
                          revert h; refine zpr hJ hZ fun y74 k75 hy76 ho77 h => ?_; cbv
                          refine zl hJ hZ eFound_len hy76 ho77 (fun hJ => by subst hJ; rfl) (l_eFound_3_3 hZ _) ?_; cbv
                          revert h; refine zc hJ fun b78 h => ?_; cbv
                          refine ⟨fun _ => by kernel_rfl, ?_⟩; cbv
                          cases b78 with
                          | true =>
                            replace h := cnd_t h; cbv
                            exact ⟨⟨_, h⟩, [(0, 0), (1, 1), (2, 2), (3, 3), (4, 4), (5, 5), (6, 6), (7, 7), (8, 8), (9, 9)], 10, [], rfl, trivial⟩
                          | false =>
                            replace h := cnd_f h; cbv
                            cases h; have h := hq62; obtain rfl := hr64; try dsimp only at h
                            exact ⟨⟨_, h⟩, [(0, 0), (1, 1), (2, 2), (3, 3), (4, 4), (5, 5), (6, 6), (7, 7), (8, 8), (9, 9)], 10, [], rfl, trivial⟩
                        | false =>
                          replace h := cnd_f h; cbv
                          refine ⟨fun _ => by kernel_rfl, ?_⟩; cbv
                          cases h; have h := hq62; obtain rfl := hr64; try dsimp only at h
                          exact ⟨⟨_, h⟩, [(0, 0), (1, 1), (2, 2), (3, 3), (4, 4), (5, 5), (6, 6), (7, 7), (8, 8), (9, 9)], 10, [], rfl, trivial⟩
                      · rintro ⟨_, h⟩ -; rw [hj71] at h; try dsimp only at h ⊢
                        cbv
                        revert h; refine zb hJ fun v72 h => ?_; cbv
                        revert h; refine zpr hJ hZ fun y73 k74 hy75 ho76 h => ?_; cbv
                        refine zl hJ hZ eFound_len hy75 ho76 (fun hJ => by subst hJ; rfl) (LdW.lds eFound_len (w_eFound hZ _)) ?_; cbv
                        revert h; refine zpr hJ hZ fun y77 k78 hy79 ho80 h => ?_; cbv
                        revert h; refine zs hJ hZ eFound_len hy79 ho80 0 (fun hJ => by subst hJ; rfl) (by obtain ⟨rfl, rfl, rfl, rfl, rfl⟩ := hZ; subst hJ; simp [stdJ, std, encL_len (k := 1) (eI_len _), Ar.h]) (Nat.le_of_ble_eq_true rfl) y73 (setAll_full (by obtain ⟨rfl, rfl, rfl, rfl, rfl⟩ := hZ; subst hJ; simp [stdJ, std, eFound, encL_len (k := 1) (eI_len _), Ar.h]) (by obtain ⟨rfl, rfl, rfl, rfl, rfl⟩ := hZ; subst hJ; simp [stdJ, std, eFound])) fun l81 hn82 h => ?_; try rw [hn82]
                        clear hn82; cbv
                        revert h; refine zb hJ fun v83 h => ?_; cbv
                        cases h; exact ⟨⟨(M66, _), hr64⟩, [(0, 0), (1, 1), (2, 2), (3, 3), (4, 4), (5, 5), (6, 6), (7, 7), (8, 8), (9, 9)], 10, [], rfl, Nat.lt_succ_self _⟩
                  · rintro ⟨⟨v58, l59⟩, h⟩ -; rw [hj57] at h; try dsimp only at h ⊢
                    cbv
                    revert h; refine zpr hJ hZ fun y60 k61 hy62 ho63 h => ?_; cbv
                    revert h; refine zs hJ hZ eFound_len hy62 ho63 0 (fun hJ => by subst hJ; rfl) (by obtain ⟨rfl, rfl, rfl, rfl, rfl⟩ := hZ; subst hJ; simp [stdJ, std, encL_len (k := 1) (eI_len _), Ar.h]) (Nat.le_of_ble_eq_true rfl) (TFound.mk v53 o48) (setAll_full (by obtain ⟨rfl, rfl, rfl, rfl, rfl⟩ := hZ; subst hJ; simp [stdJ, std, eFound, encL_len (k := 1) (eI_len _), Ar.h]) (by obtain ⟨rfl, rfl, rfl, rfl, rfl⟩ := hZ; subst hJ; simp [stdJ, std, eFound])) fun l64 hn65 h => ?_; try rw [hn65]
                    clear hn65; cbv
                    exact ⟨⟨_, h⟩, [(0, 0), (1, 1), (2, 2), (3, 3), (4, 4), (5, 5), (6, 6), (7, 7), (8, 8)], 9, [], rfl, trivial⟩
              · rintro ⟨⟨o43, l44⟩, h⟩ -; rw [hj42] at h; try dsimp only at h ⊢
                cbv
                revert h; refine zb hJ fun v45 h => ?_; cbv
                cases h; exact ⟨⟨(M31, _), hr29⟩, [(0, 0), (1, 1), (2, 2), (3, 3), (4, 4), (5, 5), (6, 6), (7, 7), (8, 8)], 9, [], rfl, Nat.lt_succ_self _⟩
            | false =>
              replace h := cnd_f h; cbv
              cases h; have h := hq27; obtain rfl := hr29; try dsimp only at h
              exact ⟨⟨_, h⟩, [(0, 0), (1, 1), (2, 2), (3, 3), (4, 4), (5, 5), (6, 6), (7, 7), (8, 8)], 9, [], rfl, trivial⟩
        · rintro ⟨⟨o23, l24⟩, h⟩ -; rw [hj22] at h; try dsimp only at h ⊢
          cbv
          revert h; refine zb hJ fun v25 h => ?_; cbv
          cases h; exact ⟨⟨(M14, _), hr12⟩, [(0, 0), (1, 1), (2, 2), (3, 3), (4, 4), (5, 5), (6, 6), (8, 7), (7, 8)], 9, [], rfl, Nat.lt_succ_self _⟩
      | false =>
        replace h := cnd_f h; cbv
        cases h; have h := hq10; obtain rfl := hr12; try dsimp only at h
        exact ⟨⟨_, h⟩, [(0, 0), (1, 1), (2, 2), (3, 3), (4, 4), (5, 5), (8, 6)], 7, [], rfl, trivial⟩
  · rintro ⟨⟨o6, l7⟩, h⟩ -; rw [hj5] at h; try dsimp only at h ⊢
    cbv
    cases h
    exact ⟨_, .refl _, [], _, _, [(0, 0), (1, 1), (2, 2), (3, 3), (4, 4), (5, 5), (6, 6)], _, rfl, rfl, rfl, rfl, rfl, rfl⟩
end Go.AX
