/- What functions of the program compute: each is what its Lean function says. -/
import Derived.Test.YtgphlcbjgcogkaaXS11
import Derived.Test.YtgphlcbjgcogkaaXS14
import Derived.Test.YtgphlcbjgcogkaaXS21
import Derived.Test.YtgphlcbjgcogkaaXS24
namespace Go.AX
open Go.Proofs
set_option linter.unusedVariables false
set_option maxRecDepth 100000
set_option maxHeartbeats 100000000
set_option linter.unusedSimpArgs false
set_option autoImplicit true
set_option relaxedAutoImplicit true
variable {Ze : ZeT} {Zn : ZnT} {Za : ZaT} {Zb : ZbT} {Zm : ZmT}

theorem s14 (hZ : ZS Ze Zn Za Zb Zm)  (h : m_scan_All x1 x2 x3 o0 = some (z0, z1, z2)) : SpecM Try.prog 14 6 [(0, .box [.d (.int .i64 o0.g.Conv), .d (.int .i64 o0.g.Soft), .d (.int .i64 o0.g.Seq), .d (.int .i64 o0.g.Size), .d (.int .i64 o0.g.Open), .own 1 (Zn _ o0.zones) 2, .map 2, .map 3, .map 4, .own 5 (Zn _ o0.cached) 66, .d (.int .i64 o0.left_), .d (.bool o0.down), .d (.int .i64 o0.illegal)]), (1, .row (Ze _ eZone o0.zones) 2 66), (2, .mp false false (Zm _ _ (eI .i64) eB o0.finished)), (3, .mp true true (Zm _ _ eAt (eA (n := 64) .u8) o0.safe)), (4, .mp true true (Zm _ _ eAt (eA (n := 64) .u8) o0.now)), (5, .row (Ze _ eDev_write o0.cached) 66 88)] [.ptr 0 0, .agg [.d (.int .i64 x1.Conv), .d (.int .i64 x1.Soft), .d (.int .i64 x1.Seq), .d (.int .i64 x1.Size), .d (.int .i64 x1.Open)], .d (.int .i64 x2), .d (.int .i64 x3)] ⟨.tup [.own 6 (Zn _ z0) 38, .d (.int .i64 z1)], [(0, .box [.d (.int .i64 z2.g.Conv), .d (.int .i64 z2.g.Soft), .d (.int .i64 z2.g.Seq), .d (.int .i64 z2.g.Size), .d (.int .i64 z2.g.Open), .own 1 (Zn _ z2.zones) 2, .map 2, .map 3, .map 4, .own 5 (Zn _ z2.cached) 66, .d (.int .i64 z2.left_), .d (.bool z2.down), .d (.int .i64 z2.illegal)]), (1, .row (Ze _ eZone z2.zones) 2 66), (2, .mp false false (Zm _ _ (eI .i64) eB z2.finished)), (3, .mp true true (Zm _ _ eAt (eA (n := 64) .u8) z2.safe)), (4, .mp true true (Zm _ _ eAt (eA (n := 64) .u8) z2.now)), (5, .row (Ze _ eDev_write z2.cached) 66 88), (6, .row (Ze _ eFound z0) 38 33)], 1, True⟩ := by
  refine specM_b [34, 32, 28] 6 6 Try.func14 rfl rfl rfl rfl rfl rfl fun J P hJ hP => ?_
  dsimp only [m_scan_All] at h
  cbv
  obtain ⟨z32u8, ez32u8, h⟩ := letv h; have rz32u8 := zrep hJ hZ 32 .u8 ez32u8
  obtain ⟨z64u8, ez64u8, h⟩ := letv h; have rz64u8 := zrep hJ hZ 64 .u8 ez64u8
  obtain ⟨j2, hj3, h⟩ := jn h
  refine JoinP.mk {x : TDev_Device × (List TFound) // j2 x = some (z0, z1, z2)} (fun x => ⟨[(0, .ptr 0 0), (10, .own 6 (Zn _ x.1.2) 38)], [(0, .box [.d (.int .i64 x.1.1.g.Conv), .d (.int .i64 x.1.1.g.Soft), .d (.int .i64 x.1.1.g.Seq), .d (.int .i64 x.1.1.g.Size), .d (.int .i64 x.1.1.g.Open), .own 1 (Zn _ x.1.1.zones) 2, .map 2, .map 3, .map 4, .own 5 (Zn _ x.1.1.cached) 66, .d (.int .i64 x.1.1.left_), .d (.bool x.1.1.down), .d (.int .i64 x.1.1.illegal)]), (1, .row (Ze _ eZone x.1.1.zones) 2 66), (2, .mp false false (Zm _ _ (eI .i64) eB x.1.1.finished)), (3, .mp true true (Zm _ _ eAt (eA (n := 64) .u8) x.1.1.safe)), (4, .mp true true (Zm _ _ eAt (eA (n := 64) .u8) x.1.1.now)), (5, .row (Ze _ eDev_write x.1.1.cached) 66 88), (6, .row (Ze _ eFound x.1.2) 38 33)], 7, 78⟩) (fun _ => True) [0, 10] ?_ ?_
  · cbv
    obtain ⟨l5, h4, h⟩ := bnd h
    refine callM_by hP (s22 hZ h4) [(0, 0), (1, 1), (2, 2), (3, 3), (4, 4), (5, 5)] false hJ rfl rfl rfl rfl rfl (.inl rfl) ?_; cbv
    revert h; refine zln hJ hZ fun v6 h => ?_; cbv
    obtain ⟨p8, q7, hp9, hf10, hq11⟩ := bnd_loop h; clear h
    refine LoopB.mk {x : Nat × Int × TDev_Device × (List TFound) // loopN p8 x.1 x.2 = some q7} (fun x => ⟨[(0, .ptr 0 0), (2, .d (.int .i64 x2)), (3, .d (.int .i64 x3)), (5, .ptr 6 0), (10, .own 8 (Zn _ x.1.2.2.2) 38), (20, .own 7 (Zn _ l5) 2), (21, .d (.int .i64 v6)), (22, .d (.int .i64 x.1.2.1))], [(0, .box [.d (.int .i64 x.1.2.2.1.g.Conv), .d (.int .i64 x.1.2.2.1.g.Soft), .d (.int .i64 x.1.2.2.1.g.Seq), .d (.int .i64 x.1.2.2.1.g.Size), .d (.int .i64 x.1.2.2.1.g.Open), .own 1 (Zn _ x.1.2.2.1.zones) 2, .map 2, .map 3, .map 4, .own 5 (Zn _ x.1.2.2.1.cached) 66, .d (.int .i64 x.1.2.2.1.left_), .d (.bool x.1.2.2.1.down), .d (.int .i64 x.1.2.2.1.illegal)]), (1, .row (Ze _ eZone x.1.2.2.1.zones) 2 66), (2, .mp false false (Zm _ _ (eI .i64) eB x.1.2.2.1.finished)), (3, .mp true true (Zm _ _ eAt (eA (n := 64) .u8) x.1.2.2.1.safe)), (4, .mp true true (Zm _ _ eAt (eA (n := 64) .u8) x.1.2.2.1.now)), (5, .row (Ze _ eDev_write x.1.2.2.1.cached) 66 88), (6, .box [.d (.int .i64 x1.Conv), .d (.int .i64 x1.Soft), .d (.int .i64 x1.Seq), .d (.int .i64 x1.Size), .d (.int .i64 x1.Open)]), (7, .row (Ze _ eZone l5) 2 66), (8, .row (Ze _ eFound x.1.2.2.2) 38 33)], 9, 78⟩) (fun x => x.1.1) [0, 2, 3, 5, 10, 20, 21, 22] 8 ⟨(FUEL, _), hf10⟩ ⟨[(0, 0), (1, 1), (2, 2), (3, 3), (4, 4), (5, 5), (6, 6), (12, 7)], [.slot 10 8 38 33], ?_⟩ ?_
    · simp only [hZ.e0, hZ.n0]; rfl
    · rintro ⟨⟨N14, ⟨v17, o18, l19⟩⟩, hr13⟩; obtain ⟨M15, o12, eN16, h, hr13⟩ := loopN_step hr13; subst eN16; rw [hp9] at h; try dsimp only at h ⊢
      cbv
      revert h; refine zc hJ fun b20 h => ?_; cbv
      cases b20 with
      | true =>
        replace h := cnd_t h; cbv
        obtain ⟨j21, hj22, h⟩ := jn h
        refine JoinP.mk {x : TDev_Device × (List TFound) // j21 x = some o12} (fun x => ⟨[(0, .ptr 0 0), (2, .d (.int .i64 x2)), (3, .d (.int .i64 x3)), (5, .ptr 6 0), (10, .own 7 (Zn _ x.1.2) 38), (20, .own 8 (Zn _ l5) 2), (21, .d (.int .i64 v6)), (22, .d (.int .i64 v17))], [(0, .box [.d (.int .i64 x.1.1.g.Conv), .d (.int .i64 x.1.1.g.Soft), .d (.int .i64 x.1.1.g.Seq), .d (.int .i64 x.1.1.g.Size), .d (.int .i64 x.1.1.g.Open), .own 1 (Zn _ x.1.1.zones) 2, .map 2, .map 3, .map 4, .own 5 (Zn _ x.1.1.cached) 66, .d (.int .i64 x.1.1.left_), .d (.bool x.1.1.down), .d (.int .i64 x.1.1.illegal)]), (1, .row (Ze _ eZone x.1.1.zones) 2 66), (2, .mp false false (Zm _ _ (eI .i64) eB x.1.1.finished)), (3, .mp true true (Zm _ _ eAt (eA (n := 64) .u8) x.1.1.safe)), (4, .mp true true (Zm _ _ eAt (eA (n := 64) .u8) x.1.1.now)), (5, .row (Ze _ eDev_write x.1.1.cached) 66 88), (6, .box [.d (.int .i64 x1.Conv), .d (.int .i64 x1.Soft), .d (.int .i64 x1.Seq), .d (.int .i64 x1.Size), .d (.int .i64 x1.Open)]), (7, .row (Ze _ eFound x.1.2) 38 33), (8, .row (Ze _ eZone l5) 2 66)], 9, 78⟩) (fun _ => True) [0, 2, 3, 5, 10, 20, 21, 22] ?_ ?_
        · cbv
          revert h; refine zpr hJ hZ fun y23 k24 hy25 ho26 h => ?_; cbv
          refine zl hJ hZ eZone_len hy25 ho26 (fun hJ => by subst hJ; rfl) (LdW.lds eZone_len (w_eZone hZ _)) ?_; cbv
          obtain ⟨p28, q27, hp29, hf30, hq31⟩ := bnd_loop h; clear h
          refine LoopB.mk {x : Nat × Int × TDev_Device × (List TFound) // loopN p28 x.1 x.2 = some q27} (fun x => ⟨[(0, .ptr 0 0), (2, .d (.int .i64 x2)), (3, .d (.int .i64 x3)), (5, .ptr 6 0), (10, .own 7 (Zn _ x.1.2.2.2) 38), (11, .d (.int .i64 v17)), (20, .own 8 (Zn _ l5) 2), (21, .d (.int .i64 v6)), (22, .d (.int .i64 v17)), (28, .d (.int .i64 y23.Point)), (29, .d (.int .i64 x.1.2.1))], [(0, .box [.d (.int .i64 x.1.2.2.1.g.Conv), .d (.int .i64 x.1.2.2.1.g.Soft), .d (.int .i64 x.1.2.2.1.g.Seq), .d (.int .i64 x.1.2.2.1.g.Size), .d (.int .i64 x.1.2.2.1.g.Open), .own 1 (Zn _ x.1.2.2.1.zones) 2, .map 2, .map 3, .map 4, .own 5 (Zn _ x.1.2.2.1.cached) 66, .d (.int .i64 x.1.2.2.1.left_), .d (.bool x.1.2.2.1.down), .d (.int .i64 x.1.2.2.1.illegal)]), (1, .row (Ze _ eZone x.1.2.2.1.zones) 2 66), (2, .mp false false (Zm _ _ (eI .i64) eB x.1.2.2.1.finished)), (3, .mp true true (Zm _ _ eAt (eA (n := 64) .u8) x.1.2.2.1.safe)), (4, .mp true true (Zm _ _ eAt (eA (n := 64) .u8) x.1.2.2.1.now)), (5, .row (Ze _ eDev_write x.1.2.2.1.cached) 66 88), (6, .box [.d (.int .i64 x1.Conv), .d (.int .i64 x1.Soft), .d (.int .i64 x1.Seq), .d (.int .i64 x1.Size), .d (.int .i64 x1.Open)]), (7, .row (Ze _ eFound x.1.2.2.2) 38 33), (8, .row (Ze _ eZone l5) 2 66)], 9, 78⟩) (fun x => x.1.1) [0, 2, 3, 5, 10, 11, 20, 21, 22, 28, 29] 9 ⟨(FUEL, _), hf30⟩ ⟨[(0, 0), (1, 1), (2, 2), (3, 3), (4, 4), (5, 5), (6, 6), (8, 7), (7, 8)], [], ?_⟩ ?_
          · rfl
          · rintro ⟨⟨N34, ⟨v37, o38, l39⟩⟩, hr33⟩; obtain ⟨M35, o32, eN36, h, hr33⟩ := loopN_step hr33; subst eN36; rw [hp29] at h; try dsimp only at h ⊢
            cbv
            revert h; refine zc hJ fun b40 h => ?_; cbv
            cases b40 with
            | true =>
              replace h := cnd_t h; cbv
              obtain ⟨⟨a42, v43, o44⟩, h41, h⟩ := bnd h; try dsimp only at h
              refine callM_by hP (s25 hZ h41) [(0, 0), (1, 1), (2, 2), (3, 3), (4, 4), (5, 5)] false hJ rfl rfl rfl rfl rfl (.inl rfl) ?_; cbv
              try rw [rz64u8]
              revert h; refine zc hJ fun b45 h => ?_; cbv
              cases b45 with
              | true =>
                replace h := cnd_t h; cbv
                cases h; have h := hq31; obtain rfl := hr33; try dsimp only at h
                cases h; have h := hq11; obtain rfl := hr13; try dsimp only at h
                cases h; simp only [hZ.e0, hZ.n0]
                exact ⟨_, .refl _, [.slot 8 1000000 38 33], _, _, [(0, 0), (1, 1), (2, 2), (3, 3), (4, 4), (5, 5), (1000000, 6)], _, rfl, rfl, rfl, rfl, rfl, rfl⟩
              | false =>
                replace h := cnd_f h; cbv
                obtain ⟨⟨o47, v48⟩, h46, h⟩ := bnd h; try dsimp only at h
                refine call_by hP (s26 hZ h46) hJ rfl rfl ?_; cbv
                try rw [rz32u8]
                obtain ⟨j49, hj50, h⟩ := jn h
                refine JoinP.mk {x : Bool // j49 x = some o32} (fun x => ⟨[(0, .ptr 0 0), (2, .d (.int .i64 x2)), (3, .d (.int .i64 x3)), (5, .ptr 6 0), (10, .own 7 (Zn _ l39) 38), (11, .d (.int .i64 v17)), (14, .ptr 8 0), (17, .ptr 9 0), (20, .own 10 (Zn _ l5) 2), (21, .d (.int .i64 v6)), (22, .d (.int .i64 v17)), (28, .d (.int .i64 y23.Point)), (29, .d (.int .i64 v37)), (62, .d (.bool x.1))], [(0, .box [.d (.int .i64 o44.g.Conv), .d (.int .i64 o44.g.Soft), .d (.int .i64 o44.g.Seq), .d (.int .i64 o44.g.Size), .d (.int .i64 o44.g.Open), .own 1 (Zn _ o44.zones) 2, .map 2, .map 3, .map 4, .own 5 (Zn _ o44.cached) 66, .d (.int .i64 o44.left_), .d (.bool o44.down), .d (.int .i64 o44.illegal)]), (1, .row (Ze _ eZone o44.zones) 2 66), (2, .mp false false (Zm _ _ (eI .i64) eB o44.finished)), (3, .mp true true (Zm _ _ eAt (eA (n := 64) .u8) o44.safe)), (4, .mp true true (Zm _ _ eAt (eA (n := 64) .u8) o44.now)), (5, .row (Ze _ eDev_write o44.cached) 66 88), (6, .box [.d (.int .i64 x1.Conv), .d (.int .i64 x1.Soft), .d (.int .i64 x1.Seq), .d (.int .i64 x1.Size), .d (.int .i64 x1.Open)]), (7, .row (Ze _ eFound l39) 38 33), (8, .box [.d (.int .i64 v17), .d (.int .i64 v37)]), (9, .box [.d (.int .i64 o47.Kind), .d (.int .i64 o47.Epoch), .d (.int .i64 o47.Seq), .d (.int .i64 o47.Block), .d (.int .i64 o47.Count), .big 32 (Za .u8 _ o47.Data)]), (10, .row (Ze _ eZone l5) 2 66)], 11, 78⟩) (fun _ => True) [0, 2, 3, 5, 10, 11, 14, 17, 20, 21, 22, 28, 29, 62] ?_ ?_
                · cbv
                  revert h; refine zc hJ fun b51 h => ?_; cbv
                  cases b51 with
                  | true =>
                    replace h := cnd_t h; cbv
                    revert h; refine zc hJ fun b52 h => ?_; cbv
                    cases b52 with
                    | true =>
                      replace h := cnd_t h; cbv
                      revert h; refine zc hJ fun b53 h => ?_; cbv
                      exact ⟨⟨_, h⟩, [(0, 0), (1, 1), (2, 2), (3, 3), (4, 4), (5, 5), (6, 6), (7, 7), (15, 8), (35, 9), (8, 10)], 11, [], rfl, trivial⟩
                    | false =>
                      replace h := cnd_f h; cbv
                      exact ⟨⟨_, h⟩, [(0, 0), (1, 1), (2, 2), (3, 3), (4, 4), (5, 5), (6, 6), (7, 7), (15, 8), (35, 9), (8, 10)], 11, [], rfl, trivial⟩
                  | false =>
                    replace h := cnd_f h; cbv
                    exact ⟨⟨_, h⟩, [(0, 0), (1, 1), (2, 2), (3, 3), (4, 4), (5, 5), (6, 6), (7, 7), (15, 8), (35, 9), (8, 10)], 11, [], rfl, trivial⟩
                · rintro ⟨b51, h⟩ -; rw [hj50] at h; try dsimp only at h ⊢
                  cbv
                  cases b51 with
                  | true =>
                    replace h := cnd_t h; cbv
                    obtain ⟨v53, h52, h⟩ := bnd h
                    refine call_by hP (s27 hZ h52) hJ rfl rfl ?_; cbv
                    try rw [rz32u8]
                    refine zbs hJ hZ (show IsL eFound _ _ [(TFound.mk v53 o47)] from ⟨by obtain ⟨rfl, rfl, rfl, rfl, rfl⟩ := hZ; subst hJ; simp [stdJ, std, encL, eFound, eI], rfl⟩) (by subst hJ; exact (by decide : 38 ≤ 16777216)) ?_; cbv
                    revert h; refine zap hJ hZ eFound_len fun l54 h => ?_; cbv
                    refine ⟨fun _ => by kernel_rfl, ?_⟩; cbv
                    revert h; refine zb hJ fun v55 h => ?_; cbv
                    cases h; exact ⟨⟨(M35, _), hr33⟩, [(0, 0), (1, 1), (2, 2), (3, 3), (4, 4), (5, 5), (6, 6), (19, 7), (10, 8)], 9, [], rfl, Nat.lt_succ_self _⟩
                  | false =>
                    replace h := cnd_f h; cbv
                    revert h; refine zb hJ fun v52 h => ?_; cbv
                    cases h; exact ⟨⟨(M35, _), hr33⟩, [(0, 0), (1, 1), (2, 2), (3, 3), (4, 4), (5, 5), (6, 6), (7, 7), (10, 8)], 9, [], rfl, Nat.lt_succ_self _⟩
            | false =>
              replace h := cnd_f h; cbv
              cases h; have h := hq31; obtain rfl := hr33; try dsimp only at h
              exact ⟨⟨_, h⟩, [(0, 0), (1, 1), (2, 2), (3, 3), (4, 4), (5, 5), (6, 6), (7, 7), (8, 8)], 9, [], rfl, trivial⟩
        · rintro ⟨⟨o23, l24⟩, h⟩ -; rw [hj22] at h; try dsimp only at h ⊢
          cbv
          revert h; refine zb hJ fun v25 h => ?_; cbv
          cases h; exact ⟨⟨(M15, _), hr13⟩, [(0, 0), (1, 1), (2, 2), (3, 3), (4, 4), (5, 5), (6, 6), (8, 7), (7, 8)], 9, [], rfl, Nat.lt_succ_self _⟩
      | false =>
        replace h := cnd_f h; cbv
        cases h; have h := hq11; obtain rfl := hr13; try dsimp only at h
        exact ⟨⟨_, h⟩, [(0, 0), (1, 1), (2, 2), (3, 3), (4, 4), (5, 5), (8, 6)], 7, [], rfl, trivial⟩
  · rintro ⟨⟨o4, l5⟩, h⟩ -; rw [hj3] at h; try dsimp only at h ⊢
    cbv
    obtain ⟨l6, hx7, h⟩ := bnd h; have en8 : (Zn _ l5) = (Zn _ l6) := by rw [hZ.len, hZ.len, srt2?_len hx7]
    refine callM_by hP (srt28 (isL hZ eFound l5) (isL hZ eFound l6) hx7) [(6, 0)] false hJ rfl rfl rfl rfl rfl (.inl rfl) ?_; try rw [en8]
    clear en8; cbv
    obtain ⟨v10, h9, h⟩ := bnd h
    refine callM_by hP (s32 hZ h9) [(0, 0), (1, 1), (2, 2), (3, 3), (4, 4), (5, 5)] false hJ rfl rfl rfl rfl rfl (.inl rfl) ?_; cbv
    cases h
    exact ⟨_, .refl _, [], _, _, [(0, 0), (1, 1), (2, 2), (3, 3), (4, 4), (5, 5), (6, 6)], _, rfl, rfl, rfl, rfl, rfl, rfl⟩
end Go.AX
