/- What functions of the program compute: each is what its Lean function says. -/
import Derived.Test.YtgphlcbjgcogkaaXM
namespace Go.AX
open Go.Proofs
set_option linter.unusedVariables false
set_option maxRecDepth 100000
set_option maxHeartbeats 100000000
set_option linter.unusedSimpArgs false
set_option autoImplicit true
set_option relaxedAutoImplicit true
variable {Ze : ZeT} {Zn : ZnT} {Za : ZaT} {Zb : ZbT} {Zm : ZmT}

theorem s65 (hZ : ZS Ze Zn Za Zb Zm)  (h : m_zone_open x0 = some z0) : Spec Try.prog 65 [.d (.lst (Ze _ eZone x0) (Zn _ x0))] ⟨.d (.int .i64 z0), [], 0, True⟩ := by
  refine spec_b [16] Try.func65 rfl rfl rfl fun J P hJ hP => ?_
  dsimp only [m_zone_open] at h
  cbv
  obtain ⟨j2, hj3, h⟩ := jn h
  refine JoinP.mk {x : Int // j2 x = some z0} (fun x => ⟨[(3, .d (.int .i64 x.1))], [], 0, 19⟩) (fun _ => True) [3] ?_ ?_
  · cbv
    revert h; refine zln hJ hZ fun v4 h => ?_; cbv
    obtain ⟨p6, q5, hp7, hf8, hq9⟩ := bnd_loop h; clear h
    refine LoopB.mk {x : Nat × Int × Int // loopN p6 x.1 x.2 = some q5} (fun x => ⟨[(3, .d (.int .i64 x.1.2.1)), (6, .d (.lst (Ze _ eZone x0) (Zn _ x0))), (7, .d (.int .i64 v4)), (8, .d (.int .i64 x.1.2.2))], [], 0, 19⟩) (fun x => x.1.1) [3, 6, 7, 8] 0 ⟨(FUEL, _), hf8⟩ ⟨[], [], ?_⟩ ?_
    · rfl
    · rintro ⟨⟨N12, ⟨v15, v16⟩⟩, hr11⟩; obtain ⟨M13, o10, eN14, h, hr11⟩ := loopN_step hr11; subst eN14; rw [hp7] at h; try dsimp only at h ⊢
      cbv
      revert h; refine zc hJ fun b17 h => ?_; cbv
      cases b17 with
      | true =>
        replace h := cnd_t h; cbv
        revert h; refine zlp hJ hZ fun y18 k19 hy20 ho21 h => ?_; cbv
        refine zl hJ hZ eZone_len hy20 ho21 (fun hJ => by subst hJ; rfl) (LdW.lds eZone_len (w_eZone hZ _)) ?_; cbv
        revert h; refine zc hJ fun b22 h => ?_; cbv
        cases b22 with
        | true =>
          replace h := cnd_t h; cbv
          revert h; refine zb hJ fun v23 h => ?_; cbv
          revert h; refine zb hJ fun v24 h => ?_; cbv
          cases h; exact ⟨⟨(M13, _), hr11⟩, [], 0, [], rfl, Nat.lt_succ_self _⟩
        | false =>
          replace h := cnd_f h; cbv
          revert h; refine zb hJ fun v23 h => ?_; cbv
          cases h; exact ⟨⟨(M13, _), hr11⟩, [], 0, [], rfl, Nat.lt_succ_self _⟩
      | false =>
        replace h := cnd_f h; cbv
        cases h; have h := hq9; obtain rfl := hr11; try dsimp only at h
        exact ⟨⟨_, h⟩, [], 0, [], rfl, trivial⟩
  · rintro ⟨v4, h⟩ -; rw [hj3] at h; try dsimp only at h ⊢
    cbv
    cases h
    exact ⟨_, .refl _, [], _, _, [], _, rfl, rfl, rfl, rfl, rfl, rfl⟩
theorem s46 (hZ : ZS Ze Zn Za Zb Zm)  (h : m___dev_Device__check x1 o0 = some (z0, z1)) : SpecM Try.prog 46 6 [(0, .box [.d (.int .i64 o0.g.Conv), .d (.int .i64 o0.g.Soft), .d (.int .i64 o0.g.Seq), .d (.int .i64 o0.g.Size), .d (.int .i64 o0.g.Open), .own 1 (Zn _ o0.zones) 2, .map 2, .map 3, .map 4, .own 5 (Zn _ o0.cached) 66, .d (.int .i64 o0.left_), .d (.bool o0.down), .d (.int .i64 o0.illegal)]), (1, .row (Ze _ eZone o0.zones) 2 66), (2, .mp false false (Zm _ _ (eI .i64) eB o0.finished)), (3, .mp true true (Zm _ _ eAt (eA (n := 64) .u8) o0.safe)), (4, .mp true true (Zm _ _ eAt (eA (n := 64) .u8) o0.now)), (5, .row (Ze _ eDev_write o0.cached) 66 88)] [.ptr 0 0, .d (.int .i64 x1)] ⟨.d (.int .i64 z0), [(0, .box [.d (.int .i64 z1.g.Conv), .d (.int .i64 z1.g.Soft), .d (.int .i64 z1.g.Seq), .d (.int .i64 z1.g.Size), .d (.int .i64 z1.g.Open), .own 1 (Zn _ z1.zones) 2, .map 2, .map 3, .map 4, .own 5 (Zn _ z1.cached) 66, .d (.int .i64 z1.left_), .d (.bool z1.down), .d (.int .i64 z1.illegal)]), (1, .row (Ze _ eZone z1.zones) 2 66), (2, .mp false false (Zm _ _ (eI .i64) eB z1.finished)), (3, .mp true true (Zm _ _ eAt (eA (n := 64) .u8) z1.safe)), (4, .mp true true (Zm _ _ eAt (eA (n := 64) .u8) z1.now)), (5, .row (Ze _ eDev_write z1.cached) 66 88)], 0, True⟩ := by
  refine specM_b [] 6 6 Try.func46 rfl rfl rfl rfl rfl rfl fun J P hJ hP => ?_
  dsimp only [m___dev_Device__check] at h
  cbv
  revert h; refine zc hJ fun b2 h => ?_; cbv
  cases b2 with
  | true =>
    replace h := cnd_t h; cbv
    revert h; refine zb hJ fun v3 h => ?_; cbv
    cases h
    exact ⟨_, .refl _, [], _, _, [(0, 0), (1, 1), (2, 2), (3, 3), (4, 4), (5, 5)], _, rfl, rfl, rfl, rfl, rfl, rfl⟩
  | false =>
    replace h := cnd_f h; cbv
    cases h
    exact ⟨_, .refl _, [], _, _, [(0, 0), (1, 1), (2, 2), (3, 3), (4, 4), (5, 5)], _, rfl, rfl, rfl, rfl, rfl, rfl⟩
theorem s45 (hZ : ZS Ze Zn Za Zb Zm)  (h : m___dev_Device__Write_1 o0 o2 o3 = some z0) : SpecM Try.prog 45 9 [(0, .box [.big 64 (Za .u8 _ o0)]), (1, .box [.ptr 3 0]), (2, .box [.d (.int .i64 o2.Zone), .d (.int .i64 o2.Off)]), (3, .box [.d (.int .i64 o3.g.Conv), .d (.int .i64 o3.g.Soft), .d (.int .i64 o3.g.Seq), .d (.int .i64 o3.g.Size), .d (.int .i64 o3.g.Open), .own 4 (Zn _ o3.zones) 2, .map 5, .map 6, .map 7, .own 8 (Zn _ o3.cached) 66, .d (.int .i64 o3.left_), .d (.bool o3.down), .d (.int .i64 o3.illegal)]), (4, .row (Ze _ eZone o3.zones) 2 66), (5, .mp false false (Zm _ _ (eI .i64) eB o3.finished)), (6, .mp true true (Zm _ _ eAt (eA (n := 64) .u8) o3.safe)), (7, .mp true true (Zm _ _ eAt (eA (n := 64) .u8) o3.now)), (8, .row (Ze _ eDev_write o3.cached) 66 88)] [.ptr 0 0, .ptr 1 0, .ptr 2 0] ⟨.tup [], [(0, .box [.big 64 (Za .u8 _ o0)]), (1, .box [.ptr 3 0]), (2, .box [.d (.int .i64 o2.Zone), .d (.int .i64 o2.Off)]), (3, .box [.d (.int .i64 z0.g.Conv), .d (.int .i64 z0.g.Soft), .d (.int .i64 z0.g.Seq), .d (.int .i64 z0.g.Size), .d (.int .i64 z0.g.Open), .own 4 (Zn _ z0.zones) 2, .map 5, .map 6, .map 7, .own 9 (Zn _ z0.cached) 66, .d (.int .i64 z0.left_), .d (.bool z0.down), .d (.int .i64 z0.illegal)]), (4, .row (Ze _ eZone z0.zones) 2 66), (5, .mp false false (Zm _ _ (eI .i64) eB z0.finished)), (6, .mp true true (Zm _ _ eAt (eA (n := 64) .u8) z0.safe)), (7, .mp true true (Zm _ _ eAt (eA (n := 64) .u8) z0.now)), (9, .row (Ze _ eDev_write z0.cached) 66 88), (8, .dead)], 1, True⟩ := by
  refine specM_b [] 8 9 Try.func45 rfl rfl rfl rfl rfl rfl fun J P hJ hP => ?_
  dsimp only [m___dev_Device__Write_1] at h
  cbv
  obtain ⟨z64u8, ez64u8, h⟩ := letv h; have rz64u8 := zrep hJ hZ 64 .u8 ez64u8
  revert h; refine zmu hJ hZ eAt_kinds (k := o2) rfl (v := o0) (by obtain ⟨rfl, rfl, rfl, rfl, rfl⟩ := hZ; subst hJ; first | done | rfl | simp [stdJ, std, eA, eA, encL, eI]) fun m2 h => ?_; cbv
  refine ⟨fun _ => by kernel_rfl, ?_⟩; cbv
  try rw [rz64u8]
  refine zbs hJ hZ (show IsL eDev_write _ _ [(TDev_write.mk o2 o0)] from ⟨by obtain ⟨rfl, rfl, rfl, rfl, rfl⟩ := hZ; subst hJ; simp [stdJ, std, encL, eDev_write, eI], rfl⟩) (by subst hJ; exact (by decide : 66 ≤ 16777216)) ?_; cbv
  revert h; refine zap hJ hZ eDev_write_len fun l3 h => ?_; cbv
  refine ⟨fun _ => by kernel_rfl, ?_⟩; cbv
  cases h
  exact ⟨_, .refl _, [], _, _, [(0, 0), (1, 1), (2, 2), (3, 3), (4, 4), (5, 5), (6, 6), (7, 7), (26, 9)], _, rfl, rfl, rfl, rfl, rfl, rfl⟩
theorem s66 (hZ : ZS Ze Zn Za Zb Zm)  (h : m___dev_Device__count o0 = some z0) : SpecM Try.prog 66 6 [(0, .box [.d (.int .i64 o0.g.Conv), .d (.int .i64 o0.g.Soft), .d (.int .i64 o0.g.Seq), .d (.int .i64 o0.g.Size), .d (.int .i64 o0.g.Open), .own 1 (Zn _ o0.zones) 2, .map 2, .map 3, .map 4, .own 5 (Zn _ o0.cached) 66, .d (.int .i64 o0.left_), .d (.bool o0.down), .d (.int .i64 o0.illegal)]), (1, .row (Ze _ eZone o0.zones) 2 66), (2, .mp false false (Zm _ _ (eI .i64) eB o0.finished)), (3, .mp true true (Zm _ _ eAt (eA (n := 64) .u8) o0.safe)), (4, .mp true true (Zm _ _ eAt (eA (n := 64) .u8) o0.now)), (5, .row (Ze _ eDev_write o0.cached) 66 88)] [.ptr 0 0] ⟨.tup [], [(0, .box [.d (.int .i64 z0.g.Conv), .d (.int .i64 z0.g.Soft), .d (.int .i64 z0.g.Seq), .d (.int .i64 z0.g.Size), .d (.int .i64 z0.g.Open), .own 1 (Zn _ z0.zones) 2, .map 2, .map 3, .map 4, .own 5 (Zn _ z0.cached) 66, .d (.int .i64 z0.left_), .d (.bool z0.down), .d (.int .i64 z0.illegal)]), (1, .row (Ze _ eZone z0.zones) 2 66), (2, .mp false false (Zm _ _ (eI .i64) eB z0.finished)), (3, .mp true true (Zm _ _ eAt (eA (n := 64) .u8) z0.safe)), (4, .mp true true (Zm _ _ eAt (eA (n := 64) .u8) z0.now)), (5, .row (Ze _ eDev_write z0.cached) 66 88)], 0, True⟩ := by
  refine specM_b [] 6 6 Try.func66 rfl rfl rfl rfl rfl rfl fun J P hJ hP => ?_
  dsimp only [m___dev_Device__count] at h
  cbv
  revert h; refine zc hJ fun b2 h => ?_; cbv
  cases b2 with
  | true =>
    replace h := cnd_t h; cbv
    revert h; refine zb hJ fun v3 h => ?_; cbv
    revert h; refine zc hJ fun b4 h => ?_; cbv
    cases h
    exact ⟨_, .refl _, [], _, _, [(0, 0), (1, 1), (2, 2), (3, 3), (4, 4), (5, 5)], _, rfl, rfl, rfl, rfl, rfl, rfl⟩
  | false =>
    replace h := cnd_f h; cbv
    cases h
    exact ⟨_, .refl _, [], _, _, [(0, 0), (1, 1), (2, 2), (3, 3), (4, 4), (5, 5)], _, rfl, rfl, rfl, rfl, rfl, rfl⟩
end Go.AX
