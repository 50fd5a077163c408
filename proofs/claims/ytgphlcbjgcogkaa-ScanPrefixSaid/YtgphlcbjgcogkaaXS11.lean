/- What functions of the program compute: each is what its Lean function says. -/
import Derived.Test.YtgphlcbjgcogkaaXS1
namespace Go.AX
open Go.Proofs
set_option linter.unusedVariables false
set_option maxRecDepth 100000
set_option maxHeartbeats 100000000
set_option linter.unusedSimpArgs false
set_option autoImplicit true
set_option relaxedAutoImplicit true
variable {Ze : ZeT} {Zn : ZnT} {Za : ZaT} {Zb : ZbT} {Zm : ZmT}

theorem s39 (hZ : ZS Ze Zn Za Zb Zm)  (h : m_zone_New x0 = some z0) : Spec Try.prog 39 [.agg [.d (.int .i64 x0.Conv), .d (.int .i64 x0.Soft), .d (.int .i64 x0.Seq), .d (.int .i64 x0.Size), .d (.int .i64 x0.Open)]] ⟨.own 0 (Zn _ z0) 2, [(0, .row (Ze _ eZone z0) 2 66)], 1, True⟩ := by
  refine spec_b [14] Try.func39 rfl rfl rfl fun J P hJ hP => ?_
  dsimp only [m_zone_New] at h
  cbv
  obtain ⟨v3, h2, h⟩ := bnd h
  refine call_by hP (s52 hZ h2) hJ rfl rfl ?_; cbv
  revert h; refine zmk hJ hZ (g := eZone) (z := (TZone.mk 0 0)) (fun _ => rfl) fun l4 h => ?_; cbv
  obtain ⟨j5, hj6, h⟩ := jn h
  refine JoinP.mk {x : (List TZone) // j5 x = some z0} (fun x => ⟨[(3, .own 0 (Zn _ x.1) 2)], [(0, .row (Ze _ eZone x.1) 2 66)], 1, 19⟩) (fun _ => True) [3] ?_ ?_
  · cbv
    obtain ⟨p8, q7, hp9, hf10, hq11⟩ := bnd_loop h; clear h
    refine LoopB.mk {x : Nat × Int × (List TZone) // loopN p8 x.1 x.2 = some q7} (fun x => ⟨[(3, .own 0 (Zn _ x.1.2.2) 2), (9, .d (.int .i64 x0.Conv)), (10, .d (.int .i64 x.1.2.1))], [(0, .row (Ze _ eZone x.1.2.2) 2 66)], 1, 19⟩) (fun x => x.1.1) [3, 9, 10] 1 ⟨(FUEL, _), hf10⟩ ⟨[(5, 0)], [], ?_⟩ ?_
    · rfl
    · rintro ⟨⟨N14, ⟨v17, l18⟩⟩, hr13⟩; obtain ⟨M15, o12, eN16, h, hr13⟩ := loopN_step hr13; subst eN16; rw [hp9] at h; try dsimp only at h ⊢
      cbv
      revert h; refine zc hJ fun b19 h => ?_; cbv
      cases b19 with
      | true =>
        replace h := cnd_t h; cbv
        revert h; refine zpr hJ hZ fun y20 k21 hy22 ho23 h => ?_; cbv
        revert h; refine zs hJ hZ eZone_len hy22 ho23 0 (fun hJ => by subst hJ; rfl) rfl (Nat.le_of_ble_eq_true rfl) (TZone.mk 4 y20.Point) rfl fun l24 hn25 h => ?_; try rw [hn25]
        clear hn25; cbv
        revert h; refine zb hJ fun v26 h => ?_; cbv
        cases h; exact ⟨⟨(M15, _), hr13⟩, [(0, 0)], 1, [], rfl, Nat.lt_succ_self _⟩
      | false =>
        replace h := cnd_f h; cbv
        cases h; have h := hq11; obtain rfl := hr13; try dsimp only at h
        exact ⟨⟨_, h⟩, [(0, 0)], 1, [], rfl, trivial⟩
  · rintro ⟨l7, h⟩ -; rw [hj6] at h; try dsimp only at h ⊢
    cbv
    cases h
    exact ⟨_, .refl _, [], _, _, [(0, 0)], _, rfl, rfl, rfl, rfl, rfl, rfl⟩
theorem s22 (hZ : ZS Ze Zn Za Zb Zm)  (h : m___dev_Device__Zones o0 = some z0) : SpecM Try.prog 22 6 [(0, .box [.d (.int .i64 o0.g.Conv), .d (.int .i64 o0.g.Soft), .d (.int .i64 o0.g.Seq), .d (.int .i64 o0.g.Size), .d (.int .i64 o0.g.Open), .own 1 (Zn _ o0.zones) 2, .map 2, .map 3, .map 4, .own 5 (Zn _ o0.cached) 66, .d (.int .i64 o0.left_), .d (.bool o0.down), .d (.int .i64 o0.illegal)]), (1, .row (Ze _ eZone o0.zones) 2 66), (2, .mp false false (Zm _ _ (eI .i64) eB o0.finished)), (3, .mp true true (Zm _ _ eAt (eA (n := 64) .u8) o0.safe)), (4, .mp true true (Zm _ _ eAt (eA (n := 64) .u8) o0.now)), (5, .row (Ze _ eDev_write o0.cached) 66 88)] [.ptr 0 0] ⟨.own 6 (Zn _ z0) 2, [(0, .box [.d (.int .i64 o0.g.Conv), .d (.int .i64 o0.g.Soft), .d (.int .i64 o0.g.Seq), .d (.int .i64 o0.g.Size), .d (.int .i64 o0.g.Open), .own 1 (Zn _ o0.zones) 2, .map 2, .map 3, .map 4, .own 5 (Zn _ o0.cached) 66, .d (.int .i64 o0.left_), .d (.bool o0.down), .d (.int .i64 o0.illegal)]), (1, .row (Ze _ eZone o0.zones) 2 66), (2, .mp false false (Zm _ _ (eI .i64) eB o0.finished)), (3, .mp true true (Zm _ _ eAt (eA (n := 64) .u8) o0.safe)), (4, .mp true true (Zm _ _ eAt (eA (n := 64) .u8) o0.now)), (5, .row (Ze _ eDev_write o0.cached) 66 88), (6, .row (Ze _ eZone z0) 2 66)], 1, True⟩ := by
  refine specM_b [] 6 6 Try.func22 rfl rfl rfl rfl rfl rfl fun J P hJ hP => ?_
  dsimp only [m___dev_Device__Zones] at h
  cbv
  obtain ⟨l3, h2, h⟩ := bnd h
  refine snap_by hP (s40 hZ h2) hJ (by cbv) rfl ⟨trivial, ⟨noL_enc (isL hZ eZone l3) eZone_noL, trivial⟩⟩ ?_; cbv
  cases h
  exact ⟨_, .refl _, [], _, _, [(0, 0), (1, 1), (2, 2), (3, 3), (4, 4), (5, 5), (11, 6)], _, rfl, rfl, rfl, rfl, rfl, rfl⟩
end Go.AX
