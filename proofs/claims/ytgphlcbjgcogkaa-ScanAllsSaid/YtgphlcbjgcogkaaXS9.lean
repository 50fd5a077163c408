/- What functions of the program compute: each is what its Lean function says. -/
import Derived.Test.YtgphlcbjgcogkaaXM
namespace Go.AX
open Go.Proofs
set_option linter.unusedVariables false
set_option maxRecDepth 100000
set_option maxHeartbeats 100000000
set_option linter.unusedSimpArgs false
set_option autoImplicit true
set_option relaxedAutoImplicit true
variable {Ze : ZeT} {Zn : ZnT} {Za : ZaT} {Zb : ZbT} {Zm : ZmT}

theorem s34 (hZ : ZS Ze Zn Za Zb Zm)  (h : m_ref03_Num x0 x1 = some z0) : Spec Try.prog 34 [.agg [.d (.int .i64 x0.Conv), .d (.int .i64 x0.Soft), .d (.int .i64 x0.Seq), .d (.int .i64 x0.Size), .d (.int .i64 x0.Open)], .agg [.d (.int .i64 x1.Zone), .d (.int .i64 x1.Off)]] ⟨.d (.int .i64 z0), [], 0, True⟩ := by
  refine spec_b [22, 8] Try.func34 rfl rfl rfl fun J P hJ hP => ?_
  dsimp only [m_ref03_Num] at h
  cbv
  obtain ⟨j2, hj3, h⟩ := jn h
  refine JoinP.mk {x : Unit // j2 x = some z0} (fun x => ⟨[], [], 0, 38⟩) (fun _ => True) [] ?_ ?_
  · cbv
    obtain ⟨p5, q4, hp6, hf7, hq8⟩ := bnd_loop h; clear h
    refine LoopB.mk {x : Nat × Int × Int // loopN p5 x.1 x.2 = some q4} (fun x => ⟨[(2, .ptr 0 0), (3, .ptr 1 0), (5, .d (.int .i64 x.1.2.1)), (6, .d (.int .i64 x.1.2.2))], [(0, .box [.d (.int .i64 x0.Conv), .d (.int .i64 x0.Soft), .d (.int .i64 x0.Seq), .d (.int .i64 x0.Size), .d (.int .i64 x0.Open)]), (1, .box [.d (.int .i64 x1.Zone), .d (.int .i64 x1.Off)])], 2, 38⟩) (fun x => x.1.1) [2, 3, 5, 6] 2 ⟨(FUEL, _), hf7⟩ ⟨[(0, 0), (2, 1)], [], ?_⟩ ?_
    · rfl
    · rintro ⟨⟨N11, ⟨v14, v15⟩⟩, hr10⟩; obtain ⟨M12, o9, eN13, h, hr10⟩ := loopN_step hr10; subst eN13; rw [hp6] at h; try dsimp only at h ⊢
      cbv
      revert h; refine zb hJ fun v16 h => ?_; cbv
      revert h; refine zc hJ fun b17 h => ?_; cbv
      cases b17 with
      | true =>
        replace h := cnd_t h; cbv
        obtain ⟨j18, hj19, h⟩ := jn h
        refine JoinP.mk {x : Int // j18 x = some o9} (fun x => ⟨[(2, .ptr 0 0), (3, .ptr 1 0), (5, .d (.int .i64 x.1)), (6, .d (.int .i64 v15))], [(0, .box [.d (.int .i64 x0.Conv), .d (.int .i64 x0.Soft), .d (.int .i64 x0.Seq), .d (.int .i64 x0.Size), .d (.int .i64 x0.Open)]), (1, .box [.d (.int .i64 x1.Zone), .d (.int .i64 x1.Off)])], 2, 38⟩) (fun _ => True) [2, 3, 5, 6] ?_ ?_
        · cbv
          obtain ⟨p21, q20, hp22, hf23, hq24⟩ := bnd_loop h; clear h
          refine LoopB.mk {x : Nat × Int × Int // loopN p21 x.1 x.2 = some q20} (fun x => ⟨[(2, .ptr 0 0), (3, .ptr 1 0), (5, .d (.int .i64 x.1.2.1)), (6, .d (.int .i64 v15)), (7, .d (.int .i64 x.1.2.2))], [(0, .box [.d (.int .i64 x0.Conv), .d (.int .i64 x0.Soft), .d (.int .i64 x0.Seq), .d (.int .i64 x0.Size), .d (.int .i64 x0.Open)]), (1, .box [.d (.int .i64 x1.Zone), .d (.int .i64 x1.Off)])], 2, 38⟩) (fun x => x.1.1) [2, 3, 5, 6, 7] 2 ⟨(FUEL, _), hf23⟩ ⟨[(0, 0), (1, 1)], [], ?_⟩ ?_
          · rfl
          · rintro ⟨⟨N27, ⟨v30, v31⟩⟩, hr26⟩; obtain ⟨M28, o25, eN29, h, hr26⟩ := loopN_step hr26; subst eN29; rw [hp22] at h; try dsimp only at h ⊢
            cbv
            revert h; refine zc hJ fun b32 h => ?_; cbv
            cases b32 with
            | true =>
              replace h := cnd_t h; cbv
              revert h; refine zb hJ fun v33 h => ?_; cbv
              revert h; refine zc hJ fun b34 h => ?_; cbv
              cases b34 with
              | true =>
                replace h := cnd_t h; cbv
                revert h; refine zc hJ fun b35 h => ?_; cbv
                cases b35 with
                | true =>
                  replace h := cnd_t h; cbv
                  cases h; have h := hq24; obtain rfl := hr26; try dsimp only at h
                  cases h; have h := hq8; obtain rfl := hr10; try dsimp only at h
                  cases h
                  exact ⟨_, .refl _, [], _, _, [], _, rfl, rfl, rfl, rfl, rfl, rfl⟩
                | false =>
                  replace h := cnd_f h; cbv
                  revert h; refine zb hJ fun v36 h => ?_; cbv
                  cases h; exact ⟨⟨(M28, _), hr26⟩, [(0, 0), (1, 1)], 2, [], rfl, Nat.lt_succ_self _⟩
              | false =>
                replace h := cnd_f h; cbv
                revert h; refine zb hJ fun v35 h => ?_; cbv
                cases h; exact ⟨⟨(M28, _), hr26⟩, [(0, 0), (1, 1)], 2, [], rfl, Nat.lt_succ_self _⟩
            | false =>
              replace h := cnd_f h; cbv
              cases h; have h := hq24; obtain rfl := hr26; try dsimp only at h
              exact ⟨⟨_, h⟩, [(0, 0), (1, 1)], 2, [], rfl, trivial⟩
        · rintro ⟨v20, h⟩ -; rw [hj19] at h; try dsimp only at h ⊢
          cbv
          revert h; refine zb hJ fun v21 h => ?_; cbv
          cases h; exact ⟨⟨(M12, _), hr10⟩, [(0, 0), (1, 1)], 2, [], rfl, Nat.lt_succ_self _⟩
      | false =>
        replace h := cnd_f h; cbv
        cases h; have h := hq8; obtain rfl := hr10; try dsimp only at h
        exact ⟨⟨_, h⟩, [], 0, [], rfl, trivial⟩
  · rintro ⟨_, h⟩ -; rw [hj3] at h; try dsimp only at h ⊢
    cbv
    cases h
    exact ⟨_, .refl _, [], _, _, [], _, rfl, rfl, rfl, rfl, rfl, rfl⟩
theorem s16 (hZ : ZS Ze Zn Za Zb Zm)  (h : m___dev_Device__Illegal o0 = some z0) : SpecM Try.prog 16 6 [(0, .box [.d (.int .i64 o0.g.Conv), .d (.int .i64 o0.g.Soft), .d (.int .i64 o0.g.Seq), .d (.int .i64 o0.g.Size), .d (.int .i64 o0.g.Open), .own 1 (Zn _ o0.zones) 2, .map 2, .map 3, .map 4, .own 5 (Zn _ o0.cached) 66, .d (.int .i64 o0.left_), .d (.bool o0.down), .d (.int .i64 o0.illegal)]), (1, .row (Ze _ eZone o0.zones) 2 66), (2, .mp false false (Zm _ _ (eI .i64) eB o0.finished)), (3, .mp true true (Zm _ _ eAt (eA (n := 64) .u8) o0.safe)), (4, .mp true true (Zm _ _ eAt (eA (n := 64) .u8) o0.now)), (5, .row (Ze _ eDev_write o0.cached) 66 88)] [.ptr 0 0] ⟨.d (.int .i64 z0), [(0, .box [.d (.int .i64 o0.g.Conv), .d (.int .i64 o0.g.Soft), .d (.int .i64 o0.g.Seq), .d (.int .i64 o0.g.Size), .d (.int .i64 o0.g.Open), .own 1 (Zn _ o0.zones) 2, .map 2, .map 3, .map 4, .own 5 (Zn _ o0.cached) 66, .d (.int .i64 o0.left_), .d (.bool o0.down), .d (.int .i64 o0.illegal)]), (1, .row (Ze _ eZone o0.zones) 2 66), (2, .mp false false (Zm _ _ (eI .i64) eB o0.finished)), (3, .mp true true (Zm _ _ eAt (eA (n := 64) .u8) o0.safe)), (4, .mp true true (Zm _ _ eAt (eA (n := 64) .u8) o0.now)), (5, .row (Ze _ eDev_write o0.cached) 66 88)], 0, True⟩ := by
  refine specM_b [] 6 6 Try.func16 rfl rfl rfl rfl rfl rfl fun J P hJ hP => ?_
  dsimp only [m___dev_Device__Illegal] at h
  cbv
  cases h
  exact ⟨_, .refl _, [], _, _, [(0, 0), (1, 1), (2, 2), (3, 3), (4, 4), (5, 5)], _, rfl, rfl, rfl, rfl, rfl, rfl⟩
theorem s17 (hZ : ZS Ze Zn Za Zb Zm)  (h : m___dev_Device__Arm x1 o0 = some z0) : SpecM Try.prog 17 6 [(0, .box [.d (.int .i64 o0.g.Conv), .d (.int .i64 o0.g.Soft), .d (.int .i64 o0.g.Seq), .d (.int .i64 o0.g.Size), .d (.int .i64 o0.g.Open), .own 1 (Zn _ o0.zones) 2, .map 2, .map 3, .map 4, .own 5 (Zn _ o0.cached) 66, .d (.int .i64 o0.left_), .d (.bool o0.down), .d (.int .i64 o0.illegal)]), (1, .row (Ze _ eZone o0.zones) 2 66), (2, .mp false false (Zm _ _ (eI .i64) eB o0.finished)), (3, .mp true true (Zm _ _ eAt (eA (n := 64) .u8) o0.safe)), (4, .mp true true (Zm _ _ eAt (eA (n := 64) .u8) o0.now)), (5, .row (Ze _ eDev_write o0.cached) 66 88)] [.ptr 0 0, .d (.int .i64 x1)] ⟨.tup [], [(0, .box [.d (.int .i64 z0.g.Conv), .d (.int .i64 z0.g.Soft), .d (.int .i64 z0.g.Seq), .d (.int .i64 z0.g.Size), .d (.int .i64 z0.g.Open), .own 1 (Zn _ z0.zones) 2, .map 2, .map 3, .map 4, .own 5 (Zn _ z0.cached) 66, .d (.int .i64 z0.left_), .d (.bool z0.down), .d (.int .i64 z0.illegal)]), (1, .row (Ze _ eZone z0.zones) 2 66), (2, .mp false false (Zm _ _ (eI .i64) eB z0.finished)), (3, .mp true true (Zm _ _ eAt (eA (n := 64) .u8) z0.safe)), (4, .mp true true (Zm _ _ eAt (eA (n := 64) .u8) z0.now)), (5, .row (Ze _ eDev_write z0.cached) 66 88)], 0, True⟩ := by
  refine specM_b [] 6 6 Try.func17 rfl rfl rfl rfl rfl rfl fun J P hJ hP => ?_
  dsimp only [m___dev_Device__Arm] at h
  cbv
  refine tst h (fun hb2 h => ?_) (fun hb2 h => ?_)
  · cbv
    cases h
    exact ⟨_, .refl _, [], _, _, [(0, 0), (1, 1), (2, 2), (3, 3), (4, 4), (5, 5)], _, rfl, rfl, rfl, rfl, rfl, rfl⟩
  · cbv
    revert h; refine zc hJ fun b3 h => ?_; cbv
    cases h
    exact ⟨_, .refl _, [], _, _, [(0, 0), (1, 1), (2, 2), (3, 3), (4, 4), (5, 5)], _, rfl, rfl, rfl, rfl, rfl, rfl⟩
end Go.AX
