/- What functions of the program compute: each is what its Lean function says. -/
import Derived.Test.YtgphlcbjgcogkaaXS1
import Derived.Test.YtgphlcbjgcogkaaXS15
import Derived.Test.YtgphlcbjgcogkaaXS26
import Derived.Test.YtgphlcbjgcogkaaXS27
import Derived.Test.YtgphlcbjgcogkaaXS5
namespace Go.AX
open Go.Proofs
set_option linter.unusedVariables false
set_option maxRecDepth 100000
set_option maxHeartbeats 100000000
set_option linter.unusedSimpArgs false
set_option autoImplicit true
set_option relaxedAutoImplicit true
variable {Ze : ZeT} {Zn : ZnT} {Za : ZaT} {Zb : ZbT} {Zm : ZmT}

theorem s7 (hZ : ZS Ze Zn Za Zb Zm)  (h : m_law14_awake  = some z0) : Spec Try.prog 7 [] ⟨.d (.bool z0), [], 0, True⟩ := by
  refine spec_b [] Try.func7 rfl rfl rfl fun J P hJ hP => ?_
  dsimp only [m_law14_awake] at h
  cbv
  obtain ⟨z32u8, ez32u8, h⟩ := letv h; have rz32u8 := zrep hJ hZ 32 .u8 ez32u8
  obtain ⟨o3, h2, h⟩ := bnd h
  refine call_by hP (s18 hZ h2) hJ rfl rfl ?_; cbv
  try rw [rz32u8]
  obtain ⟨o5, h4, h⟩ := bnd h
  refine call_by hP (s18 hZ h4) hJ rfl rfl ?_; cbv
  try rw [rz32u8]
  obtain ⟨o7, h6, h⟩ := bnd h
  refine call_by hP (s18 hZ h6) hJ rfl rfl ?_; cbv
  try rw [rz32u8]
  obtain ⟨o9, h8, h⟩ := bnd h
  refine call_by hP (s18 hZ h8) hJ rfl rfl ?_; cbv
  try rw [rz32u8]
  refine zbs hJ hZ (show IsL eRef14_Step _ _ [(TRef14_Step.mk 1 o3 false), (TRef14_Step.mk 0 o5 false), (TRef14_Step.mk 1 o7 false), (TRef14_Step.mk 1 o9 false)] from ⟨by obtain ⟨rfl, rfl, rfl, rfl, rfl⟩ := hZ; subst hJ; simp [stdJ, std, encL, eRef14_Step, eI], rfl⟩) (by subst hJ; exact (by decide : 156 ≤ 16777216)) ?_; cbv
  obtain ⟨o11, h10, h⟩ := bnd h
  refine callM_by hP (s13 hZ h10) [] true hJ rfl rfl (by cbv) rfl rfl (.inr ⟨trivial, ⟨⟨trivial, ⟨trivial, ⟨trivial, ⟨trivial, ⟨trivial, ⟨trivial, ⟨trivial, ⟨trivial, ⟨trivial, ⟨trivial, ⟨trivial, ⟨trivial, ⟨trivial, trivial⟩⟩⟩⟩⟩⟩⟩⟩⟩⟩⟩⟩⟩, ⟨(noL_enc (isL hZ eZone o11.zones) eZone_noL), ⟨(noL_map (isM hZ (eI .i64) eB o11.finished) (eI_noL .i64) eB_noL), ⟨(noL_map (isM hZ eAt (eA (n := 64) .u8) o11.safe) eAt_noL (eA_noL .u8)), ⟨(noL_map (isM hZ eAt (eA (n := 64) .u8) o11.now) eAt_noL (eA_noL .u8)), ⟨(noL_enc (isL hZ eDev_write o11.cached) eDev_write_noL), trivial⟩⟩⟩⟩⟩⟩⟩) ?_; cbv
  refine ⟨fun _ => by kernel_rfl, ?_⟩; cbv
  obtain ⟨⟨l13, v14, o15⟩, h12, h⟩ := bnd h; try dsimp only at h
  refine callM_by hP (s14 hZ h12) [(16, 0), (17, 1), (18, 2), (19, 3), (20, 4), (21, 5)] false hJ rfl rfl rfl rfl rfl (.inl rfl) ?_; cbv
  revert h; refine zc hJ fun b16 h => ?_; cbv
  cases b16 with
  | true =>
    replace h := cnd_t h; cbv
    revert h; refine zln hJ hZ fun v17 h => ?_; cbv
    revert h; refine zc hJ fun b18 h => ?_; cbv
    cases b18 with
    | true =>
      replace h := cnd_t h; cbv
      revert h; refine zpr hJ hZ fun y19 k20 hy21 ho22 h => ?_; cbv
      refine zl hJ hZ eFound_len hy21 ho22 (fun hJ => by subst hJ; rfl) (l_eFound_0_3 hZ _) ?_; cbv
      revert h; refine zc hJ fun b23 h => ?_; cbv
      cases b23 with
      | true =>
        replace h := cnd_t h; cbv
        revert h; refine zpr hJ hZ fun y24 k25 hy26 ho27 h => ?_; cbv
        refine zl hJ hZ eFound_len hy26 ho27 (fun hJ => by subst hJ; rfl) (l_eFound_0_3 hZ _) ?_; cbv
        revert h; refine zc hJ fun b28 h => ?_; cbv
        cases b28 with
        | true =>
          replace h := cnd_t h; cbv
          revert h; refine zpr hJ hZ fun y29 k30 hy31 ho32 h => ?_; cbv
          refine zl hJ hZ eFound_len hy31 ho32 (fun hJ => by subst hJ; rfl) (l_eFound_3_3 hZ _) ?_; cbv
          revert h; refine zc hJ fun b33 h => ?_; cbv
          cases b33 with
          | true =>
            replace h := cnd_t h; cbv
            obtain ⟨l35, h34, h⟩ := bnd h
            refine snap_by hP (s10 hZ h34) hJ (by cbv) rfl ⟨trivial, ⟨noL_enc (isL hZ eFound l35) eFound_noL, trivial⟩⟩ ?_; cbv
            revert h; refine zln hJ hZ fun v36 h => ?_; cbv
            revert h; refine zc hJ fun b37 h => ?_; cbv
            cases b37 with
            | true =>
              replace h := cnd_t h; cbv
              obtain ⟨v39, h38, h⟩ := bnd h
              refine snap_by hP (s11 hZ h38) hJ (by cbv) rfl ⟨trivial, trivial⟩ ?_; cbv
              revert h; refine zc hJ fun b40 h => ?_; cbv
              cases b40 with
              | true =>
                replace h := cnd_t h; cbv
                obtain ⟨v42, h41, h⟩ := bnd h
                refine snap_by hP (s11 hZ h41) hJ (by cbv) rfl ⟨trivial, trivial⟩ ?_; cbv
                revert h; refine zc hJ fun b43 h => ?_; cbv
                cases h
                exact ⟨_, .refl _, [], _, _, [], _, rfl, rfl, rfl, rfl, rfl, rfl⟩
              | false =>
                replace h := cnd_f h; cbv
                cases h
                exact ⟨_, .refl _, [], _, _, [], _, rfl, rfl, rfl, rfl, rfl, rfl⟩
            | false =>
              replace h := cnd_f h; cbv
              cases h
              exact ⟨_, .refl _, [], _, _, [], _, rfl, rfl, rfl, rfl, rfl, rfl⟩
          | false =>
            replace h := cnd_f h; cbv
            cases h
            exact ⟨_, .refl _, [], _, _, [], _, rfl, rfl, rfl, rfl, rfl, rfl⟩
        | false =>
          replace h := cnd_f h; cbv
          cases h
          exact ⟨_, .refl _, [], _, _, [], _, rfl, rfl, rfl, rfl, rfl, rfl⟩
      | false =>
        replace h := cnd_f h; cbv
        cases h
        exact ⟨_, .refl _, [], _, _, [], _, rfl, rfl, rfl, rfl, rfl, rfl⟩
    | false =>
      replace h := cnd_f h; cbv
      cases h
      exact ⟨_, .refl _, [], _, _, [], _, rfl, rfl, rfl, rfl, rfl, rfl⟩
  | false =>
    replace h := cnd_f h; cbv
    cases h
    exact ⟨_, .refl _, [], _, _, [], _, rfl, rfl, rfl, rfl, rfl, rfl⟩
end Go.AX
