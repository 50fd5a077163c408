/- What functions of the program compute: each is what its Lean function says. -/
import Derived.Test.YtgphlcbjgcogkaaXS1
import Derived.Test.YtgphlcbjgcogkaaXS16
import Derived.Test.YtgphlcbjgcogkaaXS2
namespace Go.AX
open Go.Proofs
set_option linter.unusedVariables false
set_option maxRecDepth 100000
set_option maxHeartbeats 100000000
set_option linter.unusedSimpArgs false
set_option autoImplicit true
set_option relaxedAutoImplicit true
variable {Ze : ZeT} {Zn : ZnT} {Za : ZaT} {Zb : ZbT} {Zm : ZmT}

theorem s43 (hZ : ZS Ze Zn Za Zb Zm)  (h : m_zone_Write x0 x1 x2 = some (z0, z1)) : Spec Try.prog 43 [.agg [.d (.int .i64 x0.Conv), .d (.int .i64 x0.Soft), .d (.int .i64 x0.Seq), .d (.int .i64 x0.Size), .d (.int .i64 x0.Open)], .d (.lst (Ze _ eZone x1) (Zn _ x1)), .agg [.d (.int .i64 x2.Zone), .d (.int .i64 x2.Off)]] ⟨.tup [.own 0 (Zn _ z0) 2, .d (.int .i64 z1)], [(0, .row (Ze _ eZone z0) 2 66)], 1, True⟩ := by
  refine spec_b [26] Try.func43 rfl rfl rfl fun J P hJ hP => ?_
  dsimp only [m_zone_Write] at h
  cbv
  obtain ⟨l3, h2, h⟩ := bnd h
  refine call_by hP (s40 hZ h2) hJ rfl rfl ?_; cbv
  obtain ⟨b5, h4, h⟩ := bnd h
  refine call_by hP (s64 hZ h4) hJ rfl rfl ?_; cbv
  revert h; refine st_not hJ fun b6 _ h => ?_; cbv
  cases b6 with
  | true =>
    replace h := cnd_t h; cbv
    cases h
    exact ⟨_, .refl _, [], _, _, [(7, 0)], _, rfl, rfl, rfl, rfl, rfl, rfl⟩
  | false =>
    replace h := cnd_f h; cbv
    revert h; refine zpr hJ hZ fun y7 k8 hy9 ho10 h => ?_; cbv
    obtain ⟨j11, hj12, h⟩ := jn h
    refine JoinP.mk {x : Unit // j11 x = some (z0, z1)} (fun x => ⟨[(3, .ptr 0 0), (8, .own 1 (Zn _ l3) 2), (9, .pr 1 k8)], [(0, .box [.d (.int .i64 x0.Conv), .d (.int .i64 x0.Soft), .d (.int .i64 x0.Seq), .d (.int .i64 x0.Size), .d (.int .i64 x0.Open)]), (1, .row (Ze _ eZone l3) 2 66)], 2, 79⟩) (fun _ => True) [3, 8, 9] ?_ ?_
    · cbv
      refine zl hJ hZ eZone_len hy9 ho10 (fun hJ => by subst hJ; rfl) (l_eZone_0_3 hZ _) ?_; cbv
      revert h; refine zc hJ fun b13 h => ?_; cbv
      cases b13 with
      | true =>
        replace h := cnd_t h; cbv
        cases h
        exact ⟨_, .refl _, [], _, _, [(7, 0)], _, rfl, rfl, rfl, rfl, rfl, rfl⟩
      | false =>
        replace h := cnd_f h; cbv
        refine zl hJ hZ eZone_len hy9 ho10 (fun hJ => by subst hJ; rfl) (l_eZone_0_3 hZ _) ?_; cbv
        revert h; refine zc hJ fun b14 h => ?_; cbv
        cases b14 with
        | true =>
          replace h := cnd_t h; cbv
          cases h
          exact ⟨_, .refl _, [], _, _, [(7, 0)], _, rfl, rfl, rfl, rfl, rfl, rfl⟩
        | false =>
          replace h := cnd_f h; cbv
          refine zl hJ hZ eZone_len hy9 ho10 (fun hJ => by subst hJ; rfl) (l_eZone_1_3 hZ _) ?_; cbv
          revert h; refine zc hJ fun b15 h => ?_; cbv
          refine ⟨fun _ => by kernel_rfl, ?_⟩; cbv
          cases b15 with
          | true =>
            replace h := cnd_t h; cbv
            cases h
            exact ⟨_, .refl _, [], _, _, [(7, 0)], _, rfl, rfl, rfl, rfl, rfl, rfl⟩
          | false =>
            replace h := cnd_f h; cbv
            refine zl hJ hZ eZone_len hy9 ho10 (fun hJ => by subst hJ; rfl) (l_eZone_0_3 hZ _) ?_; cbv
            revert h; refine zc hJ fun b16 h => ?_; cbv
            cases b16 with
            | true =>
              replace h := cnd_t h; cbv
              obtain ⟨v18, h17, h⟩ := bnd h
              refine call_by hP (s65 hZ h17) hJ rfl rfl ?_; cbv
              revert h; refine zc hJ fun b19 h => ?_; cbv
              refine ⟨fun _ => by kernel_rfl, ?_⟩; cbv
              cases b19 with
              | true =>
                replace h := cnd_t h; cbv
                cases h
                exact ⟨_, .refl _, [], _, _, [(7, 0)], _, rfl, rfl, rfl, rfl, rfl, rfl⟩
              | false =>
                replace h := cnd_f h; cbv
                exact ⟨⟨_, h⟩, [(0, 0), (7, 1)], 2, [], rfl, trivial⟩
            | false =>
              replace h := cnd_f h; cbv
              refine ⟨fun _ => by kernel_rfl, ?_⟩; cbv
              exact ⟨⟨_, h⟩, [(0, 0), (7, 1)], 2, [], rfl, trivial⟩
    · rintro ⟨_, h⟩ -; rw [hj12] at h; try dsimp only at h ⊢
      cbv
      revert h; refine zs hJ hZ eZone_len hy9 ho10 0 (fun hJ => by subst hJ; rfl) rfl (Nat.le_of_ble_eq_true rfl) (TZone.mk 1 y7.Point) rfl fun l13 hn14 h => ?_; try rw [hn14]
      clear hn14; cbv
      obtain ⟨y15, hy16, h⟩ := bnd h
      refine zl hJ hZ eZone_len hy16 ho10 (fun hJ => by subst hJ; rfl) (l_eZone_1_3 hZ _) ?_; cbv
      revert h; refine zb hJ fun v17 h => ?_; cbv
      obtain ⟨y18, hy19, h⟩ := bnd h
      revert h; refine zs hJ hZ eZone_len hy19 ho10 1 (fun hJ => by subst hJ; rfl) rfl (Nat.le_of_ble_eq_true rfl) (TZone.mk y18.State v17) rfl fun l20 hn21 h => ?_; try rw [hn21]
      clear hn21; cbv
      obtain ⟨y22, hy23, h⟩ := bnd h
      refine zl hJ hZ eZone_len hy23 ho10 (fun hJ => by subst hJ; rfl) (l_eZone_1_3 hZ _) ?_; cbv
      revert h; refine zc hJ fun b24 h => ?_; cbv
      refine ⟨fun _ => by kernel_rfl, ?_⟩; cbv
      cases b24 with
      | true =>
        replace h := cnd_t h; cbv
        obtain ⟨y25, hy26, h⟩ := bnd h
        revert h; refine zs hJ hZ eZone_len hy26 ho10 0 (fun hJ => by subst hJ; rfl) rfl (Nat.le_of_ble_eq_true rfl) (TZone.mk 3 y25.Point) rfl fun l27 hn28 h => ?_; try rw [hn28]
        clear hn28; cbv
        cases h
        exact ⟨_, .refl _, [], _, _, [(1, 0)], _, rfl, rfl, rfl, rfl, rfl, rfl⟩
      | false =>
        replace h := cnd_f h; cbv
        cases h
        exact ⟨_, .refl _, [], _, _, [(1, 0)], _, rfl, rfl, rfl, rfl, rfl, rfl⟩
theorem s47 (hZ : ZS Ze Zn Za Zb Zm)  (h : m_zone_Read x0 x1 x2 = some z0) : Spec Try.prog 47 [.agg [.d (.int .i64 x0.Conv), .d (.int .i64 x0.Soft), .d (.int .i64 x0.Seq), .d (.int .i64 x0.Size), .d (.int .i64 x0.Open)], .d (.lst (Ze _ eZone x1) (Zn _ x1)), .agg [.d (.int .i64 x2.Zone), .d (.int .i64 x2.Off)]] ⟨.d (.int .i64 z0), [], 0, True⟩ := by
  refine spec_b [] Try.func47 rfl rfl rfl fun J P hJ hP => ?_
  dsimp only [m_zone_Read] at h
  cbv
  obtain ⟨b3, h2, h⟩ := bnd h
  refine call_by hP (s64 hZ h2) hJ rfl rfl ?_; cbv
  revert h; refine st_not hJ fun b4 _ h => ?_; cbv
  cases b4 with
  | true =>
    replace h := cnd_t h; cbv
    cases h
    exact ⟨_, .refl _, [], _, _, [], _, rfl, rfl, rfl, rfl, rfl, rfl⟩
  | false =>
    replace h := cnd_f h; cbv
    revert h; refine zlp hJ hZ fun y5 k6 hy7 ho8 h => ?_; cbv
    refine zl hJ hZ eZone_len hy7 ho8 (fun hJ => by subst hJ; rfl) (l_eZone_0_3 hZ _) ?_; cbv
    revert h; refine zc hJ fun b9 h => ?_; cbv
    cases b9 with
    | true =>
      replace h := cnd_t h; cbv
      revert h; refine zlp hJ hZ fun y10 k11 hy12 ho13 h => ?_; cbv
      refine zl hJ hZ eZone_len hy12 ho13 (fun hJ => by subst hJ; rfl) (l_eZone_1_3 hZ _) ?_; cbv
      revert h; refine zc hJ fun b14 h => ?_; cbv
      refine ⟨fun _ => by kernel_rfl, ?_⟩; cbv
      cases b14 with
      | true =>
        replace h := cnd_t h; cbv
        cases h
        exact ⟨_, .refl _, [], _, _, [], _, rfl, rfl, rfl, rfl, rfl, rfl⟩
      | false =>
        replace h := cnd_f h; cbv
        cases h
        exact ⟨_, .refl _, [], _, _, [], _, rfl, rfl, rfl, rfl, rfl, rfl⟩
    | false =>
      replace h := cnd_f h; cbv
      refine ⟨fun _ => by kernel_rfl, ?_⟩; cbv
      cases h
      exact ⟨_, .refl _, [], _, _, [], _, rfl, rfl, rfl, rfl, rfl, rfl⟩
end Go.AX
