/- What functions of the program compute: each is what its Lean function says. -/
import Derived.Test.YtgphlcbjgcogkaaXS22
import Derived.Test.YtgphlcbjgcogkaaXS7
import Derived.Test.YtgphlcbjgcogkaaXS8
namespace Go.AX
open Go.Proofs
set_option linter.unusedVariables false
set_option maxRecDepth 100000
set_option maxHeartbeats 100000000
set_option linter.unusedSimpArgs false
set_option autoImplicit true
set_option relaxedAutoImplicit true
variable {Ze : ZeT} {Zn : ZnT} {Za : ZaT} {Zb : ZbT} {Zm : ZmT}

theorem s33 (hZ : ZS Ze Zn Za Zb Zm)  (h : m_ref06_Read x0 = some (z0, z1)) : Spec Try.prog 33 [.agg [.big 64 (Za .u8 _ x0)]] ⟨.tup [.agg [.d (.int .i64 z0.Kind), .d (.int .i64 z0.Epoch), .d (.int .i64 z0.Seq), .d (.int .i64 z0.Block), .d (.int .i64 z0.Count), .big 32 (Za .u8 _ z0.Data)], .d (.int .i64 z1)], [], 0, True⟩ := by
  refine spec_b [16] Try.func33 rfl rfl rfl fun J P hJ hP => ?_
  dsimp only [m_ref06_Read] at h
  cbv
  obtain ⟨z32u8, ez32u8, h⟩ := letv h; have rz32u8 := zrep hJ hZ 32 .u8 ez32u8
  try rw [rz32u8]
  obtain ⟨b3, h2, h⟩ := bnd h
  refine call_by hP (s57 hZ h2) hJ rfl rfl ?_; cbv
  revert h; refine st_not hJ fun b4 _ h => ?_; cbv
  cases b4 with
  | true =>
    replace h := cnd_t h; cbv
    try rw [rz32u8]
    cases h
    exact ⟨_, .refl _, [], _, _, [], _, rfl, rfl, rfl, rfl, rfl, rfl⟩
  | false =>
    replace h := cnd_f h; cbv
    revert h; refine zpx hJ fun v5 k6 hy7 ho8 h => ?_; cbv
    refine zlA hJ hZ hy7 ho8 (fun hJ => by subst hJ; simp [stdJ, std]) ?_; cbv
    revert h; refine zw hJ fun v9 h => ?_; cbv
    obtain ⟨v11, h10, h⟩ := bnd h
    refine call_by hP (s58 hZ h10) hJ rfl rfl ?_; cbv
    obtain ⟨v13, h12, h⟩ := bnd h
    refine call_by hP (s58 hZ h12) hJ rfl rfl ?_; cbv
    obtain ⟨v15, h14, h⟩ := bnd h
    refine call_by hP (s58 hZ h14) hJ rfl rfl ?_; cbv
    obtain ⟨v17, h16, h⟩ := bnd h
    refine call_by hP (s58 hZ h16) hJ rfl rfl ?_; cbv
    try rw [rz32u8]
    try rw [rz32u8]
    refine ⟨fun _ => by kernel_rfl, ?_⟩; cbv
    obtain ⟨j18, hj19, h⟩ := jn h
    refine JoinP.mk {x : TRec // j18 x = some (z0, z1)} (fun x => ⟨[(1, .ptr 0 0), (2, .ptr 1 0), (4, .ptr 2 0)], [(0, .box [.big 64 (Za .u8 _ x0)]), (1, .box [.d (.int .i64 0), .d (.int .i64 0), .d (.int .i64 0), .d (.int .i64 0), .d (.int .i64 0), .big 32 (Za .u8 _ z32u8)]), (2, .box [.d (.int .i64 x.1.Kind), .d (.int .i64 x.1.Epoch), .d (.int .i64 x.1.Seq), .d (.int .i64 x.1.Block), .d (.int .i64 x.1.Count), .big 32 (Za .u8 _ x.1.Data)])], 3, 53⟩) (fun _ => True) [1, 2, 4] ?_ ?_
    · cbv
      obtain ⟨p21, q20, hp22, hf23, hq24⟩ := bnd_loop h; clear h
      refine LoopB.mk {x : Nat × Int × TRec // loopN p21 x.1 x.2 = some q20} (fun x => ⟨[(1, .ptr 0 0), (2, .ptr 1 0), (4, .ptr 2 0), (5, .d (.int .i64 x.1.2.1))], [(0, .box [.big 64 (Za .u8 _ x0)]), (1, .box [.d (.int .i64 0), .d (.int .i64 0), .d (.int .i64 0), .d (.int .i64 0), .d (.int .i64 0), .big 32 (Za .u8 _ z32u8)]), (2, .box [.d (.int .i64 x.1.2.2.Kind), .d (.int .i64 x.1.2.2.Epoch), .d (.int .i64 x.1.2.2.Seq), .d (.int .i64 x.1.2.2.Block), .d (.int .i64 x.1.2.2.Count), .big 32 (Za .u8 _ x.1.2.2.Data)])], 3, 53⟩) (fun x => x.1.1) [1, 2, 4, 5] 3 ⟨(FUEL, _), hf23⟩ ⟨[(0, 0), (2, 1), (20, 2)], [], ?_⟩ ?_
      · rfl
      · rintro ⟨⟨N27, ⟨v30, o31⟩⟩, hr26⟩; obtain ⟨M28, o25, eN29, h, hr26⟩ := loopN_step hr26; subst eN29; rw [hp22] at h; try dsimp only at h ⊢
        cbv
        revert h; refine zc hJ fun b32 h => ?_; cbv
        cases b32 with
        | true =>
          replace h := cnd_t h; cbv
          revert h; refine zb hJ fun v33 h => ?_; cbv
          revert h; refine zpx hJ fun v34 k35 hy36 ho37 h => ?_; cbv
          refine zlA hJ hZ hy36 ho37 (fun hJ => by subst hJ; simp [stdJ, std]) ?_; cbv
          revert h; refine zpx hJ fun v38 k39 hy40 ho41 h => ?_; cbv
          obtain ⟨a42, ea43, h⟩ := letv h; rw [zset hJ hZ ho41 ea43]; refine zok (px_leA hJ ho41 hy40) ?_
          clear ea43; cbv
          revert h; refine zb hJ fun v44 h => ?_; cbv
          cases h; exact ⟨⟨(M28, _), hr26⟩, [(0, 0), (1, 1), (2, 2)], 3, [], rfl, Nat.lt_succ_self _⟩
        | false =>
          replace h := cnd_f h; cbv
          cases h; have h := hq24; obtain rfl := hr26; try dsimp only at h
          exact ⟨⟨_, h⟩, [(0, 0), (1, 1), (2, 2)], 3, [], rfl, trivial⟩
    · rintro ⟨o20, h⟩ -; rw [hj19] at h; try dsimp only at h ⊢
      cbv
      obtain ⟨b22, h21, h⟩ := bnd h
      refine call_by hP (s59 hZ h21) hJ rfl rfl ?_; cbv
      revert h; refine st_not hJ fun b23 _ h => ?_; cbv
      cases b23 with
      | true =>
        replace h := cnd_t h; cbv
        try rw [rz32u8]
        cases h
        exact ⟨_, .refl _, [], _, _, [], _, rfl, rfl, rfl, rfl, rfl, rfl⟩
      | false =>
        replace h := cnd_f h; cbv
        revert h; refine zpx hJ fun v24 k25 hy26 ho27 h => ?_; cbv
        refine zlA hJ hZ hy26 ho27 (fun hJ => by subst hJ; simp [stdJ, std]) ?_; cbv
        revert h; refine zc hJ fun b28 h => ?_; cbv
        cases b28 with
        | true =>
          replace h := cnd_t h; cbv
          try rw [rz32u8]
          cases h
          exact ⟨_, .refl _, [], _, _, [], _, rfl, rfl, rfl, rfl, rfl, rfl⟩
        | false =>
          replace h := cnd_f h; cbv
          revert h; refine zpx hJ fun v29 k30 hy31 ho32 h => ?_; cbv
          refine zlA hJ hZ hy31 ho32 (fun hJ => by subst hJ; simp [stdJ, std]) ?_; cbv
          revert h; refine zc hJ fun b33 h => ?_; cbv
          cases b33 with
          | true =>
            replace h := cnd_t h; cbv
            try rw [rz32u8]
            cases h
            exact ⟨_, .refl _, [], _, _, [], _, rfl, rfl, rfl, rfl, rfl, rfl⟩
          | false =>
            replace h := cnd_f h; cbv
            revert h; refine zpx hJ fun v34 k35 hy36 ho37 h => ?_; cbv
            refine zlA hJ hZ hy36 ho37 (fun hJ => by subst hJ; simp [stdJ, std]) ?_; cbv
            revert h; refine zc hJ fun b38 h => ?_; cbv
            cases b38 with
            | true =>
              replace h := cnd_t h; cbv
              try rw [rz32u8]
              cases h
              exact ⟨_, .refl _, [], _, _, [], _, rfl, rfl, rfl, rfl, rfl, rfl⟩
            | false =>
              replace h := cnd_f h; cbv
              cases h
              exact ⟨_, .refl _, [], _, _, [], _, rfl, rfl, rfl, rfl, rfl, rfl⟩
end Go.AX
