/- What functions of the program compute: each is what its Lean function says. -/
import Derived.Test.YtgphlcbjgcogkaaXS13
import Derived.Test.YtgphlcbjgcogkaaXS2
import Derived.Test.YtgphlcbjgcogkaaXS20
namespace Go.AX
open Go.Proofs
set_option linter.unusedVariables false
set_option maxRecDepth 100000
set_option maxHeartbeats 100000000
set_option linter.unusedSimpArgs false
set_option autoImplicit true
set_option relaxedAutoImplicit true
variable {Ze : ZeT} {Zn : ZnT} {Za : ZaT} {Zb : ZbT} {Zm : ZmT}

theorem s24 (hZ : ZS Ze Zn Za Zb Zm)  (h : m___dev_Device__Write x1 x2 o0 = some (z0, z1)) : SpecM Try.prog 24 6 [(0, .box [.d (.int .i64 o0.g.Conv), .d (.int .i64 o0.g.Soft), .d (.int .i64 o0.g.Seq), .d (.int .i64 o0.g.Size), .d (.int .i64 o0.g.Open), .own 4 (Zn _ o0.zones) 2, .map 1, .map 2, .map 3, .own 5 (Zn _ o0.cached) 66, .d (.int .i64 o0.left_), .d (.bool o0.down), .d (.int .i64 o0.illegal)]), (1, .mp false false (Zm _ _ (eI .i64) eB o0.finished)), (2, .mp true true (Zm _ _ eAt (eA (n := 64) .u8) o0.safe)), (3, .mp true true (Zm _ _ eAt (eA (n := 64) .u8) o0.now)), (4, .row (Ze _ eZone o0.zones) 2 66), (5, .row (Ze _ eDev_write o0.cached) 66 88)] [.ptr 0 0, .agg [.d (.int .i64 x1.Zone), .d (.int .i64 x1.Off)], .agg [.big 64 (Za .u8 _ x2)]] ⟨.d (.int .i64 z0), [(0, .box [.d (.int .i64 z1.g.Conv), .d (.int .i64 z1.g.Soft), .d (.int .i64 z1.g.Seq), .d (.int .i64 z1.g.Size), .d (.int .i64 z1.g.Open), .own 6 (Zn _ z1.zones) 2, .map 1, .map 2, .map 3, .own 7 (Zn _ z1.cached) 66, .d (.int .i64 z1.left_), .d (.bool z1.down), .d (.int .i64 z1.illegal)]), (1, .mp false false (Zm _ _ (eI .i64) eB z1.finished)), (2, .mp true true (Zm _ _ eAt (eA (n := 64) .u8) z1.safe)), (3, .mp true true (Zm _ _ eAt (eA (n := 64) .u8) z1.now)), (6, .row (Ze _ eZone z1.zones) 2 66), (7, .row (Ze _ eDev_write z1.cached) 66 88), (5, .dead), (4, .dead)], 2, True⟩ := by
  refine specM_b [] 4 6 Try.func24 rfl rfl rfl rfl rfl rfl fun J P hJ hP => ?_
  dsimp only [m___dev_Device__Write] at h
  cbv
  obtain ⟨⟨l3, v4⟩, h2, h⟩ := bnd h; try dsimp only at h
  refine snap_by hP (s43 hZ h2) hJ (by cbv) rfl ⟨⟨trivial, ⟨trivial, trivial⟩⟩, ⟨noL_enc (isL hZ eZone l3) eZone_noL, trivial⟩⟩ ?_; cbv
  refine ⟨fun _ => by kernel_rfl, ?_⟩; cbv
  obtain ⟨⟨v6, o7⟩, h5, h⟩ := bnd h; try dsimp only at h
  refine callM_by hP (s44 hZ h5) [(0, 0), (10, 1), (6, 2), (8, 3), (1, 4), (2, 5), (3, 6), (22, 7), (4, 8), (5, 9)] false hJ rfl rfl rfl rfl rfl (.inl rfl) ?_; cbv
  cases h
  exact ⟨_, .refl _, [], _, _, [(0, 0), (1, 1), (2, 2), (3, 3), (33, 6), (34, 7)], _, rfl, rfl, rfl, rfl, rfl, rfl⟩
theorem s25 (hZ : ZS Ze Zn Za Zb Zm)  (h : m___dev_Device__Read x1 o0 = some (z0, z1, z2)) : SpecM Try.prog 25 6 [(0, .box [.d (.int .i64 o0.g.Conv), .d (.int .i64 o0.g.Soft), .d (.int .i64 o0.g.Seq), .d (.int .i64 o0.g.Size), .d (.int .i64 o0.g.Open), .own 1 (Zn _ o0.zones) 2, .map 2, .map 3, .map 4, .own 5 (Zn _ o0.cached) 66, .d (.int .i64 o0.left_), .d (.bool o0.down), .d (.int .i64 o0.illegal)]), (1, .row (Ze _ eZone o0.zones) 2 66), (2, .mp false false (Zm _ _ (eI .i64) eB o0.finished)), (3, .mp true true (Zm _ _ eAt (eA (n := 64) .u8) o0.safe)), (4, .mp true true (Zm _ _ eAt (eA (n := 64) .u8) o0.now)), (5, .row (Ze _ eDev_write o0.cached) 66 88)] [.ptr 0 0, .agg [.d (.int .i64 x1.Zone), .d (.int .i64 x1.Off)]] ⟨.tup [.agg [.big 64 (Za .u8 _ z0)], .d (.int .i64 z1)], [(0, .box [.d (.int .i64 z2.g.Conv), .d (.int .i64 z2.g.Soft), .d (.int .i64 z2.g.Seq), .d (.int .i64 z2.g.Size), .d (.int .i64 z2.g.Open), .own 1 (Zn _ z2.zones) 2, .map 2, .map 3, .map 4, .own 5 (Zn _ z2.cached) 66, .d (.int .i64 z2.left_), .d (.bool z2.down), .d (.int .i64 z2.illegal)]), (1, .row (Ze _ eZone z2.zones) 2 66), (2, .mp false false (Zm _ _ (eI .i64) eB z2.finished)), (3, .mp true true (Zm _ _ eAt (eA (n := 64) .u8) z2.safe)), (4, .mp true true (Zm _ _ eAt (eA (n := 64) .u8) z2.now)), (5, .row (Ze _ eDev_write z2.cached) 66 88)], 0, True⟩ := by
  refine specM_b [] 6 6 Try.func25 rfl rfl rfl rfl rfl rfl fun J P hJ hP => ?_
  dsimp only [m___dev_Device__Read] at h
  cbv
  obtain ⟨z64u8, ez64u8, h⟩ := letv h; have rz64u8 := zrep hJ hZ 64 .u8 ez64u8
  try rw [rz64u8]
  refine tst h (fun hb2 h => ?_) (fun hb2 h => ?_)
  · cbv
    try rw [rz64u8]
    cases h
    exact ⟨_, .refl _, [], _, _, [(0, 0), (1, 1), (2, 2), (3, 3), (4, 4), (5, 5)], _, rfl, rfl, rfl, rfl, rfl, rfl⟩
  · cbv
    obtain ⟨v4, h3, h⟩ := bnd h
    refine snap_by hP (s47 hZ h3) hJ (by cbv) rfl ⟨trivial, trivial⟩ ?_; cbv
    obtain ⟨⟨v6, o7⟩, h5, h⟩ := bnd h; try dsimp only at h
    refine callM_by hP (s46 hZ h5) [(0, 0), (1, 1), (2, 2), (3, 3), (4, 4), (5, 5)] false hJ rfl rfl rfl rfl rfl (.inl rfl) ?_; cbv
    refine ⟨fun _ => by kernel_rfl, ?_⟩; cbv
    revert h; refine zc hJ fun b8 h => ?_; cbv
    cases b8 with
    | true =>
      replace h := cnd_t h; cbv
      try rw [rz64u8]
      cases h
      exact ⟨_, .refl _, [], _, _, [(0, 0), (1, 1), (2, 2), (3, 3), (4, 4), (5, 5)], _, rfl, rfl, rfl, rfl, rfl, rfl⟩
    | false =>
      replace h := cnd_f h; cbv
      obtain ⟨o9, ho9, h⟩ := letv h; obtain ⟨y10, hy10, h⟩ := letv h; obtain ⟨b11, hb11, h⟩ := letv h
      refine zlk hJ hZ eAt_kinds (k := x1) rfl (z := z64u8) (by rw [ez64u8]; rfl) (eA_len .u8) ho9 hy10 hb11 (wAr hZ .u8 (by decide) _) ?_
      clear hb11 hy10; cbv
      refine ⟨fun _ => by kernel_rfl, ?_⟩; cbv
      cases h
      exact ⟨_, .refl _, [], _, _, [(0, 0), (1, 1), (2, 2), (3, 3), (4, 4), (5, 5)], _, rfl, rfl, rfl, rfl, rfl, rfl⟩
end Go.AX
