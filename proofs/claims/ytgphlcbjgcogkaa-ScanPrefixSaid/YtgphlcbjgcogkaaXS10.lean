/- What functions of the program compute: each is what its Lean function says. -/
import Derived.Test.YtgphlcbjgcogkaaXM
namespace Go.AX
open Go.Proofs
set_option linter.unusedVariables false
set_option maxRecDepth 100000
set_option maxHeartbeats 100000000
set_option linter.unusedSimpArgs false
set_option autoImplicit true
set_option relaxedAutoImplicit true
variable {Ze : ZeT} {Zn : ZnT} {Za : ZaT} {Zb : ZbT} {Zm : ZmT}

theorem s35 (hZ : ZS Ze Zn Za Zb Zm)  (h : m___dev_Device__keep x1 x2 o0 = some z0) : SpecM Try.prog 35 6 [(0, .box [.d (.int .i64 o0.g.Conv), .d (.int .i64 o0.g.Soft), .d (.int .i64 o0.g.Seq), .d (.int .i64 o0.g.Size), .d (.int .i64 o0.g.Open), .own 1 (Zn _ o0.zones) 2, .map 2, .map 3, .map 4, .own 5 (Zn _ o0.cached) 66, .d (.int .i64 o0.left_), .d (.bool o0.down), .d (.int .i64 o0.illegal)]), (1, .row (Ze _ eZone o0.zones) 2 66), (2, .mp false false (Zm _ _ (eI .i64) eB o0.finished)), (3, .mp true true (Zm _ _ eAt (eA (n := 64) .u8) o0.safe)), (4, .mp true true (Zm _ _ eAt (eA (n := 64) .u8) o0.now)), (5, .row (Ze _ eDev_write o0.cached) 66 88)] [.ptr 0 0, .agg [.d (.lst (Ze _ (eI .i64) x1.Keep) (Zn _ x1.Keep)), .d (.int .u64 x1.Soft), .d (.int .i64 x1.Tear)], .d (.int .i64 x2)] ⟨.d (.int .i64 z0), [(0, .box [.d (.int .i64 o0.g.Conv), .d (.int .i64 o0.g.Soft), .d (.int .i64 o0.g.Seq), .d (.int .i64 o0.g.Size), .d (.int .i64 o0.g.Open), .own 1 (Zn _ o0.zones) 2, .map 2, .map 3, .map 4, .own 5 (Zn _ o0.cached) 66, .d (.int .i64 o0.left_), .d (.bool o0.down), .d (.int .i64 o0.illegal)]), (1, .row (Ze _ eZone o0.zones) 2 66), (2, .mp false false (Zm _ _ (eI .i64) eB o0.finished)), (3, .mp true true (Zm _ _ eAt (eA (n := 64) .u8) o0.safe)), (4, .mp true true (Zm _ _ eAt (eA (n := 64) .u8) o0.now)), (5, .row (Ze _ eDev_write o0.cached) 66 88)], 0, True⟩ := by
  refine specM_b [] 6 6 Try.func35 rfl rfl rfl rfl rfl rfl fun J P hJ hP => ?_
  dsimp only [m___dev_Device__keep] at h
  cbv
  revert h; refine zb hJ fun v2 h => ?_; cbv
  revert h; refine zln hJ hZ fun v3 h => ?_; cbv
  revert h; refine zc hJ fun b4 h => ?_; cbv
  cases b4 with
  | true =>
    replace h := cnd_t h; cbv
    revert h; refine zlp hJ hZ fun y5 k6 hy7 ho8 h => ?_; cbv
    refine zl hJ hZ (eI_len .i64) hy7 ho8 (fun hJ => by subst hJ; rfl) (LdW.lds (eI_len .i64) (wI .i64 _)) ?_; cbv
    revert h; refine st_max hJ fun v9 _ h => ?_; cbv
    cases h
    exact ⟨_, .refl _, [], _, _, [(0, 0), (1, 1), (2, 2), (3, 3), (4, 4), (5, 5)], _, rfl, rfl, rfl, rfl, rfl, rfl⟩
  | false =>
    replace h := cnd_f h; cbv
    cases h
    exact ⟨_, .refl _, [], _, _, [(0, 0), (1, 1), (2, 2), (3, 3), (4, 4), (5, 5)], _, rfl, rfl, rfl, rfl, rfl, rfl⟩
theorem s36 (hZ : ZS Ze Zn Za Zb Zm)  (h : m___dev_Device__tear x1 x2 o0 = some z0) : SpecM Try.prog 36 6 [(0, .box [.d (.int .i64 o0.g.Conv), .d (.int .i64 o0.g.Soft), .d (.int .i64 o0.g.Seq), .d (.int .i64 o0.g.Size), .d (.int .i64 o0.g.Open), .own 1 (Zn _ o0.zones) 2, .map 2, .map 3, .map 4, .own 5 (Zn _ o0.cached) 66, .d (.int .i64 o0.left_), .d (.bool o0.down), .d (.int .i64 o0.illegal)]), (1, .row (Ze _ eZone o0.zones) 2 66), (2, .mp false false (Zm _ _ (eI .i64) eB o0.finished)), (3, .mp true true (Zm _ _ eAt (eA (n := 64) .u8) o0.safe)), (4, .mp true true (Zm _ _ eAt (eA (n := 64) .u8) o0.now)), (5, .row (Ze _ eDev_write o0.cached) 66 88)] [.ptr 0 0, .agg [.d (.int .i64 x1.at_.Zone), .d (.int .i64 x1.at_.Off), .big 64 (Za .u8 _ x1.page)], .d (.int .i64 x2)] ⟨.tup [], [(0, .box [.d (.int .i64 z0.g.Conv), .d (.int .i64 z0.g.Soft), .d (.int .i64 z0.g.Seq), .d (.int .i64 z0.g.Size), .d (.int .i64 z0.g.Open), .own 1 (Zn _ z0.zones) 2, .map 2, .map 3, .map 4, .own 5 (Zn _ z0.cached) 66, .d (.int .i64 z0.left_), .d (.bool z0.down), .d (.int .i64 z0.illegal)]), (1, .row (Ze _ eZone z0.zones) 2 66), (2, .mp false false (Zm _ _ (eI .i64) eB z0.finished)), (3, .mp true true (Zm _ _ eAt (eA (n := 64) .u8) z0.safe)), (4, .mp true true (Zm _ _ eAt (eA (n := 64) .u8) z0.now)), (5, .row (Ze _ eDev_write z0.cached) 66 88)], 0, True⟩ := by
  refine specM_b [8] 6 6 Try.func36 rfl rfl rfl rfl rfl rfl fun J P hJ hP => ?_
  dsimp only [m___dev_Device__tear] at h
  cbv
  obtain ⟨z64u8, ez64u8, h⟩ := letv h; have rz64u8 := zrep hJ hZ 64 .u8 ez64u8
  try rw [rz64u8]
  obtain ⟨j2, hj3, h⟩ := jn h
  refine JoinP.mk {x : (Ar 64) // j2 x = some z0} (fun x => ⟨[(0, .ptr 0 0), (2, .d (.int .i64 x2)), (4, .ptr 6 0), (6, .ptr 7 0)], [(0, .box [.d (.int .i64 o0.g.Conv), .d (.int .i64 o0.g.Soft), .d (.int .i64 o0.g.Seq), .d (.int .i64 o0.g.Size), .d (.int .i64 o0.g.Open), .own 1 (Zn _ o0.zones) 2, .map 2, .map 3, .map 4, .own 5 (Zn _ o0.cached) 66, .d (.int .i64 o0.left_), .d (.bool o0.down), .d (.int .i64 o0.illegal)]), (1, .row (Ze _ eZone o0.zones) 2 66), (2, .mp false false (Zm _ _ (eI .i64) eB o0.finished)), (3, .mp true true (Zm _ _ eAt (eA (n := 64) .u8) o0.safe)), (4, .mp true true (Zm _ _ eAt (eA (n := 64) .u8) o0.now)), (5, .row (Ze _ eDev_write o0.cached) 66 88), (6, .box [.d (.int .i64 x1.at_.Zone), .d (.int .i64 x1.at_.Off), .big 64 (Za .u8 _ x1.page)]), (7, .box [.big 64 (Za .u8 _ x.1)])], 8, 38⟩) (fun _ => True) [0, 2, 4, 6] ?_ ?_
  · cbv
    revert h; refine zc hJ fun b4 h => ?_; cbv
    refine ⟨fun _ => by kernel_rfl, ?_⟩; cbv
    cases b4 with
    | true =>
      replace h := cnd_t h; cbv
      obtain ⟨o5, ho5, h⟩ := letv h; obtain ⟨y6, hy6, h⟩ := letv h; obtain ⟨b7, hb7, h⟩ := letv h
      refine zlk hJ hZ eAt_kinds (k := x1.at_) rfl (z := z64u8) (by rw [ez64u8]; rfl) (eA_len .u8) ho5 hy6 hb7 (wAr hZ .u8 (by decide) _) ?_
      clear hb7 hy6; cbv
      refine ⟨fun _ => by kernel_rfl, ?_⟩; cbv
      exact ⟨⟨_, h⟩, [(0, 0), (1, 1), (2, 2), (3, 3), (4, 4), (5, 5), (6, 6), (8, 7)], 8, [], rfl, trivial⟩
    | false =>
      replace h := cnd_f h; cbv
      exact ⟨⟨_, h⟩, [(0, 0), (1, 1), (2, 2), (3, 3), (4, 4), (5, 5), (6, 6), (8, 7)], 8, [], rfl, trivial⟩
  · rintro ⟨a4, h⟩ -; rw [hj3] at h; try dsimp only at h ⊢
    cbv
    revert h; refine st_min hJ fun v5 _ h => ?_; cbv
    revert h; refine st_sla hJ (eI_len .u8) (cells := (Za .u8 _ a4)) (isA hZ .u8 a4) (Ar.h a4) fun c7 n8 l6 k10 hl9 hs11 h => ?_; obtain ⟨rfl, rfl⟩ := isQ hZ hl9; cbv
    revert h; refine st_sla hJ (eI_len .u8) (cells := (Za .u8 _ x1.page)) (isA hZ .u8 x1.page) (Ar.h x1.page) fun c13 n14 l12 k16 hl15 hs17 h => ?_; obtain ⟨rfl, rfl⟩ := isQ hZ hl15; cbv
    obtain ⟨a18, ha19, h⟩ := letv h; obtain ⟨v20, hv20, h⟩ := letv h
    obtain ⟨e211, e212, e213⟩ := cpA_facts hJ (isA hZ .u8 a4) (isL hZ (eI .u8) l6) hs11 (fun hJ => (srcA hJ (isA hZ .u8 x1.page) (isL hZ (eI .u8) l12) hs17)) (isL hZ (eI .u8) l12).n ha19 (isA hZ .u8 a18) hv20
    rw [e211, e212]; refine zok (by first | exact ⟨trivial, e213⟩ | exact e213) ?_
    clear e211 e212 e213 hv20 ha19; cbv
    refine ⟨fun _ => by kernel_rfl, ?_⟩; cbv
    revert h; refine zmu hJ hZ eAt_kinds (k := x1.at_) rfl (v := a18) (by obtain ⟨rfl, rfl, rfl, rfl, rfl⟩ := hZ; subst hJ; first | done | rfl | simp [stdJ, std, eA, eA, encL, eI]) fun m22 h => ?_; cbv
    refine ⟨fun _ => by kernel_rfl, ?_⟩; cbv
    cases h
    exact ⟨_, .refl _, [], _, _, [(0, 0), (1, 1), (2, 2), (3, 3), (4, 4), (5, 5)], _, rfl, rfl, rfl, rfl, rfl, rfl⟩
theorem s80 (hZ : ZS Ze Zn Za Zb Zm) (hy2 : at? x0 x0i = some x0y) (ho3 : k1 = x0i.toNat * 2) (h : m_zone_shut x0 x0i x0y = some z0) : SpecM Try.prog 80 1 [(0, .row (Ze _ eZone x0) 2 66)] [.pr 0 k1] ⟨.tup [], [(0, .row (Ze _ eZone z0) 2 66)], 0, True⟩ := by
  refine specM_b [] 1 1 Try.func80 rfl rfl rfl rfl rfl rfl fun J P hJ hP => ?_
  dsimp only [m_zone_shut] at h
  cbv
  revert h; refine zs hJ hZ eZone_len hy2 ho3 0 (fun hJ => by subst hJ; rfl) rfl (Nat.le_of_ble_eq_true rfl) (TZone.mk 2 x0y.Point) rfl fun l5 hn6 h => ?_; try rw [hn6]
  clear hn6; cbv
  obtain ⟨y7, hy8, h⟩ := bnd h
  refine zl hJ hZ eZone_len hy8 ho3 (fun hJ => by subst hJ; rfl) (l_eZone_1_3 hZ _) ?_; cbv
  revert h; refine zc hJ fun b9 h => ?_; cbv
  cases b9 with
  | true =>
    replace h := cnd_t h; cbv
    obtain ⟨y10, hy11, h⟩ := bnd h
    revert h; refine zs hJ hZ eZone_len hy11 ho3 0 (fun hJ => by subst hJ; rfl) rfl (Nat.le_of_ble_eq_true rfl) (TZone.mk 0 y10.Point) rfl fun l12 hn13 h => ?_; try rw [hn13]
    clear hn13; cbv
    cases h
    exact ⟨_, .refl _, [], _, _, [(0, 0)], _, rfl, rfl, rfl, rfl, rfl, rfl⟩
  | false =>
    replace h := cnd_f h; cbv
    cases h
    exact ⟨_, .refl _, [], _, _, [(0, 0)], _, rfl, rfl, rfl, rfl, rfl, rfl⟩
set_option maxHeartbeats 2000000 in
theorem cw61 (b : Nat) (es : Array MapEntry) (clock : Nat) (w : World) (hb : w.heap[b]? = some (.map es clock)) :
    Calls Try.prog 61 #[.map (some b)] w fun e w' => e = .returned (.map (some w.heap.size)) ∧ w' = w.alloc (.map es clock) := by
  have hq := fun w => run_eql_mapnil (P := Try.prog) w 82 _ _ (some b) Try.underlying82
  go_enter Try.func61, Try.ntmps61
  go_wp2
  rw [run_callFunc_extern Try.func81 (by kernel_rfl) (by kernel_rfl) (by kernel_rfl) (e := Extern.MapsClone.clone) (by kernel_rfl), run_clone_map w 82 hb]
  simp only [Result.andThen]
  rw [Oper.upon_value]
  go_wp2
  rw [run_assert_map _ 82 20 _ _ _ Try.underlying82]
  simp only [Result.andThen]
  rw [Oper.upon_value]
  go_wp2
  go_ret
  exact ⟨rfl, rfl⟩
theorem s61 (ka va : Bool) (l : List (List D × List D)) : SpecM Try.prog 61 1 [(0, .mp ka va l)] [.map 0] ⟨.map 1, [(0, .mp ka va l), (1, .mp ka va l)], 1, True⟩ :=
  specM_clone ⟨_, Try.func61, rfl, rfl⟩ cw61 ka va l
end Go.AX
