/- What functions of the program compute: each is what its Lean function says. -/
import Derived.Test.YtgphlcbjgcogkaaXS10
import Derived.Test.YtgphlcbjgcogkaaXS15
namespace Go.AX
open Go.Proofs
set_option linter.unusedVariables false
set_option maxRecDepth 100000
set_option maxHeartbeats 100000000
set_option linter.unusedSimpArgs false
set_option autoImplicit true
set_option relaxedAutoImplicit true
variable {Ze : ZeT} {Zn : ZnT} {Za : ZaT} {Zb : ZbT} {Zm : ZmT}

theorem s37 (hZ : ZS Ze Zn Za Zb Zm)  (h : m___dev_Device__wake o0 = some z0) : SpecM Try.prog 37 6 [(0, .box [.d (.int .i64 o0.g.Conv), .d (.int .i64 o0.g.Soft), .d (.int .i64 o0.g.Seq), .d (.int .i64 o0.g.Size), .d (.int .i64 o0.g.Open), .own 3 (Zn _ o0.zones) 2, .map 1, .map 2, .map 4, .own 5 (Zn _ o0.cached) 66, .d (.int .i64 o0.left_), .d (.bool o0.down), .d (.int .i64 o0.illegal)]), (1, .mp false false (Zm _ _ (eI .i64) eB o0.finished)), (2, .mp true true (Zm _ _ eAt (eA (n := 64) .u8) o0.safe)), (3, .row (Ze _ eZone o0.zones) 2 66), (4, .mp true true (Zm _ _ eAt (eA (n := 64) .u8) o0.now)), (5, .row (Ze _ eDev_write o0.cached) 66 88)] [.ptr 0 0] ⟨.tup [], [(0, .box [.d (.int .i64 z0.g.Conv), .d (.int .i64 z0.g.Soft), .d (.int .i64 z0.g.Seq), .d (.int .i64 z0.g.Size), .d (.int .i64 z0.g.Open), .own 6 (Zn _ z0.zones) 2, .map 1, .map 2, .map 7, .d .nils, .d (.int .i64 z0.left_), .d (.bool z0.down), .d (.int .i64 z0.illegal)]), (1, .mp false false (Zm _ _ (eI .i64) eB z0.finished)), (2, .mp true true (Zm _ _ eAt (eA (n := 64) .u8) z0.safe)), (6, .row (Ze _ eZone z0.zones) 2 66), (7, .mp true true (Zm _ _ eAt (eA (n := 64) .u8) z0.now)), (5, .dead), (4, .dead), (3, .dead)], 2, True⟩ := by
  refine specM_b [32, 6, 18] 3 6 Try.func37 rfl rfl rfl rfl rfl rfl fun J P hJ hP => ?_
  dsimp only [m___dev_Device__wake] at h
  cbv
  obtain ⟨z64u8, ez64u8, h⟩ := letv h; have rz64u8 := zrep hJ hZ 64 .u8 ez64u8
  obtain ⟨l3, h2, h⟩ := bnd h
  refine snap_by hP (s60 hZ h2) hJ (by cbv) rfl ⟨trivial, ⟨noL_enc (isL hZ eZone l3) eZone_noL, trivial⟩⟩ ?_; cbv
  obtain ⟨j4, hj5, h⟩ := jn h
  refine JoinP.mk {x : TDev_Device // j4 x = some z0} (fun x => ⟨[(0, .ptr 0 0)], [(0, .box [.d (.int .i64 x.1.g.Conv), .d (.int .i64 x.1.g.Soft), .d (.int .i64 x.1.g.Seq), .d (.int .i64 x.1.g.Size), .d (.int .i64 x.1.g.Open), .own 3 (Zn _ x.1.zones) 2, .map 1, .map 2, .map 4, .own 5 (Zn _ x.1.cached) 66, .d (.int .i64 x.1.left_), .d (.bool x.1.down), .d (.int .i64 x.1.illegal)]), (1, .mp false false (Zm _ _ (eI .i64) eB x.1.finished)), (2, .mp true true (Zm _ _ eAt (eA (n := 64) .u8) x.1.safe)), (3, .row (Ze _ eZone x.1.zones) 2 66), (4, .mp true true (Zm _ _ eAt (eA (n := 64) .u8) x.1.now)), (5, .row (Ze _ eDev_write x.1.cached) 66 88)], 6, 102⟩) (fun _ => True) [0] ?_ ?_
  · cbv
    obtain ⟨p7, q6, hp8, hf9, hq10⟩ := bnd_loop h; clear h
    refine LoopB.mk {x : Nat × Int × TDev_Device // loopN p7 x.1 x.2 = some q6} (fun x => ⟨[(0, .ptr 0 0), (2, .d (.int .i64 x.1.2.1))], [(0, .box [.d (.int .i64 x.1.2.2.g.Conv), .d (.int .i64 x.1.2.2.g.Soft), .d (.int .i64 x.1.2.2.g.Seq), .d (.int .i64 x.1.2.2.g.Size), .d (.int .i64 x.1.2.2.g.Open), .own 3 (Zn _ x.1.2.2.zones) 2, .map 1, .map 2, .map 4, .own 5 (Zn _ x.1.2.2.cached) 66, .d (.int .i64 x.1.2.2.left_), .d (.bool x.1.2.2.down), .d (.int .i64 x.1.2.2.illegal)]), (1, .mp false false (Zm _ _ (eI .i64) eB x.1.2.2.finished)), (2, .mp true true (Zm _ _ eAt (eA (n := 64) .u8) x.1.2.2.safe)), (3, .row (Ze _ eZone x.1.2.2.zones) 2 66), (4, .mp true true (Zm _ _ eAt (eA (n := 64) .u8) x.1.2.2.now)), (5, .row (Ze _ eDev_write x.1.2.2.cached) 66 88)], 6, 102⟩) (fun x => x.1.1) [0, 2] 6 ⟨(FUEL, _), hf9⟩ ⟨[(0, 0), (1, 1), (2, 2), (11, 3), (4, 4), (5, 5)], [], ?_⟩ ?_
    · rfl
    · rintro ⟨⟨N13, ⟨v16, o17⟩⟩, hr12⟩; obtain ⟨M14, o11, eN15, h, hr12⟩ := loopN_step hr12; subst eN15; rw [hp8] at h; try dsimp only at h ⊢
      cbv
      revert h; refine zln hJ hZ fun v18 h => ?_; cbv
      revert h; refine zc hJ fun b19 h => ?_; cbv
      cases b19 with
      | true =>
        replace h := cnd_t h; cbv
        obtain ⟨j20, hj21, h⟩ := jn h
        refine JoinP.mk {x : TDev_Device // j20 x = some o11} (fun x => ⟨[(0, .ptr 0 0), (2, .d (.int .i64 v16))], [(0, .box [.d (.int .i64 x.1.g.Conv), .d (.int .i64 x.1.g.Soft), .d (.int .i64 x.1.g.Seq), .d (.int .i64 x.1.g.Size), .d (.int .i64 x.1.g.Open), .own 3 (Zn _ x.1.zones) 2, .map 1, .map 2, .map 4, .own 5 (Zn _ x.1.cached) 66, .d (.int .i64 x.1.left_), .d (.bool x.1.down), .d (.int .i64 x.1.illegal)]), (1, .mp false false (Zm _ _ (eI .i64) eB x.1.finished)), (2, .mp true true (Zm _ _ eAt (eA (n := 64) .u8) x.1.safe)), (3, .row (Ze _ eZone x.1.zones) 2 66), (4, .mp true true (Zm _ _ eAt (eA (n := 64) .u8) x.1.now)), (5, .row (Ze _ eDev_write x.1.cached) 66 88)], 6, 102⟩) (fun _ => True) [0, 2] ?_ ?_
        · cbv
          obtain ⟨j22, hj23, h⟩ := jn h
          refine JoinP.mk {x : Int // j22 x = some o11} (fun x => ⟨[(0, .ptr 0 0), (2, .d (.int .i64 v16)), (3, .d (.int .i64 x.1))], [(0, .box [.d (.int .i64 o17.g.Conv), .d (.int .i64 o17.g.Soft), .d (.int .i64 o17.g.Seq), .d (.int .i64 o17.g.Size), .d (.int .i64 o17.g.Open), .own 3 (Zn _ o17.zones) 2, .map 1, .map 2, .map 4, .own 5 (Zn _ o17.cached) 66, .d (.int .i64 o17.left_), .d (.bool o17.down), .d (.int .i64 o17.illegal)]), (1, .mp false false (Zm _ _ (eI .i64) eB o17.finished)), (2, .mp true true (Zm _ _ eAt (eA (n := 64) .u8) o17.safe)), (3, .row (Ze _ eZone o17.zones) 2 66), (4, .mp true true (Zm _ _ eAt (eA (n := 64) .u8) o17.now)), (5, .row (Ze _ eDev_write o17.cached) 66 88)], 6, 102⟩) (fun _ => True) [0, 2, 3] ?_ ?_
          · cbv
            obtain ⟨p25, q24, hp26, hf27, hq28⟩ := bnd_loop h; clear h
            refine LoopB.mk {x : Nat × Int // loopN p25 x.1 x.2 = some q24} (fun x => ⟨[(0, .ptr 0 0), (2, .d (.int .i64 v16)), (3, .d (.int .i64 x.1.2))], [(0, .box [.d (.int .i64 o17.g.Conv), .d (.int .i64 o17.g.Soft), .d (.int .i64 o17.g.Seq), .d (.int .i64 o17.g.Size), .d (.int .i64 o17.g.Open), .own 3 (Zn _ o17.zones) 2, .map 1, .map 2, .map 4, .own 5 (Zn _ o17.cached) 66, .d (.int .i64 o17.left_), .d (.bool o17.down), .d (.int .i64 o17.illegal)]), (1, .mp false false (Zm _ _ (eI .i64) eB o17.finished)), (2, .mp true true (Zm _ _ eAt (eA (n := 64) .u8) o17.safe)), (3, .row (Ze _ eZone o17.zones) 2 66), (4, .mp true true (Zm _ _ eAt (eA (n := 64) .u8) o17.now)), (5, .row (Ze _ eDev_write o17.cached) 66 88)], 6, 102⟩) (fun x => x.1.1) [0, 2, 3] 6 ⟨(FUEL, _), hf27⟩ ⟨[(0, 0), (1, 1), (2, 2), (3, 3), (4, 4), (5, 5)], [], ?_⟩ ?_
            · rfl
            · rintro ⟨⟨N31, v34⟩, hr30⟩; obtain ⟨M32, o29, eN33, h, hr30⟩ := loopN_step hr30; subst eN33; rw [hp26] at h; try dsimp only at h ⊢
              cbv
              revert h; refine zc hJ fun b35 h => ?_; cbv
              cases b35 with
              | true =>
                replace h := cnd_t h; cbv
                obtain ⟨o36, ho36, h⟩ := letv h; obtain ⟨y37, hy37, h⟩ := letv h; obtain ⟨b38, hb38, h⟩ := letv h
                refine zlk hJ hZ eAt_kinds (k := (TAt.mk v16 v34)) rfl (z := z64u8) (by rw [ez64u8]; rfl) (eA_len .u8) ho36 hy37 hb38 (wAr hZ .u8 (by decide) _) ?_
                clear hb38 hy37; cbv
                try rw [rz64u8]
                revert h; refine st_not hJ fun b39 _ h => ?_; cbv
                cases b39 with
                | true =>
                  replace h := cnd_t h; cbv
                  cases h; have h := hq28; obtain rfl := hr30; try dsimp only at h
                  exact ⟨⟨_, h⟩, [(0, 0), (1, 1), (2, 2), (3, 3), (4, 4), (5, 5)], 6, [], rfl, trivial⟩
                | false =>
                  replace h := cnd_f h; cbv
                  revert h; refine zb hJ fun v40 h => ?_; cbv
                  cases h; exact ⟨⟨(M32, _), hr30⟩, [(0, 0), (1, 1), (2, 2), (3, 3), (4, 4), (5, 5)], 6, [], rfl, Nat.lt_succ_self _⟩
              | false =>
                replace h := cnd_f h; cbv
                cases h; have h := hq28; obtain rfl := hr30; try dsimp only at h
                exact ⟨⟨_, h⟩, [(0, 0), (1, 1), (2, 2), (3, 3), (4, 4), (5, 5)], 6, [], rfl, trivial⟩
          · rintro ⟨v24, h⟩ -; rw [hj23] at h; try dsimp only at h ⊢
            cbv
            revert h; refine zpr hJ hZ fun y25 k26 hy27 ho28 h => ?_; cbv
            revert h; refine zs hJ hZ eZone_len hy27 ho28 1 (fun hJ => by subst hJ; rfl) rfl (Nat.le_of_ble_eq_true rfl) (TZone.mk y25.State v24) rfl fun l29 hn30 h => ?_; try rw [hn30]
            clear hn30; cbv
            obtain ⟨o31, ho31, h⟩ := letv h; obtain ⟨y32, hy32, h⟩ := letv h; obtain ⟨b33, hb33, h⟩ := letv h
            refine zlk hJ hZ (eI_kinds .i64) (k := v16) rfl (z := false) (by rfl) eB_len ho31 hy32 hb33 (wB _) ?_
            clear hb33 hy32; cbv
            refine tst h (fun hb34 h => ?_) (fun hb34 h => ?_)
            · cbv
              exact ⟨⟨_, h⟩, [(0, 0), (1, 1), (2, 2), (3, 3), (4, 4), (5, 5)], 6, [], rfl, trivial⟩
            · cbv
              revert h; refine zc hJ fun b35 h => ?_; cbv
              cases b35 with
              | true =>
                replace h := cnd_t h; cbv
                obtain ⟨y36, hy37, h⟩ := bnd h
                revert h; refine zs hJ hZ eZone_len hy37 ho28 0 (fun hJ => by subst hJ; rfl) rfl (Nat.le_of_ble_eq_true rfl) (TZone.mk 0 y36.Point) rfl fun l38 hn39 h => ?_; try rw [hn39]
                clear hn39; cbv
                exact ⟨⟨_, h⟩, [(0, 0), (1, 1), (2, 2), (3, 3), (4, 4), (5, 5)], 6, [], rfl, trivial⟩
              | false =>
                replace h := cnd_f h; cbv
                revert h; refine zc hJ fun b36 h => ?_; cbv
                cases b36 with
                | true =>
                  replace h := cnd_t h; cbv
                  obtain ⟨y37, hy38, h⟩ := bnd h
                  revert h; refine zs hJ hZ eZone_len hy38 ho28 0 (fun hJ => by subst hJ; rfl) rfl (Nat.le_of_ble_eq_true rfl) (TZone.mk 2 y37.Point) rfl fun l39 hn40 h => ?_; try rw [hn40]
                  clear hn40; cbv
                  exact ⟨⟨_, h⟩, [(0, 0), (1, 1), (2, 2), (3, 3), (4, 4), (5, 5)], 6, [], rfl, trivial⟩
                | false =>
                  replace h := cnd_f h; cbv
                  exact ⟨⟨_, h⟩, [(0, 0), (1, 1), (2, 2), (3, 3), (4, 4), (5, 5)], 6, [], rfl, trivial⟩
        · rintro ⟨o22, h⟩ -; rw [hj21] at h; try dsimp only at h ⊢
          cbv
          revert h; refine zb hJ fun v23 h => ?_; cbv
          cases h; exact ⟨⟨(M14, _), hr12⟩, [(0, 0), (1, 1), (2, 2), (3, 3), (4, 4), (5, 5)], 6, [], rfl, Nat.lt_succ_self _⟩
      | false =>
        replace h := cnd_f h; cbv
        cases h; have h := hq10; obtain rfl := hr12; try dsimp only at h
        exact ⟨⟨_, h⟩, [(0, 0), (1, 1), (2, 2), (3, 3), (4, 4), (5, 5)], 6, [], rfl, trivial⟩
  · rintro ⟨o6, h⟩ -; rw [hj5] at h; try dsimp only at h ⊢
    cbv
    refine callM_by hP (s61 true true _) [(2, 0)] false hJ rfl rfl rfl rfl rfl (.inl rfl) ?_; cbv
    cases h
    exact ⟨_, .refl _, [], _, _, [(0, 0), (1, 1), (2, 2), (3, 6), (11, 7)], _, rfl, rfl, rfl, rfl, rfl, rfl⟩
end Go.AX
