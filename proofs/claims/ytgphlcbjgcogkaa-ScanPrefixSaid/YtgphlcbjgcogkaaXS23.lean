/- What functions of the program compute: each is what its Lean function says. -/
import Derived.Test.YtgphlcbjgcogkaaXS10
import Derived.Test.YtgphlcbjgcogkaaXS18
namespace Go.AX
open Go.Proofs
set_option linter.unusedVariables false
set_option maxRecDepth 100000
set_option maxHeartbeats 100000000
set_option linter.unusedSimpArgs false
set_option autoImplicit true
set_option relaxedAutoImplicit true
variable {Ze : ZeT} {Zn : ZnT} {Za : ZaT} {Zb : ZbT} {Zm : ZmT}

theorem s19 (hZ : ZS Ze Zn Za Zb Zm)  (h : m___dev_Device__Crash x1 o0 = some z0) : SpecM Try.prog 19 6 [(0, .box [.d (.int .i64 o0.g.Conv), .d (.int .i64 o0.g.Soft), .d (.int .i64 o0.g.Seq), .d (.int .i64 o0.g.Size), .d (.int .i64 o0.g.Open), .own 3 (Zn _ o0.zones) 2, .map 1, .map 2, .map 4, .own 5 (Zn _ o0.cached) 66, .d (.int .i64 o0.left_), .d (.bool o0.down), .d (.int .i64 o0.illegal)]), (1, .mp false false (Zm _ _ (eI .i64) eB o0.finished)), (2, .mp true true (Zm _ _ eAt (eA (n := 64) .u8) o0.safe)), (3, .row (Ze _ eZone o0.zones) 2 66), (4, .mp true true (Zm _ _ eAt (eA (n := 64) .u8) o0.now)), (5, .row (Ze _ eDev_write o0.cached) 66 88)] [.ptr 0 0, .agg [.d (.lst (Ze _ (eI .i64) x1.Keep) (Zn _ x1.Keep)), .d (.int .u64 x1.Soft), .d (.int .i64 x1.Tear)]] ⟨.tup [], [(0, .box [.d (.int .i64 z0.g.Conv), .d (.int .i64 z0.g.Soft), .d (.int .i64 z0.g.Seq), .d (.int .i64 z0.g.Size), .d (.int .i64 z0.g.Open), .own 6 (Zn _ z0.zones) 2, .map 1, .map 2, .map 7, .d .nils, .d (.int .i64 z0.left_), .d (.bool z0.down), .d (.int .i64 z0.illegal)]), (1, .mp false false (Zm _ _ (eI .i64) eB z0.finished)), (2, .mp true true (Zm _ _ eAt (eA (n := 64) .u8) z0.safe)), (6, .row (Ze _ eZone z0.zones) 2 66), (7, .mp true true (Zm _ _ eAt (eA (n := 64) .u8) z0.now)), (5, .dead), (4, .dead), (3, .dead)], 2, True⟩ := by
  refine specM_b [36, 26, 32] 3 6 Try.func19 rfl rfl rfl rfl rfl rfl fun J P hJ hP => ?_
  dsimp only [m___dev_Device__Crash] at h
  cbv
  obtain ⟨z64u8, ez64u8, h⟩ := letv h; have rz64u8 := zrep hJ hZ 64 .u8 ez64u8
  refine zmm hJ hZ (f := (eI .i64)) (g := (eI .i64)) ?_; cbv
  obtain ⟨j2, hj3, h⟩ := jn h
  refine JoinP.mk {x : TDev_Device // j2 x = some z0} (fun x => ⟨[(0, .ptr 0 0)], [(0, .box [.d (.int .i64 x.1.g.Conv), .d (.int .i64 x.1.g.Soft), .d (.int .i64 x.1.g.Seq), .d (.int .i64 x.1.g.Size), .d (.int .i64 x.1.g.Open), .own 3 (Zn _ x.1.zones) 2, .map 1, .map 2, .map 4, .own 5 (Zn _ x.1.cached) 66, .d (.int .i64 x.1.left_), .d (.bool x.1.down), .d (.int .i64 x.1.illegal)]), (1, .mp false false (Zm _ _ (eI .i64) eB x.1.finished)), (2, .mp true true (Zm _ _ eAt (eA (n := 64) .u8) x.1.safe)), (3, .row (Ze _ eZone x.1.zones) 2 66), (4, .mp true true (Zm _ _ eAt (eA (n := 64) .u8) x.1.now)), (5, .row (Ze _ eDev_write x.1.cached) 66 88)], 6, 97⟩) (fun _ => True) [0] ?_ ?_
  · cbv
    revert h; refine zln hJ hZ fun v4 h => ?_; cbv
    obtain ⟨p6, q5, hp7, hf8, hq9⟩ := bnd_loop h; clear h
    refine LoopB.mk {x : Nat × Int × Int × TDev_Device × (List (Int × Int)) // loopN p6 x.1 x.2 = some q5} (fun x => ⟨[(0, .ptr 0 0), (3, .ptr 3 0), (4, .map 4), (5, .d (.int .i64 x.1.2.1)), (15, .own 5 (Zn _ x.1.2.2.2.1.cached) 66), (16, .d (.int .i64 v4)), (17, .d (.int .i64 x.1.2.2.1))], [(0, .box [.d (.int .i64 x.1.2.2.2.1.g.Conv), .d (.int .i64 x.1.2.2.2.1.g.Soft), .d (.int .i64 x.1.2.2.2.1.g.Seq), .d (.int .i64 x.1.2.2.2.1.g.Size), .d (.int .i64 x.1.2.2.2.1.g.Open), .own 6 (Zn _ x.1.2.2.2.1.zones) 2, .map 1, .map 2, .map 7, .own 5 (Zn _ x.1.2.2.2.1.cached) 66, .d (.int .i64 x.1.2.2.2.1.left_), .d (.bool x.1.2.2.2.1.down), .d (.int .i64 x.1.2.2.2.1.illegal)]), (1, .mp false false (Zm _ _ (eI .i64) eB x.1.2.2.2.1.finished)), (2, .mp true true (Zm _ _ eAt (eA (n := 64) .u8) x.1.2.2.2.1.safe)), (3, .box [.d (.lst (Ze _ (eI .i64) x1.Keep) (Zn _ x1.Keep)), .d (.int .u64 x1.Soft), .d (.int .i64 x1.Tear)]), (4, .mp false false (Zm _ _ (eI .i64) (eI .i64) x.1.2.2.2.2)), (5, .row (Ze _ eDev_write x.1.2.2.2.1.cached) 66 88), (6, .row (Ze _ eZone x.1.2.2.2.1.zones) 2 66), (7, .mp true true (Zm _ _ eAt (eA (n := 64) .u8) x.1.2.2.2.1.now))], 8, 97⟩) (fun x => x.1.1) [0, 3, 4, 5, 15, 16, 17] 8 ⟨(FUEL, _), hf8⟩ ⟨[(0, 0), (1, 1), (2, 2), (6, 3), (8, 4), (5, 5), (3, 6), (4, 7)], [], ?_⟩ ?_
    · rfl
    · rintro ⟨⟨N12, ⟨v15, v16, o17, m18⟩⟩, hr11⟩; obtain ⟨M13, o10, eN14, h, hr11⟩ := loopN_step hr11; subst eN14; rw [hp7] at h; try dsimp only at h ⊢
      cbv
      revert h; refine zc hJ fun b19 h => ?_; cbv
      cases b19 with
      | true =>
        replace h := cnd_t h; cbv
        revert h; refine zpr hJ hZ fun y20 k21 hy22 ho23 h => ?_; cbv
        refine zl hJ hZ eDev_write_len hy22 ho23 (fun hJ => by subst hJ; rfl) (LdW.lds eDev_write_len (w_eDev_write hZ _)) ?_; cbv
        try rw [rz64u8]
        obtain ⟨j24, hj25, h⟩ := jn h
        refine JoinP.mk {x : Int × Bool × Bool × (List (Int × Int)) // j24 x = some o10} (fun x => ⟨[(0, .ptr 0 0), (3, .ptr 3 0), (4, .map 4), (5, .d (.int .i64 x.1.1)), (6, .d (.int .i64 v16)), (7, .ptr 5 0), (9, .d (.bool x.1.2.1)), (10, .d (.bool x.1.2.2.1)), (15, .own 6 (Zn _ o17.cached) 66), (16, .d (.int .i64 v4)), (17, .d (.int .i64 v16))], [(0, .box [.d (.int .i64 o17.g.Conv), .d (.int .i64 o17.g.Soft), .d (.int .i64 o17.g.Seq), .d (.int .i64 o17.g.Size), .d (.int .i64 o17.g.Open), .own 7 (Zn _ o17.zones) 2, .map 1, .map 2, .map 8, .own 6 (Zn _ o17.cached) 66, .d (.int .i64 o17.left_), .d (.bool o17.down), .d (.int .i64 o17.illegal)]), (1, .mp false false (Zm _ _ (eI .i64) eB o17.finished)), (2, .mp true true (Zm _ _ eAt (eA (n := 64) .u8) o17.safe)), (3, .box [.d (.lst (Ze _ (eI .i64) x1.Keep) (Zn _ x1.Keep)), .d (.int .u64 x1.Soft), .d (.int .i64 x1.Tear)]), (4, .mp false false (Zm _ _ (eI .i64) (eI .i64) x.1.2.2.2)), (5, .box [.d (.int .i64 y20.at_.Zone), .d (.int .i64 y20.at_.Off), .big 64 (Za .u8 _ y20.page)]), (6, .row (Ze _ eDev_write o17.cached) 66 88), (7, .row (Ze _ eZone o17.zones) 2 66), (8, .mp true true (Zm _ _ eAt (eA (n := 64) .u8) o17.now))], 9, 97⟩) (fun _ => True) [0, 3, 4, 5, 6, 7, 9, 10, 15, 16, 17] ?_ ?_
        · cbv
          revert h; refine zc hJ fun b26 h => ?_; cbv
          cases b26 with
          | true =>
            replace h := cnd_t h; cbv
            revert h; refine zq hJ fun v27 h => ?_; cbv
            revert h; refine zw hJ fun v28 h => ?_; cbv
            revert h; refine zsh hJ fun v29 h => ?_; cbv
            revert h; refine zb hJ fun v30 h => ?_; cbv
            revert h; refine zc hJ fun b31 h => ?_; cbv
            revert h; refine zb hJ fun v32 h => ?_; cbv
            exact ⟨⟨_, h⟩, [(0, 0), (1, 1), (2, 2), (3, 3), (4, 4), (12, 5), (5, 6), (6, 7), (7, 8)], 9, [], rfl, trivial⟩
          | false =>
            replace h := cnd_f h; cbv
            obtain ⟨o27, ho27, h⟩ := letv h; obtain ⟨y28, hy28, h⟩ := letv h; obtain ⟨b29, hb29, h⟩ := letv h
            refine zlk hJ hZ (eI_kinds .i64) (k := y20.at_.Zone) rfl (z := 0) (by rfl) (eI_len .i64) ho27 hy28 hb29 (wI .i64 _) ?_
            clear hb29 hy28; cbv
            obtain ⟨v31, h30, h⟩ := bnd h
            refine callM_by hP (s35 hZ h30) [(0, 0), (6, 1), (1, 2), (2, 3), (7, 4), (5, 5)] false hJ rfl rfl rfl rfl rfl (.inl rfl) ?_; cbv
            revert h; refine zc hJ fun b32 h => ?_; cbv
            obtain ⟨o33, ho33, h⟩ := letv h; obtain ⟨y34, hy34, h⟩ := letv h; obtain ⟨b35, hb35, h⟩ := letv h
            refine zlk hJ hZ (eI_kinds .i64) (k := y20.at_.Zone) rfl (z := 0) (by rfl) (eI_len .i64) ho33 hy34 hb35 (wI .i64 _) ?_
            clear hb35 hy34; cbv
            obtain ⟨v37, h36, h⟩ := bnd h
            refine callM_by hP (s35 hZ h36) [(0, 0), (6, 1), (1, 2), (2, 3), (7, 4), (5, 5)] false hJ rfl rfl rfl rfl rfl (.inl rfl) ?_; cbv
            revert h; refine zc hJ fun b38 h => ?_; cbv
            refine ⟨fun _ => by kernel_rfl, ?_⟩; cbv
            obtain ⟨o39, ho39, h⟩ := letv h; obtain ⟨y40, hy40, h⟩ := letv h; obtain ⟨b41, hb41, h⟩ := letv h
            refine zlk hJ hZ (eI_kinds .i64) (k := y20.at_.Zone) rfl (z := 0) (by rfl) (eI_len .i64) ho39 hy40 hb41 (wI .i64 _) ?_
            clear hb41 hy40; cbv
            revert h; refine zb hJ fun v42 h => ?_; cbv
            revert h; refine zmu hJ hZ (eI_kinds .i64) (k := y20.at_.Zone) rfl (v := v42) (by rfl) fun m43 h => ?_; cbv
            exact ⟨⟨_, h⟩, [(0, 0), (1, 1), (2, 2), (3, 3), (4, 4), (12, 5), (5, 6), (6, 7), (7, 8)], 9, [], rfl, trivial⟩
        · rintro ⟨⟨v26, b27, b28, m29⟩, h⟩ -; rw [hj25] at h; try dsimp only at h ⊢
          cbv
          cases b27 with
          | true =>
            replace h := cnd_t h; cbv
            revert h; refine zmu hJ hZ eAt_kinds (k := y20.at_) rfl (v := y20.page) (by obtain ⟨rfl, rfl, rfl, rfl, rfl⟩ := hZ; subst hJ; first | done | rfl | simp [stdJ, std, eA, eA, encL, eI]) fun m30 h => ?_; cbv
            refine ⟨fun _ => by kernel_rfl, ?_⟩; cbv
            revert h; refine zb hJ fun v31 h => ?_; cbv
            cases h; exact ⟨⟨(M13, _), hr11⟩, [(0, 0), (1, 1), (2, 2), (3, 3), (4, 4), (6, 5), (7, 6), (8, 7)], 8, [], rfl, Nat.lt_succ_self _⟩
          | false =>
            replace h := cnd_f h; cbv
            obtain ⟨j30, hj31, h⟩ := jn h
            refine JoinP.mk {x : Bool // j30 x = some o10} (fun x => ⟨[(0, .ptr 0 0), (3, .ptr 3 0), (4, .map 4), (5, .d (.int .i64 v26)), (7, .ptr 5 0), (15, .own 6 (Zn _ o17.cached) 66), (16, .d (.int .i64 v4)), (17, .d (.int .i64 v16)), (72, .d (.bool x.1))], [(0, .box [.d (.int .i64 o17.g.Conv), .d (.int .i64 o17.g.Soft), .d (.int .i64 o17.g.Seq), .d (.int .i64 o17.g.Size), .d (.int .i64 o17.g.Open), .own 7 (Zn _ o17.zones) 2, .map 1, .map 2, .map 8, .own 6 (Zn _ o17.cached) 66, .d (.int .i64 o17.left_), .d (.bool o17.down), .d (.int .i64 o17.illegal)]), (1, .mp false false (Zm _ _ (eI .i64) eB o17.finished)), (2, .mp true true (Zm _ _ eAt (eA (n := 64) .u8) o17.safe)), (3, .box [.d (.lst (Ze _ (eI .i64) x1.Keep) (Zn _ x1.Keep)), .d (.int .u64 x1.Soft), .d (.int .i64 x1.Tear)]), (4, .mp false false (Zm _ _ (eI .i64) (eI .i64) m29)), (5, .box [.d (.int .i64 y20.at_.Zone), .d (.int .i64 y20.at_.Off), .big 64 (Za .u8 _ y20.page)]), (6, .row (Ze _ eDev_write o17.cached) 66 88), (7, .row (Ze _ eZone o17.zones) 2 66), (8, .mp true true (Zm _ _ eAt (eA (n := 64) .u8) o17.now))], 9, 97⟩) (fun _ => True) [0, 3, 4, 5, 7, 15, 16, 17, 72] ?_ ?_
            · cbv
              revert h; refine zln hJ hZ fun v32 h => ?_; cbv
              revert h; refine zb hJ fun v33 h => ?_; cbv
              revert h; refine zc hJ fun b34 h => ?_; cbv
              cases b34 with
              | true =>
                replace h := cnd_t h; cbv
                cases b28 with
                | true =>
                  replace h := cnd_t h; cbv
                  revert h; refine zc hJ fun b35 h => ?_; cbv
                  exact ⟨⟨_, h⟩, [(0, 0), (1, 1), (2, 2), (3, 3), (4, 4), (5, 5), (6, 6), (7, 7), (8, 8)], 9, [], rfl, trivial⟩
                | false =>
                  replace h := cnd_f h; cbv
                  exact ⟨⟨_, h⟩, [(0, 0), (1, 1), (2, 2), (3, 3), (4, 4), (5, 5), (6, 6), (7, 7), (8, 8)], 9, [], rfl, trivial⟩
              | false =>
                replace h := cnd_f h; cbv
                exact ⟨⟨_, h⟩, [(0, 0), (1, 1), (2, 2), (3, 3), (4, 4), (5, 5), (6, 6), (7, 7), (8, 8)], 9, [], rfl, trivial⟩
            · rintro ⟨b32, h⟩ -; rw [hj31] at h; try dsimp only at h ⊢
              cbv
              cases b32 with
              | true =>
                replace h := cnd_t h; cbv
                obtain ⟨o34, h33, h⟩ := bnd h
                obtain ⟨_, h36, h⟩ := bnd h
                refine callM_by hP (s36 hZ h33) [(0, 0), (7, 1), (1, 2), (2, 3), (8, 4), (6, 5)] false hJ rfl rfl rfl rfl rfl (.inl rfl) ?_; try rw [hZ.neq h36]; cbv
                revert h; refine zb hJ fun v35 h => ?_; cbv
                cases h; exact ⟨⟨(M13, _), hr11⟩, [(0, 0), (1, 1), (2, 2), (3, 3), (4, 4), (6, 5), (7, 6), (8, 7)], 8, [], rfl, Nat.lt_succ_self _⟩
              | false =>
                replace h := cnd_f h; cbv
                revert h; refine zb hJ fun v33 h => ?_; cbv
                cases h; exact ⟨⟨(M13, _), hr11⟩, [(0, 0), (1, 1), (2, 2), (3, 3), (4, 4), (6, 5), (7, 6), (8, 7)], 8, [], rfl, Nat.lt_succ_self _⟩
      | false =>
        replace h := cnd_f h; cbv
        cases h; have h := hq9; obtain rfl := hr11; try dsimp only at h
        exact ⟨⟨_, h⟩, [(0, 0), (1, 1), (2, 2), (6, 3), (7, 4), (5, 5)], 6, [], rfl, trivial⟩
  · rintro ⟨o4, h⟩ -; rw [hj3] at h; try dsimp only at h ⊢
    cbv
    obtain ⟨o6, h5, h⟩ := bnd h
    refine callM_by hP (s37 hZ h5) [(0, 0), (1, 1), (2, 2), (3, 3), (4, 4), (5, 5)] false hJ rfl rfl rfl rfl rfl (.inl rfl) ?_; cbv
    cases h
    exact ⟨_, .refl _, [], _, _, [(0, 0), (1, 1), (2, 2), (7, 6), (8, 7)], _, rfl, rfl, rfl, rfl, rfl, rfl⟩
end Go.AX
