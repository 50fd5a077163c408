/- What functions of the program compute: each is what its Lean function says. -/
import Derived.Test.YthecmjmlkoomiaaRS1
import Derived.Test.YthecmjmlkoomiaaRS20
namespace Go.AX
open Go.Proofs
set_option autoImplicit false
set_option linter.unusedVariables false
set_option maxRecDepth 100000
set_option maxHeartbeats 100000000
set_option linter.unusedSimpArgs false

theorem s65 {v1 : Int} {v2 : Int} {v3 : Int} {v4 : Int} {v5 : Int} {l6 : List TZone} {c7 : List D} {n8 : Nat} {v10 : Int} {v11 : Int} (hl9 : IsL eZone c7 n8 l6) {l12 : List TZone} {c13 : List D} {n14 : Nat} {v16 : Int} (hl15 : IsL eZone c13 n14 l12) (h : m_zone_Write (TGeom.mk v1 v2 v3 v4 v5) l6 (TAt.mk v10 v11) = some (l12, v16)) : Spec Try.prog 65 [.agg [.d (.int .i64 v1), .d (.int .i64 v2), .d (.int .i64 v3), .d (.int .i64 v4), .d (.int .i64 v5)], .d (.lst c7 n8), .agg [.d (.int .i64 v10), .d (.int .i64 v11)]] ⟨.tup [.own 0 n14 2, .d (.int .i64 v16)], [(0, .row c13 2 53)], 1, True⟩ := by
  refine spec_b [26] Try.func65 rfl rfl rfl fun J P hJ hP => ?_
  dsimp only [m_zone_Write] at h
  cbv
  obtain ⟨l20, h19, h⟩ := bnd h
  obtain ⟨c21, n22, hl23⟩ := nameL eZone l20
  refine call_by hP (s57 hl9 hl23 h19) hJ rfl rfl ?_
  cbv
  obtain ⟨b26, h25, h⟩ := bnd h
  refine call_by hP (s90 h25) hJ rfl rfl ?_
  cbv
  revert h
  refine st_not hJ fun b27 eb27 h => ?_
  cbv
  cases b27 with
  | true =>
    replace h := cnd_t h
    cbv
    cases h
    obtain ⟨rfl, rfl⟩ := IsL.uniq hl15 hl23
    exact ⟨_, .refl _, [], _, _, [(7, 0)], _, rfl, rfl, rfl, rfl, rfl, rfl⟩
  | false =>
    replace h := cnd_f h
    cbv
    revert h
    refine st_idx_pr hJ hl23 fun y28 k29 hy30 ho31 h => ?_
    obtain ⟨v32, v33⟩ := y28
    try dsimp only at h
    cbv
    obtain ⟨j35, hj36, h⟩ := jn h
    refine JoinP.mk ({x : Unit // j35 () = some (l12, v16)}) (fun x => ⟨[(3, .ptr 0 0), (8, .own 1 n22 2), (9, .pr 1 k29)], [(0, .box [.d (.int .i64 v1), .d (.int .i64 v2), .d (.int .i64 v3), .d (.int .i64 v4), .d (.int .i64 v5)]), (1, .row c21 2 53)], 2, 79⟩) (fun _ => True) [3, 8, 9] ?_ ?_
    · cbv
      refine st_ld hJ eZone_len hl23 hy30 ho31 0 (fun hJ => by subst hJ; rfl) ([.int .i64 v32]) (Nat.le_of_ble_eq_true rfl) rfl (.int .nil) rfl ?_
      cbv
      revert h
      refine st_cmp hJ fun b37 eb37 h => ?_
      cbv
      cases b37 with
      | true =>
        replace h := cnd_t h
        cbv
        cases h
        obtain ⟨rfl, rfl⟩ := IsL.uniq hl15 hl23
        exact ⟨_, .refl _, [], _, _, [(7, 0)], _, rfl, rfl, rfl, rfl, rfl, rfl⟩
      | false =>
        replace h := cnd_f h
        cbv
        refine st_ld hJ eZone_len hl23 hy30 ho31 0 (fun hJ => by subst hJ; rfl) ([.int .i64 v32]) (Nat.le_of_ble_eq_true rfl) rfl (.int .nil) rfl ?_
        cbv
        revert h
        refine st_cmp hJ fun b38 eb38 h => ?_
        cbv
        cases b38 with
        | true =>
          replace h := cnd_t h
          cbv
          cases h
          obtain ⟨rfl, rfl⟩ := IsL.uniq hl15 hl23
          exact ⟨_, .refl _, [], _, _, [(7, 0)], _, rfl, rfl, rfl, rfl, rfl, rfl⟩
        | false =>
          replace h := cnd_f h
          cbv
          refine st_ld hJ eZone_len hl23 hy30 ho31 1 (fun hJ => by subst hJ; rfl) ([.int .i64 v33]) (Nat.le_of_ble_eq_true rfl) rfl (.int .nil) rfl ?_
          cbv
          revert h
          refine st_cmp hJ fun b39 eb39 h => ?_
          cbv
          refine ⟨fun _ => by kernel_rfl, ?_⟩
          cbv
          cases b39 with
          | true =>
            replace h := cnd_t h
            cbv
            cases h
            obtain ⟨rfl, rfl⟩ := IsL.uniq hl15 hl23
            exact ⟨_, .refl _, [], _, _, [(7, 0)], _, rfl, rfl, rfl, rfl, rfl, rfl⟩
          | false =>
            replace h := cnd_f h
            cbv
            refine st_ld hJ eZone_len hl23 hy30 ho31 0 (fun hJ => by subst hJ; rfl) ([.int .i64 v32]) (Nat.le_of_ble_eq_true rfl) rfl (.int .nil) rfl ?_
            cbv
            revert h
            refine st_cmp hJ fun b40 eb40 h => ?_
            cbv
            cases b40 with
            | true =>
              replace h := cnd_t h
              cbv
              obtain ⟨v43, h42, h⟩ := bnd h
              refine call_by hP (s91 hl9 h42) hJ rfl rfl ?_
              cbv
              revert h
              refine st_cmp hJ fun b44 eb44 h => ?_
              cbv
              refine ⟨fun _ => by kernel_rfl, ?_⟩
              cbv
              cases b44 with
              | true =>
                replace h := cnd_t h
                cbv
                cases h
                obtain ⟨rfl, rfl⟩ := IsL.uniq hl15 hl23
                exact ⟨_, .refl _, [], _, _, [(7, 0)], _, rfl, rfl, rfl, rfl, rfl, rfl⟩
              | false =>
                replace h := cnd_f h
                cbv
                exact ⟨⟨(), h⟩, [(0, 0), (7, 1)], 2, [], rfl, trivial⟩
            | false =>
              replace h := cnd_f h
              cbv
              refine ⟨fun _ => by kernel_rfl, ?_⟩
              cbv
              exact ⟨⟨(), h⟩, [(0, 0), (7, 1)], 2, [], rfl, trivial⟩
    · rintro ⟨_, h⟩ -
      rw [hj36] at h
      try dsimp only at h ⊢
      cbv
      revert h
      refine st_st hJ eZone_len hl23 hy30 ho31 0 (fun hJ => by subst hJ; rfl) rfl (Nat.le_of_ble_eq_true rfl) (TZone.mk 1 v33) rfl fun c38 l37 hl39 h => ?_
      cbv
      obtain ⟨y40, hy41, h⟩ := bnd h
      obtain ⟨v42, v43⟩ := y40
      try dsimp only at h
      refine st_ld hJ eZone_len hl39 hy41 ho31 1 (fun hJ => by subst hJ; rfl) ([.int .i64 v43]) (Nat.le_of_ble_eq_true rfl) rfl (.int .nil) rfl ?_
      cbv
      revert h
      refine st_bin hJ fun v44 ev44 h => ?_
      cbv
      obtain ⟨y45, hy46, h⟩ := bnd h
      obtain ⟨v47, v48⟩ := y45
      try dsimp only at h
      revert h
      refine st_st hJ eZone_len hl39 hy46 ho31 1 (fun hJ => by subst hJ; rfl) rfl (Nat.le_of_ble_eq_true rfl) (TZone.mk v47 v44) rfl fun c50 l49 hl51 h => ?_
      cbv
      obtain ⟨y52, hy53, h⟩ := bnd h
      obtain ⟨v54, v55⟩ := y52
      try dsimp only at h
      refine st_ld hJ eZone_len hl51 hy53 ho31 1 (fun hJ => by subst hJ; rfl) ([.int .i64 v55]) (Nat.le_of_ble_eq_true rfl) rfl (.int .nil) rfl ?_
      cbv
      revert h
      refine st_cmp hJ fun b56 eb56 h => ?_
      cbv
      refine ⟨fun _ => by kernel_rfl, ?_⟩
      cbv
      cases b56 with
      | true =>
        replace h := cnd_t h
        cbv
        obtain ⟨y57, hy58, h⟩ := bnd h
        obtain ⟨v59, v60⟩ := y57
        try dsimp only at h
        revert h
        refine st_st hJ eZone_len hl51 hy58 ho31 0 (fun hJ => by subst hJ; rfl) rfl (Nat.le_of_ble_eq_true rfl) (TZone.mk 3 v60) rfl fun c62 l61 hl63 h => ?_
        cbv
        cases h
        obtain ⟨rfl, rfl⟩ := IsL.uniq hl15 hl63
        exact ⟨_, .refl _, [], _, _, [(1, 0)], _, rfl, rfl, rfl, rfl, rfl, rfl⟩
      | false =>
        replace h := cnd_f h
        cbv
        cases h
        obtain ⟨rfl, rfl⟩ := IsL.uniq hl15 hl51
        exact ⟨_, .refl _, [], _, _, [(1, 0)], _, rfl, rfl, rfl, rfl, rfl, rfl⟩
end Go.AX
