/- What functions of the program compute: each is what its Lean function says. -/
import Derived.Test.YtegcfbmleimcfaaTK
import Derived.Test.YtegcfbmleimcfaaTS12
import Derived.Test.YtegcfbmleimcfaaTS6
import Derived.Test.YtegcfbmleimcfaaTS9
namespace Go.AX
open Go.Proofs
set_option autoImplicit false
set_option linter.unusedVariables false
set_option maxRecDepth 100000
set_option maxHeartbeats 100000000
set_option linter.unusedSimpArgs false

theorem s24 {v1 : Int} {l2 : List TTrans} {c3 : List D} {n4 : Nat} {v6 : Int} {v7 : Int} {l8 : List TWrite} {c9 : List D} {n10 : Nat} (hl5 : IsL eTrans c3 n4 l2) (hl11 : IsL eWrite c9 n10 l8) {v12 : Int} {l13 : List TTrans} {c14 : List D} {n15 : Nat} (hl16 : IsL eTrans c14 n15 l13) (h : m_trans_Set (TLedger.mk v1 l2) (TTrans.mk v6 v7 l8) = some (TLedger.mk v12 l13)) : Spec Try.prog 24 [.agg [.d (.int .i64 v1), .d (.lst c3 n4)], .agg [.d (.int .i64 v6), .d (.int .i64 v7), .d (.lst c9 n10)]] ⟨.agg [.d (.int .i64 v12), .own 0 n15 3], [(0, .row c14 3 24)], 1, True⟩ := by
  refine spec_b [] Try.func24 rfl rfl rfl fun J P hJ hP => ?_
  dsimp only [m_trans_Set] at h
  cbv
  obtain ⟨⟨v20, l21⟩, h19, h⟩ := bnd h
  obtain ⟨c22, n23, hl24⟩ := nameL eTrans l21
  try dsimp only at h
  refine call_by hP (s31 hl5 hl24 h19) hJ rfl rfl ?_
  cbv
  obtain ⟨⟨v27, b28⟩, h26, h⟩ := bnd h
  try dsimp only at h
  refine snap_by hP (s32 hl24 h26) hJ (by cbv) rfl ⟨⟨trivial, ⟨trivial, trivial⟩⟩, trivial⟩ ?_
  cbv
  cases b28 with
  | true =>
    replace h := cnd_t h
    cbv
    obtain ⟨⟨v31, v32, l33⟩, h30, h⟩ := bnd h
    obtain ⟨c34, n35, hl36⟩ := nameL eWrite l33
    try dsimp only at h
    refine call_by hP (Spec.frozen (s29 hl11 hl36 h30) rfl) hJ rfl rfl ?_
    cbv
    revert h
    refine st_idx_pr hJ hl24 fun y37 k38 hy39 ho40 h => ?_
    obtain ⟨v41, v42, l43⟩ := y37
    obtain ⟨c44, n45, hl46⟩ := nameL eWrite l43
    try dsimp only at h
    cbv
    revert h
    refine st_st hJ eTrans_len hl24 hy39 ho40 0 (fun hJ => by subst hJ; rfl) rfl (Nat.le_of_ble_eq_true rfl) (TTrans.mk v31 v32 l33) (by rw [hl36.cs, hl36.n]; rfl) fun c48 l47 hl49 h => ?_
    cbv
    refine ⟨fun _ => by kernel_rfl, ?_⟩
    cbv
    cases h
    obtain ⟨rfl, rfl⟩ := IsL.uniq hl16 hl49
    exact ⟨_, .refl _, [], _, _, [(7, 0)], _, rfl, rfl, rfl, rfl, rfl, rfl⟩
  | false =>
    replace h := cnd_f h
    cbv
    cases h
    obtain ⟨rfl, rfl⟩ := IsL.uniq hl16 hl24
    exact ⟨_, .refl _, [], _, _, [(7, 0)], _, rfl, rfl, rfl, rfl, rfl, rfl⟩
theorem s22 {v1 : Int} {l2 : List TTrans} {c3 : List D} {n4 : Nat} {v6 : Int} (hl5 : IsL eTrans c3 n4 l2) {v7 : Int} {l8 : List TTrans} {c9 : List D} {n10 : Nat} {v12 : Int} (hl11 : IsL eTrans c9 n10 l8) (h : m_trans_Drop (TLedger.mk v1 l2) v6 = some ((TLedger.mk v7 l8), v12)) : Spec Try.prog 22 [.agg [.d (.int .i64 v1), .d (.lst c3 n4)], .d (.int .i64 v6)] ⟨.tup [.agg [.d (.int .i64 v7), .own 0 n10 3], .d (.int .i64 v12)], [(0, .row c9 3 24)], 1, True⟩ := by
  refine spec_b [] Try.func22 rfl rfl rfl fun J P hJ hP => ?_
  dsimp only [m_trans_Drop] at h
  cbv
  obtain ⟨⟨v16, l17⟩, h15, h⟩ := bnd h
  obtain ⟨c18, n19, hl20⟩ := nameL eTrans l17
  try dsimp only at h
  refine call_by hP (s31 hl5 hl20 h15) hJ rfl rfl ?_
  cbv
  obtain ⟨⟨v23, b24⟩, h22, h⟩ := bnd h
  try dsimp only at h
  refine snap_by hP (s32 hl20 h22) hJ (by cbv) rfl ⟨⟨trivial, ⟨trivial, trivial⟩⟩, trivial⟩ ?_
  cbv
  revert h
  refine st_not hJ fun b25 eb25 h => ?_
  cbv
  cases b25 with
  | true =>
    replace h := cnd_t h
    cbv
    cases h
    obtain ⟨rfl, rfl⟩ := IsL.uniq hl11 hl20
    exact ⟨_, .refl _, [], _, _, [(6, 0)], _, rfl, rfl, rfl, rfl, rfl, rfl⟩
  | false =>
    replace h := cnd_f h
    cbv
    revert h
    refine st_bin hJ fun v26 ev26 h => ?_
    cbv
    obtain ⟨l27, hx31, h⟩ := bnd h
    obtain ⟨c28, n29, hl30⟩ := nameL eTrans l27
    refine callM_by hP (dele33 hl20 hl30 hx31) [(6, 0)] false hJ rfl rfl rfl rfl rfl (.inl rfl) ?_
    cbv
    cases h
    obtain ⟨rfl, rfl⟩ := IsL.uniq hl11 hl30
    exact ⟨_, .refl _, [], _, _, [(26, 0)], _, rfl, rfl, rfl, rfl, rfl, rfl⟩
end Go.AX
