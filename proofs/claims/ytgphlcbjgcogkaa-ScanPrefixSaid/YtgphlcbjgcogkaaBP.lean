/- Copies into and out of parts of great arrays. -/
import Derived.Test.YtgphlcbjgcogkaaKc
namespace Go.AX
set_option autoImplicit false
set_option linter.unusedVariables false
set_option linter.unusedSimpArgs false
/-- An array, others laid over it from a place on. -/
def Ar.cpAt {n : Nat} (a : Ar n) (off len : Nat) (m : List Int) : Ar n := if h : off + len ≤ n then ⟨copyL a.l off len m, by rw [copyL_len (by rw [a.h]; omega), a.h]⟩ else a
theorem cpP_facts {J : PF} (hJ : J = stdJ) {kk : IntKind} {n : Nat} {A A' : Ar n} {d d' DS : List D} (hd : d = encL (eI kk) A.l) {off len : Nat} (hle : off + len ≤ n) {m : Nat} {M : List Int} (hM : J = stdJ → DS = encL (eI kk) M) (hm : m = M.length)
    (hA : A' = Ar.cpAt A off len M) (hd' : d' = encL (eI kk) A'.l) {v : Int} (hv : v = copyN len M) :
    J .over d off (J .take DS (J .mulNat (J .minN m len) 1)) = d' ∧ J .ofNat (J .minN m len) = v := by
  have hM' := hM hJ
  clear hM
  subst hJ
  refine ⟨?_, ?_⟩
  · rw [hd', hA]
    unfold Ar.cpAt
    rw [dif_pos hle, hM', hd]
    show std.over (encL (eI kk) A.l) off ((encL (eI kk) M).take (Nat.min m len * 1)) = _
    rw [encL_take (eI_len kk), hm]
    have := enc_over (eI_len kk) A.l (M.take (Nat.min M.length len)) off
    rw [Nat.mul_one] at this
    exact this
  · rw [hv, hm]; rfl
theorem srcP {J : PF} (hJ : J = stdJ) {kk : IntKind} {n : Nat} {A : Ar n} {d : List D} (hd : d = encL (eI kk) A.l) (off len : Nat) : J .take (J .drop d off) (J .mulNat len 1) = encL (eI kk) ((A.l.drop off).take len) := by
  subst hJ
  show (d.drop off).take (len * 1) = _
  have h1 := encL_drop (f := eI kk) (eI_len kk) A.l off
  rw [Nat.mul_one] at h1
  rw [hd, h1, encL_take (eI_len kk)]
theorem lenP {n : Nat} (A : Ar n) {off len : Nat} (h : off + len ≤ n) : len = ((A.l.drop off).take len).length := by
  rw [List.length_take, List.length_drop, A.h]; omega
end Go.AX
