/- Arrays of bools, as arrays of noughts and ones. -/
import Derived.Test.YtgphlcbjgcogkaaBP
namespace Go.AX
set_option autoImplicit false
set_option linter.unusedVariables false
set_option linter.unusedSimpArgs false
def eBo (x : Int) : List D := [.bool (decide (x = 1))]
def b2i (b : Bool) : Int := bif b then 1 else 0
theorem b2i_one (b : Bool) : decide (b2i b = 1) = b := by cases b <;> rfl
theorem eBo_len (x : Int) : (eBo x).length = 1 := rfl
theorem encBo_map (l : List Int) : encL eBo l = l.map fun x => D.bool (decide (x = 1)) := by
  unfold encL eBo
  induction l with
  | nil => rfl
  | cons x t ih => simp [ih]
theorem nameB {m : Nat} (A : Ar m) : ∃ cs, cs = encL eBo A.l := ⟨_, rfl⟩
theorem eBo_arr {n : Nat} (a : Ar n) : (encL eBo a.l).length = n := by rw [encBo_map, List.length_map, a.h]
theorem rep_zB {J : PF} (hJ : J = stdJ) (n : Nat) : J .rep n (.bool false) = encL eBo (Ar.zero n).l := by
  subst hJ
  rw [encBo_map]
  show List.replicate n (D.bool false) = (List.replicate n (0 : Int)).map _
  rw [List.map_replicate]; rfl
theorem set_putB {J : PF} (hJ : J = stdJ) {m : Nat} {A B : Ar m} {ds ds' : List D} (hd : ds = encL eBo A.l) {q : Nat} {i : Int} {b : Bool} (ho : q = i.toNat) (hB : B = Ar.put A i (b2i b)) (hd' : ds' = encL eBo B.l) : J .set ds (J .idx 0 q 1) (.bool b) = ds' := by
  subst hJ hd hd' hB ho
  show (encL eBo A.l).set (0 + i.toNat * 1) (.bool b) = encL eBo (A.l.set i.toNat (b2i b))
  rw [Nat.zero_add, Nat.mul_one, encBo_map, encBo_map, List.map_set, b2i_one]
theorem set_arB {J : PF} (hJ : J = stdJ) {n : Nat} {a : Ar n} {ds : List D} (h : ds = encL eBo a.l) (i : Nat) (b : Bool) : J .set ds i (.bool b) = encL eBo (Ar.put a (i : Int) (b2i b)).l := by
  subst hJ
  rw [j_set rfl, h, encBo_map, encBo_map]
  unfold Ar.put
  simp [List.map_set, b2i_one]
theorem st_ldAB {J : PF} (hJ : J = stdJ) {K : V → Prop} {cs : List D} {L : List Int} (hL : cs = encL eBo L) {i : Int} {y : Int} (hy : at? L i = some y) {q off : Nat} (hq : q = i.toNat) (hoff : J = stdJ → off = q)
    (k : K (.d (.bool (decide (y = 1))))) : LdP (mkI J) false [.bool] cs off K := by
  refine ⟨[.d (.bool (decide (y = 1)))], _, ?_, rfl, k⟩
  rw [hoff hJ, mkI_std hJ, hq, hL]
  refine mat_rd (.bool .nil : Mat [.bool] [.bool (decide (y = 1))] _) 0 fun p hp => ?_
  have : p = 0 := by simpa using hp
  subst this
  unfold at? at hy
  split at hy
  · simp only [encBo_map, Nat.add_zero, List.getElem?_map, hy]; rfl
  · cases hy
end Go.AX
