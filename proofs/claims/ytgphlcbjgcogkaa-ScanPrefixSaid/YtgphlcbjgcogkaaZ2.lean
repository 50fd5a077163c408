/- Typed words: arrays, copies, maps. -/
import Derived.Test.YtgphlcbjgcogkaaZ1
namespace Go.AX
set_option linter.unusedSectionVars false
set_option autoImplicit false
set_option linter.unusedVariables false
set_option linter.unusedSimpArgs false
/-- What a load of a whole element tells. -/
structure LdW {α : Type} (g : α → List D) (ls : List Leaf) (agg : Bool) (y : α) (v : V) : Prop where
  h : ∃ vs, Mat ls (g y) vs ∧ asVal agg vs = some v
theorem LdW.lds {α : Type} {g : α → List D} {k : Nat} (hk : ∀ a, (g a).length = k) {ls : List Leaf} {agg : Bool} {y : α} {v : V} (h : LdW g ls agg y v) : LdS g k 0 ls agg y v := by
  obtain ⟨vs, h1, h2⟩ := h.h
  exact ⟨g y, vs, by rw [hk]; omega, by rw [List.drop_zero, List.take_length], h1, h2⟩
theorem LdW.rdv {α : Type} {g : α → List D} {ls : List Leaf} {agg : Bool} {y : α} {v : V} (h : LdW g ls agg y v) {k : Nat} (hk : ∀ a, (g a).length = k) (hl : leavesSize ls = k) {ds : List D} (hd : g y = ds) : RdV agg ds v := by
  obtain ⟨vs, h1, h2⟩ := h.h
  subst hd
  exact rdV_mat h1 (by rw [hl, hk]) h2
section
variable {Ze : ZeT} {Zn : ZnT} {Za : ZaT} {Zb : ZbT} {Zm : ZmT}
theorem wI (k : IntKind) (y : Int) : LdW (eI k) [.int k] false y (.d (.int k y)) := ⟨_, .int .nil, rfl⟩
theorem wB (y : Bool) : LdW eB [.bool] false y (.d (.bool y)) := ⟨_, .bool .nil, rfl⟩
theorem wL (hZ : ZS Ze Zn Za Zb Zm) {α : Type} (g : α → List D) (k : Nat) (y : List α) : LdW (eL g) [.slc k] false y (.d (.lst (Ze _ g y) (Zn _ y))) := by
  obtain ⟨rfl, rfl, rfl, rfl, rfl⟩ := hZ; exact ⟨_, .slc .nil, rfl⟩
theorem wAr (hZ : ZS Ze Zn Za Zb Zm) (k : IntKind) {m : Nat} (hm : 0 < m) (y : Ar m) : LdW (eA k) [.big m k] true y (.agg [.big m (Za k _ y)]) := by
  obtain ⟨rfl, rfl, rfl, rfl, rfl⟩ := hZ
  refine ⟨[.big m (encL (eI k) y.l)], ?_, rfl⟩
  have := Mat.big (n := m) (k := k) (l := encL (eI k) y.l) ⟨eA_len _ _, hm⟩ .nil
  rwa [List.append_nil] at this
variable {J : PF} (hJ : J = stdJ) {R : Type} {r : R} {K : Res → Prop}
/-- A step whose result stands as it should. -/
theorem zok {v : V} {wr : List (Nat × Blk)} {dn : Nat} {s : Prop} (hs : s) (nx : K ⟨v, wr, dn, True⟩) : OpP (some ⟨v, wr, dn, s⟩) K := ⟨_, _, _, ⟨_, rfl, hs⟩, nx⟩
include hJ
theorem zrep (hZ : ZS Ze Zn Za Zb Zm) (n : Nat) (k : IntKind) {a : Ar n} (h : a = Ar.zero n) : J .rep n (.int k 0) = Za k _ a := by rw [h, isA hZ]; exact rep_z hJ n k
theorem zrepB (hZ : ZS Ze Zn Za Zb Zm) (n : Nat) {a : Ar n} (h : a = Ar.zero n) : J .rep n (.bool false) = Zb _ a := by rw [h, isB hZ]; exact rep_zB hJ n
theorem zset (hZ : ZS Ze Zn Za Zb Zm) {k : IntKind} {m : Nat} {A B : Ar m} {q : Nat} {i v : Int} (ho : q = i.toNat) (hB : B = Ar.put A i v) : J .set (Za k _ A) (J .idx 0 q 1) (.int k v) = Za k _ B :=
  set_put hJ (isA hZ k A) ho hB (isA hZ k B)
theorem zsetB (hZ : ZS Ze Zn Za Zb Zm) {m : Nat} {A B : Ar m} {q : Nat} {i : Int} {b : Bool} (ho : q = i.toNat) (hB : B = Ar.put A i (b2i b)) : J .set (Zb _ A) (J .idx 0 q 1) (.bool b) = Zb _ B :=
  set_putB hJ (isB hZ A) ho hB (isB hZ B)
theorem zset1 (hZ : ZS Ze Zn Za Zb Zm) {k : IntKind} {m : Nat} {A B : Ar m} {i : Nat} {v : Int} (hB : B = Ar.put A (i : Int) v) : J .set (Za k _ A) i (.int k v) = Za k _ B := by
  rw [isA hZ k B, hB]; exact set_ar hJ (isA hZ k A) i v
theorem zsetB1 (hZ : ZS Ze Zn Za Zb Zm) {m : Nat} {A B : Ar m} {i : Nat} {b : Bool} (hB : B = Ar.put A (i : Int) (b2i b)) : J .set (Zb _ A) i (.bool b) = Zb _ B := by
  rw [isB hZ B, hB]; exact set_arB hJ (isB hZ A) i b
theorem zcpP (hZ : ZS Ze Zn Za Zb Zm) {kk : IntKind} {n : Nat} {A A' : Ar n} {DS : List D} {off len : Nat} (hle : off + len ≤ n) {m : Nat} {M : List Int} (hM : DS = encL (eI kk) M) (hm : m = M.length) (hA : A' = Ar.cpAt A off len M) {v : Int} (hv : v = copyN len M) :
    J .over (Za kk _ A) off (J .take DS (J .mulNat (J .minN m len) 1)) = Za kk _ A' ∧ J .ofNat (J .minN m len) = v :=
  cpP_facts hJ (isA hZ kk A) hle (fun _ => hM) hm hA (isA hZ kk A') hv

theorem zlk (hZ : ZS Ze Zn Za Zb Zm) {α β : Type} {f : α → List D} {g : β → List D} {kk : List (Option IntKind)} {te : TI} (hk : ∀ a, ofKinds kk (f a)) {m : List (α × β)} {k : α} {ks : List D} (hks : ks = f k) {z : β} (hz : plain std (zeroL std te.leaves) = some (g z)) (hsz : ∀ a, (g a).length = te.size)
    {ck : Bool} {n : Nat} {o : Option β} {v : β} {b : Bool} (ho : o = gGet f m k) (hv : v = o.getD z) (hb : b = o.isSome) {x : V} (s : LdW g te.leaves te.agg v x)
    (nx : K ⟨bif ck then .tup [x, .d (.bool b)] else x, [], 0, True⟩) : MpP (.lk kk te (Zm _ _ f g m) ks ck) n K := by
  obtain ⟨l, h1, h2⟩ := s.h
  exact st_lk hJ hk (isM hZ f g m) hks hz hsz ho hv hb rfl h1 h2 nx
theorem zmu (hZ : ZS Ze Zn Za Zb Zm) {α β : Type} {f : α → List D} {g : β → List D} {kk : List (Option IntKind)} (hk : ∀ a, ofKinds kk (f a)) {m : List (α × β)} {k : α} {ks ds : List D} (hks : ks = f k) {v : β} (hds : ds = g v) {id n : Nat} {ka va : Bool} {c : List (α × β) → Option R}
    (nx : ∀ m', c m' = some r → K ⟨.tup [], [(id, .mp ka va (Zm _ _ f g m'))], 0, True⟩) (h : Let (gSet f m k v) c = some r) : MpP (.up kk id ka va (Zm _ _ f g m) ks ds) n K :=
  st_up hJ hk (isM hZ f g m) hks (fun _ => hds) (fun es' m' h1 h2 => by rw [h1, ← isM hZ]; exact nx m' h2) h
theorem zmd (hZ : ZS Ze Zn Za Zb Zm) {α β : Type} {f : α → List D} {g : β → List D} {kk : List (Option IntKind)} (hk : ∀ a, ofKinds kk (f a)) {m : List (α × β)} {k : α} {ks : List D} (hks : ks = f k) {id n : Nat} {ka va : Bool} {c : List (α × β) → Option R}
    (nx : ∀ m', c m' = some r → K ⟨.tup [], [(id, .mp ka va (Zm _ _ f g m'))], 0, True⟩) (h : Let (gDel f m k) c = some r) : MpP (.del kk id ka va (Zm _ _ f g m) ks) n K :=
  st_del hJ hk (isM hZ f g m) hks (fun es' m' h1 h2 => by rw [h1, ← isM hZ]; exact nx m' h2) h
theorem zmm (hZ : ZS Ze Zn Za Zb Zm) {α β : Type} {f : α → List D} {g : β → List D} {ka va : Bool} {n : Nat} (nx : K ⟨.map n, [(n, .mp ka va (Zm _ _ f g []))], 1, True⟩) : MpP (.mk ka va) n K :=
  st_mkm hJ (by rw [hZ.m0] at nx; exact nx)
end
section
variable {Ze : ZeT} {Zn : ZnT} {Za : ZaT} {Zb : ZbT} {Zm : ZmT}
/-- An array's whole slice, handed over as a list. -/
theorem specA (hZ : ZS Ze Zn Za Zb Zm) {P : Program} {g : FuncId} {k : IntKind} {m : Nat} {a : Ar m} (pre : List V) {t : List V} {r : Res} (h : Spec P g (pre ++ .d (.lst (Ze _ (eI k) a.l) (Zn _ a.l)) :: t) r) : Spec P g (pre ++ .d (.lst (Za k _ a) m) :: t) r := by
  have e1 : Za k _ a = Ze _ (eI k) a.l := by obtain ⟨rfl, rfl, rfl, rfl, rfl⟩ := hZ; rfl
  have e2 : m = Zn _ a.l := by rw [hZ.len, a.h]
  rw [e1]
  rw [← e2] at h
  exact h
theorem specMA (hZ : ZS Ze Zn Za Zb Zm) {P : Program} {g : FuncId} {zz : Nat} {aw : List (Nat × Blk)} {k : IntKind} {m : Nat} {a : Ar m} (pre : List V) {t : List V} {r : Res} (h : SpecM P g zz aw (pre ++ .d (.lst (Ze _ (eI k) a.l) (Zn _ a.l)) :: t) r) : SpecM P g zz aw (pre ++ .d (.lst (Za k _ a) m) :: t) r := by
  have e1 : Za k _ a = Ze _ (eI k) a.l := by obtain ⟨rfl, rfl, rfl, rfl, rfl⟩ := hZ; rfl
  have e2 : m = Zn _ a.l := by rw [hZ.len, a.h]
  rw [e1]
  rw [← e2] at h
  exact h
end
end Go.AX
