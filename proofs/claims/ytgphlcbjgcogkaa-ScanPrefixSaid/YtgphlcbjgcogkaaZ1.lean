/- Typed words: lists, arrays, maps as they stand in memory, closed to evaluation; each step with its result in these words. -/
import Derived.Test.YtgphlcbjgcogkaaBT
import Derived.Test.YtgphlcbjgcogkaaBP
import Derived.Test.YtgphlcbjgcogkaaBB
namespace Go.AX
set_option linter.unusedSectionVars false
set_option autoImplicit false
set_option linter.unusedVariables false
set_option linter.unusedSimpArgs false

abbrev ZeT := (α : Type) → (α → List D) → List α → List D
abbrev ZnT := (α : Type) → List α → Nat
abbrev ZaT := (k : IntKind) → (m : Nat) → Ar m → List D
abbrev ZbT := (m : Nat) → Ar m → List D
abbrev ZmT := (α β : Type) → (α → List D) → (β → List D) → List (α × β) → List (List D × List D)
structure ZS (Ze : ZeT) (Zn : ZnT) (Za : ZaT) (Zb : ZbT) (Zm : ZmT) : Prop where
  he : Ze = fun _ f l => encL f l
  hn : Zn = fun _ l => l.length
  ha : Za = fun k _ a => encL (eI k) a.l
  hb : Zb = fun _ a => encL eBo a.l
  hm : Zm = fun _ _ f g m => encM f g m
theorem zstd : ZS (fun _ f l => encL f l) (fun _ l => l.length) (fun k _ a => encL (eI k) a.l) (fun _ a => encL eBo a.l) (fun _ _ f g m => encM f g m) := ⟨rfl, rfl, rfl, rfl, rfl⟩

section
variable {Ze : ZeT} {Zn : ZnT} {Za : ZaT} {Zb : ZbT} {Zm : ZmT}
theorem isL (hZ : ZS Ze Zn Za Zb Zm) {α : Type} (g : α → List D) (l : List α) : IsL g (Ze _ g l) (Zn _ l) l := by
  obtain ⟨rfl, rfl, rfl, rfl, rfl⟩ := hZ; exact ⟨rfl, rfl⟩
theorem isQ (hZ : ZS Ze Zn Za Zb Zm) {α : Type} {g : α → List D} {cs : List D} {n : Nat} {l : List α} (h : IsL g cs n l) : cs = Ze _ g l ∧ n = Zn _ l := by
  obtain ⟨rfl, rfl, rfl, rfl, rfl⟩ := hZ; exact ⟨h.cs, h.n⟩
theorem ZS.e0 (hZ : ZS Ze Zn Za Zb Zm) {α : Type} (g : α → List D) : Ze _ g [] = [] := by rw [hZ.he]; rfl
theorem ZS.n0 (hZ : ZS Ze Zn Za Zb Zm) {α : Type} : Zn α [] = 0 := by rw [hZ.hn]; rfl
theorem ZS.len (hZ : ZS Ze Zn Za Zb Zm) {α : Type} (l : List α) : Zn _ l = l.length := by rw [hZ.hn]
theorem ZS.neq (hZ : ZS Ze Zn Za Zb Zm) {α β : Type} {l : List α} {m : List β} {u : Unit} (h : lenq l m = some u) : Zn _ m = Zn _ l := by
  rw [hZ.hn]
  unfold lenq at h
  cases hb : l.length == m.length with
  | true => exact (eq_of_beq hb).symm
  | false => rw [hb] at h; cases h
theorem isA (hZ : ZS Ze Zn Za Zb Zm) (k : IntKind) {m : Nat} (a : Ar m) : Za k _ a = encL (eI k) a.l := by rw [hZ.ha]
theorem isB (hZ : ZS Ze Zn Za Zb Zm) {m : Nat} (a : Ar m) : Zb _ a = encL eBo a.l := by rw [hZ.hb]
theorem isM (hZ : ZS Ze Zn Za Zb Zm) {α β : Type} (f : α → List D) (g : β → List D) (m : List (α × β)) : Zm _ _ f g m = encM f g m := by rw [hZ.hm]
theorem ZS.m0 (hZ : ZS Ze Zn Za Zb Zm) {α β : Type} (f : α → List D) (g : β → List D) : Zm _ _ f g [] = [] := by rw [hZ.hm]; rfl
theorem leZ (hZ : ZS Ze Zn Za Zb Zm) {α : Type} {g : α → List D} {s t : List V} (h : LeV s t) : LeV (.d .nils :: s) (.d (.lst (Ze _ g []) (Zn α [])) :: t) := by
  rw [hZ.e0, hZ.n0]; exact .nil h

/-- What a load of a part of an element tells. -/
structure LdS {α : Type} (g : α → List D) (k j : Nat) (ls : List Leaf) (agg : Bool) (y : α) (v : V) : Prop where
  h : ∃ ds vs, j + ds.length ≤ k ∧ ((g y).drop j).take ds.length = ds ∧ Mat ls ds vs ∧ asVal agg vs = some v
theorem ldI (k : IntKind) (y : Int) : LdS (eI k) 1 0 [.int k] false y (.d (.int k y)) := ⟨[.int k y], _, Nat.le_refl _, rfl, .int .nil, rfl⟩
theorem ldB (y : Bool) : LdS eB 1 0 [.bool] false y (.d (.bool y)) := ⟨[.bool y], _, Nat.le_refl _, rfl, .bool .nil, rfl⟩
theorem ldL (hZ : ZS Ze Zn Za Zb Zm) {α : Type} (g : α → List D) (k : Nat) (y : List α) : LdS (eL g) 1 0 [.slc k] false y (.d (.lst (Ze _ g y) (Zn _ y))) := by
  obtain ⟨rfl, rfl, rfl, rfl, rfl⟩ := hZ; exact ⟨[.lst (encL g y) y.length], _, Nat.le_refl _, rfl, .slc .nil, rfl⟩

variable {J : PF} (hJ : J = stdJ) {R : Type} {r : R} {K : Res → Prop}
/-- A test. -/
abbrev Tst2 (b : Bool) (A B : Prop) : Prop := match b with | true => A | false => B
theorem tst {b : Bool} {A B : Prop} {x y : Option R} (h : (bif b then x else y) = some r) (ht : b = true → x = some r → A) (hf : b = false → y = some r → B) : Tst2 b A B := by
  cases b with
  | true => exact ht rfl h
  | false => exact hf rfl h
theorem tstT {b : Bool} {A B : Prop} {x : Option R} (hb : b = true) (h : (bif b then x else none) = some r) (ht : x = some r → A) : Tst2 b A B := by
  subst hb; exact ht h
theorem tstF {b : Bool} {A B : Prop} {y : Option R} (hb : b = false) (h : (bif b then none else y) = some r) (hf : y = some r → B) : Tst2 b A B := by
  subst hb; exact hf h
include hJ
theorem zb {op : BinOp} {k : IntKind} {a b : Int} {f : Int → Option R} (nx : ∀ v, f v = some r → K ⟨.d (.int k v), [], 0, True⟩) (h : Let (binI op k a b) f = some r) :
    OpP (some ⟨.d (.int k (J .bin op k a b)), [], 0, True⟩) K := st_bin hJ (fun v _ h => nx v h) h
theorem zq {op : BinOp} {k : IntKind} {a b : Int} {f : Int → Option R} (nx : ∀ v, f v = some r → K ⟨.d (.int k v), [], 0, True⟩) (h : Bnd (nz? b) (fun _ => Let (binI op k a b) f) = some r) :
    OpP (some ⟨.d (.int k (J .bin op k a b)), [], 0, J .nz b⟩) K := st_div hJ (fun v _ _ h => nx v h) h
theorem zsh {op : BinOp} {k : IntKind} {a b : Int} {f : Int → Option R} (nx : ∀ v, f v = some r → K ⟨.d (.int k v), [], 0, True⟩) (h : Bnd (sh? b) (fun _ => Let (binI op k a b) f) = some r) :
    OpP (some ⟨.d (.int k (J .bin op k a b)), [], 0, J .inR 0 b 18446744073709551616⟩) K := st_sh hJ (fun v _ h => nx v h) h
theorem zc {op : BinOp} {a b : Int} {f : Bool → Option R} (nx : ∀ v, f v = some r → K ⟨.d (.bool v), [], 0, True⟩) (h : Let (cmpI op a b) f = some r) :
    OpP (some ⟨.d (.bool (J .cmp op a b)), [], 0, True⟩) K := st_cmp hJ (fun v _ h => nx v h) h
theorem zw {k : IntKind} {a : Int} {f : Int → Option R} (nx : ∀ v, f v = some r → K ⟨.d (.int k v), [], 0, True⟩) (h : Let (k.wrap a) f = some r) :
    OpP (some ⟨.d (.int k (J .wrap k a)), [], 0, True⟩) K := st_conv hJ (fun v _ h => nx v h) h
theorem zln (hZ : ZS Ze Zn Za Zb Zm) {α : Type} {L : List α} {f : Int → Option R} (nx : ∀ v, f v = some r → K ⟨.d (.int .i64 v), [], 0, True⟩) (h : Let (ln L) f = some r) :
    OpP (some ⟨.d (.int .i64 (J .ofNat (Zn _ L))), [], 0, True⟩) K := st_lenP hJ (hZ.len L) (fun v _ h => nx v h) h
theorem zlp (hZ : ZS Ze Zn Za Zb Zm) {α : Type} {g : α → List D} {k : Nat} {L : List α} {i : Int} {f : α → Option R} (nx : ∀ y o, at? L i = some y → o = i.toNat * k → f y = some r → K ⟨.lp (Ze _ g L) o, [], 0, True⟩) (h : Bnd (at? L i) f = some r) :
    OpP (some ⟨.lp (Ze _ g L) (J .idx 0 (J .toNat i) k), [], 0, J .inR 0 i (Zn _ L)⟩) K := st_idx_lp hJ (isL hZ g L) nx h
theorem zpr (hZ : ZS Ze Zn Za Zb Zm) {α : Type} {k id : Nat} {L : List α} {i : Int} {f : α → Option R} (nx : ∀ y o, at? L i = some y → o = i.toNat * k → f y = some r → K ⟨.pr id o, [], 0, True⟩) (h : Bnd (at? L i) f = some r) :
    OpP (some ⟨.pr id (J .idx 0 (J .toNat i) k), [], 0, J .inR 0 i (Zn _ L)⟩) K := st_idx_pr hJ (g := fun _ => []) (isL hZ _ L) nx h
theorem zpx {id s m : Nat} {A : Ar m} {i : Int} {f : Int → Option R} (nx : ∀ y q, at? A.l i = some y → q = i.toNat → f y = some r → K ⟨.px id s m 1 q 0, [], 0, True⟩) (h : Bnd (at? A.l i) f = some r) :
    OpP (some ⟨.px id s m 1 (J .toNat i) 0, [], 0, J .inR 0 i m⟩) K := st_idx_px hJ (Ar.h A) nx h
theorem zpx3 {id s : Nat} {A : A3} {i : Int} {f : Int → Option R} (nx : ∀ y q, at? (A3.l A) i = some y → q = i.toNat → f y = some r → K ⟨.px id s 3 1 q 0, [], 0, True⟩) (h : Bnd (at? (A3.l A) i) f = some r) :
    OpP (some ⟨.px id s 3 1 (J .toNat i) 0, [], 0, J .inR 0 i 3⟩) K := st_idx_px hJ (L := A3.l A) rfl nx h
theorem zix (hZ : ZS Ze Zn Za Zb Zm) {kk : IntKind} {m : Nat} {A : Ar m} {i : Int} {f : Int → Option R} (nx : ∀ y, f y = some r → K ⟨.d (.int kk y), [], 0, True⟩) (h : Bnd (at? A.l i) f = some r) :
    OpP (some ⟨.d (.int kk (J .rdI (Za kk _ A) (J .add (J .idx 0 (J .toNat i) 1) 0))), [], 0, J .inR 0 i m ∧ J .has (Za kk _ A) (J .add (J .idx 0 (J .toNat i) 1) 0) (.int kk (J .rdI (Za kk _ A) (J .add (J .idx 0 (J .toNat i) 1) 0))) ∧ True⟩) K :=
  st_index hJ (isA hZ kk A) (Ar.h A) (fun y _ h => nx y h) h
theorem zix3 {kk : IntKind} {A : A3} {cs : List D} (hc : cs = encL (eI kk) (A3.l A)) {i : Int} {f : Int → Option R} (nx : ∀ y, f y = some r → K ⟨.d (.int kk y), [], 0, True⟩) (h : Bnd (at? (A3.l A) i) f = some r) :
    OpP (some ⟨.d (.int kk (J .rdI cs (J .add (J .idx 0 (J .toNat i) 1) 0))), [], 0, J .inR 0 i 3 ∧ J .has cs (J .add (J .idx 0 (J .toNat i) 1) 0) (.int kk (J .rdI cs (J .add (J .idx 0 (J .toNat i) 1) 0))) ∧ True⟩) K :=
  st_index hJ (L := A3.l A) hc rfl (fun y _ h => nx y h) h
/-- A load of an element's part. -/
theorem zl (hZ : ZS Ze Zn Za Zb Zm) {agg : Bool} {ls : List Leaf} {K : V → Prop} {α : Type} {g : α → List D} {k j : Nat} (hk : ∀ a, (g a).length = k) {L : List α} {i : Int} {y : α} (hy : at? L i = some y) {o off : Nat} (ho : o = i.toNat * k) (hoff : J = stdJ → off = o + j) {v : V}
    (s : LdS g k j ls agg y v) (nx : K v) : LdP (mkI J) agg ls (Ze _ g L) off K := by
  obtain ⟨ds, vs, h1, h2, h3, h4⟩ := s.h
  exact st_ld hJ hk (isL hZ g L) hy ho j hoff ds h1 h2 h3 h4 nx
theorem zlA (hZ : ZS Ze Zn Za Zb Zm) {kk : IntKind} {K : V → Prop} {m : Nat} {A : Ar m} {i y : Int} (hy : at? A.l i = some y) {q off : Nat} (hq : q = i.toNat) (hoff : J = stdJ → off = q) (k : K (.d (.int kk y))) : LdP (mkI J) false [.int kk] (Za kk _ A) off K :=
  st_ldA hJ (isA hZ kk A) hy hq hoff k
theorem zlA3 {kk : IntKind} {K : V → Prop} {A : A3} {cs : List D} (hc : cs = encL (eI kk) (A3.l A)) {i y : Int} (hy : at? (A3.l A) i = some y) {q off : Nat} (hq : q = i.toNat) (hoff : J = stdJ → off = q) (k : K (.d (.int kk y))) : LdP (mkI J) false [.int kk] cs off K :=
  st_ldA hJ (L := A3.l A) hc hy hq hoff k
theorem zlAB (hZ : ZS Ze Zn Za Zb Zm) {K : V → Prop} {m : Nat} {A : Ar m} {i y : Int} (hy : at? A.l i = some y) {q off : Nat} (hq : q = i.toNat) (hoff : J = stdJ → off = q) (k : K (.d (.bool (decide (y = 1))))) : LdP (mkI J) false [.bool] (Zb _ A) off K :=
  st_ldAB hJ (isB hZ A) hy hq hoff k
theorem zs (hZ : ZS Ze Zn Za Zb Zm) {K : List D → Prop} {α : Type} {g : α → List D} {k : Nat} (hk : ∀ a, (g a).length = k) {L : List α} {i : Int} {y : α} (hy : at? L i = some y) {o off : Nat} (ho : o = i.toNat * k) (j : Nat) (hoff : J = stdJ → off = o + j) {ds : List D} {size : Nat} (hsz : ds.length = size) (hj : j + size ≤ k) (z : α) (hz : setAll std (g y) j ds 0 = g z)
    {f : List α → Option R} (nx : ∀ L', Zn _ L = Zn _ L' → f L' = some r → K (Ze _ g L')) (h : Let (set' L i z) f = some r) : StP (mkI J) (Ze _ g L) off ds size K :=
  st_st hJ hk (isL hZ g L) hy ho j hoff hsz hj z hz (fun cs' L' h1 h2 => by
    obtain ⟨e1, e2⟩ := isQ hZ h1
    rw [e1]; exact nx L' e2 h2) h
theorem zmk (hZ : ZS Ze Zn Za Zb Zm) {α : Type} {g : α → List D} {k b : Nat} {z : α} {zd : List D} (hz : J = stdJ → zd = g z) {a : Int} {N : Nat} {e : TypeId} {f : List α → Option R}
    (nx : ∀ L', f L' = some r → K ⟨.own N (Zn _ L') k, [(N, .row (Ze _ g L') k e)], 1, True⟩) (h : Bnd (mk? b z a a) f = some r) :
    OpP (some ⟨.own N (J .toNat a) k, [(N, .row (J .repL (J .toNat a) zd) k e)], 1, J .inR 0 a (Nat.succ (J .toNat a)) ∧ J .inR 0 a 4611686018427387905 ∧ J .leN (J .mulNat (J .toNat a) b) 140737488355328⟩) K :=
  st_mk hJ (hz hJ).symm (fun cs' n' L' h1 h2 => by
    obtain ⟨e1, e2⟩ := isQ hZ h1
    rw [e1, e2]; exact nx L' h2) h
theorem zap0 (hZ : ZS Ze Zn Za Zb Zm) {α : Type} {g : α → List D} {k b : Nat} (hk : ∀ a, (g a).length = k) {M : List α} {N : Nat} {e : TypeId} {f : List α → Option R}
    (nx : ∀ L', f L' = some r → K ⟨.own N (Zn _ L') k, [(N, .row (Ze _ g L') k e)], 1, True⟩) (h : Bnd (app? b [] M) f = some r) :
    OpP (some ⟨.own N (Zn _ M) k, [(N, .row (J .take (Ze _ g M) (J .mulNat (Zn _ M) k)) k e)], 1, J .leN (J .mulNat (Zn _ M) k) (J .len (Ze _ g M)) ∧ J .leN (J .mulNat (Zn _ M) b) 140737488355328 ∧ J .leN (Zn _ M) 4611686018427387904⟩) K :=
  st_app0 hJ hk (isL hZ g M) (fun cs' n' L' h1 h2 => by
    obtain ⟨e1, e2⟩ := isQ hZ h1
    rw [e1, e2]; exact nx L' h2) h
theorem zap (hZ : ZS Ze Zn Za Zb Zm) {α : Type} {g : α → List D} {k b : Nat} (hk : ∀ a, (g a).length = k) {L M : List α} {N id : Nat} {e : TypeId} {f : List α → Option R}
    (nx : ∀ L', f L' = some r → K ⟨.own N (Zn _ L') k, [(N, .row (Ze _ g L') k e), (id, .dead)], 1, True⟩) (h : Bnd (app? b L M) f = some r) :
    OpP (some ⟨.own N (J .add (Zn _ L) (Zn _ M)) k, [(N, .row (J .app (J .take (Ze _ g L) (J .mulNat (Zn _ L) k)) (J .take (Ze _ g M) (J .mulNat (Zn _ M) k))) k e), (id, .dead)], 1, J .leN (J .mulNat (Zn _ M) k) (J .len (Ze _ g M)) ∧ J .leN (J .mulNat (Zn _ L) k) (J .len (Ze _ g L)) ∧ J .leN (J .mulNat (J .add (Zn _ L) (Zn _ M)) b) 140737488355328 ∧ J .leN (J .add (Zn _ L) (Zn _ M)) 4611686018427387904⟩) K :=
  st_app hJ hk (isL hZ g L) (isL hZ g M) (fun cs' n' L' h1 h2 => by
    obtain ⟨e1, e2⟩ := isQ hZ h1
    rw [e1, e2]; exact nx L' h2) h
/-- A slice that is built of told elements. -/
theorem zbs (hZ : ZS Ze Zn Za Zb Zm) {α : Type} {g : α → List D} {k n : Nat} {cs : List D} {L : List α} (hc : IsL g cs n L) {N : Nat} {e : TypeId} {s : Prop} (hs : s) (nx : K ⟨.own N (Zn _ L) k, [(N, .row (Ze _ g L) k e)], 1, True⟩) :
    OpP (some ⟨.own N n k, [(N, .row cs k e)], 1, s⟩) K := by
  obtain ⟨rfl, rfl⟩ := isQ hZ hc
  exact ⟨_, _, _, ⟨_, rfl, hs⟩, nx⟩
theorem zfr (hZ : ZS Ze Zn Za Zb Zm) {α : Type} {g : α → List D} {k : Nat} (hk : ∀ a, (g a).length = k) {L : List α} {a : Int} {f : List α → Option R}
    (nx : ∀ L', f L' = some r → K ⟨.d (.lst (Ze _ g L') (Zn _ L')), [], 0, True⟩) (h : Bnd (from? L a) f = some r) :
    OpP (some ⟨.d (.lst (J .drop (Ze _ g L) (J .mulNat (J .toNat a) k)) (J .sub (Zn _ L) (J .toNat a))), [], 0, J .inR 0 a (Nat.succ (Zn _ L))⟩) K :=
  st_from hJ hk (isL hZ g L) (fun cs' n' L' h1 h2 => by
    obtain ⟨e1, e2⟩ := isQ hZ h1
    rw [e1, e2]; exact nx L' h2) h
theorem zup (hZ : ZS Ze Zn Za Zb Zm) {α : Type} {g : α → List D} {k : Nat} (hk : ∀ a, (g a).length = k) {L : List α} {a : Int} {f : List α → Option R}
    (nx : ∀ L', f L' = some r → K ⟨.d (.lst (Ze _ g L') (Zn _ L')), [], 0, True⟩) (h : Bnd (upto? L a) f = some r) :
    OpP (some ⟨.d (.lst (J .take (Ze _ g L) (J .mulNat (J .toNat a) k)) (J .toNat a)), [], 0, J .inR 0 a (Nat.succ (Zn _ L))⟩) K :=
  st_upto hJ hk (isL hZ g L) (fun cs' n' L' h1 h2 => by
    obtain ⟨e1, e2⟩ := isQ hZ h1
    rw [e1, e2]; exact nx L' h2) h
theorem zsb (hZ : ZS Ze Zn Za Zb Zm) {α : Type} {g : α → List D} {k : Nat} (hk : ∀ a, (g a).length = k) {L : List α} {a b : Int} {f : List α → Option R}
    (nx : ∀ L', f L' = some r → K ⟨.d (.lst (Ze _ g L') (Zn _ L')), [], 0, True⟩) (h : Bnd (sub? L a b) f = some r) :
    OpP (some ⟨.d (.lst (J .take (J .drop (Ze _ g L) (J .mulNat (J .toNat a) k)) (J .mulNat (J .sub (J .toNat b) (J .toNat a)) k)) (J .sub (J .toNat b) (J .toNat a))), [], 0, J .inR 0 a (Nat.succ (J .toNat b)) ∧ J .inR 0 b (Nat.succ (Zn _ L))⟩) K :=
  st_sub hJ hk (isL hZ g L) (fun cs' n' L' h1 h2 => by
    obtain ⟨e1, e2⟩ := isQ hZ h1
    rw [e1, e2]; exact nx L' h2) h
end
end Go.AX
