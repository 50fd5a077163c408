/- The executor, anew: what an operation comes to is told by the proof; tests part; joins. The executor, anew: code. Words of which functions are told, and how each step of the executor meets its word. Words and steps: rows that grow, that are made, that are cut; calls. Calls: rows that are answered, as lists; parts of arrays; shifts. What a law is handed, as data. Calls that may write to blocks that they are handed. Words and steps: maps; structs with arrays, compared; arrays in rows. maps.Clone: what it does in the machine, and in the executor's words. Plain lemmas about the models' words. -/
import Derived.Deep.Slices
import Derived.OpenShut
import Derived.Carry
import Derived.ProofKit
import Derived.WalkKit
import Derived.Laws.Externs
import Derived.MapKept
import Derived.Test.YtgphlcbjgcogkaaKb
namespace Go.AX
set_option autoImplicit false
set_option linter.unusedVariables false

/-- A result that the proof tells. -/
inductive OpP (res : Option Res) (K : Res → Prop) : Prop
  | mk (v : V) (wr : List (Nat × Blk)) (dn : Nat) (h : ∃ s, res = some ⟨v, wr, dn, s⟩ ∧ s) (k : K ⟨v, wr, dn, True⟩)

/-- What stands in a row, told by the proof. -/
inductive LdP (I : Prims) (agg : Bool) (ls : List Leaf) (l : List D) (off : Nat) (K : V → Prop) : Prop
  | mk (vs : List V) (v : V) (h : ∃ s, rdLs I l off ls 0 = some (vs, s) ∧ s) (hv : asVal agg vs = some v) (k : K v)

/-- What goes through a map. -/
inductive RgP (m : RG) (n : Nat) (K : Res → Prop) : Prop
  | mk (h : rgQ m n K)
theorem RgP.out {m : RG} {n : Nat} {K : Res → Prop} (h : RgP m n K) : rgQ m n K := by cases h; assumption
theorem rgQ_mono {m : RG} {n : Nat} {K K' : Res → Prop} (hK : ∀ r, K r → K' r) (h : rgQ m n K) : rgQ m n K' := by
  cases m with
  | range => exact fun bs ck h1 h2 => hK _ (h bs ck h1 h2)
  | next =>
    refine ⟨h.1, fun p hp hs => ?_, fun ha => hK _ (h.2.2 ha)⟩
    obtain ⟨vk, vv, h1, h2, h3⟩ := h.2.1 p hp hs
    exact ⟨vk, vv, h1, h2, fun sn hs => hK _ (h3 sn hs)⟩
  | entry =>
    obtain ⟨h1, p, hp, hl, vk, vv, h2, h3, h4⟩ := h
    exact ⟨h1, p, hp, hl, vk, vv, h2, h3, hK _ h4⟩
  | del => exact ⟨h.1, h.2.1, fun l' hl => hK _ (h.2.2 l' hl)⟩

/-- What an operation on a map comes to, told by the proof. -/
inductive MpP (m : MA) (n : Nat) (K : Res → Prop) : Prop
  | mk (r : Res) (h : opM m n r) (k : K r)

inductive StP (I : Prims) (l : List D) (off : Nat) (ds : List D) (size : Nat) (K : List D → Prop) : Prop
  | mk (l' : List D) (h : setAll I l off ds 0 = l') (hs : I.leN (I.add off size) (I.len l)) (k : K l')

def rdArgs (I : Prims) (tt : TT) (op : Op) (vs : List V) (bs : List Blk) : Option (TI × List D × Nat) :=
  match op, vs, bs with
  | .load t _, [.lp l off], [] => (match tt t with | some ti => some (ti, l, off) | none => none)
  | .load t _, [.pr _ off], [.row l _ _] => (match tt t with | some ti => some (ti, l, off) | none => none)
  | .load t _, [.px _ s m k i j], [.box l] => (match tt t with
      | some ti => (match cut l s (Nat.mul m k) with
          | some c => (match flatD I c with | some ds => some (ti, ds, I.idx j i k) | none => none)
          | none => none)
      | none => none)
  | _, _, _ => none

structure StA where
  id : Nat
  l : List D
  k : Nat
  e : TypeId
  off : Nat
  ds : List D
  size : Nat

def stArgs (I : Prims) (tt : TT) (op : Op) (vs : List V) (bs : List Blk) : Option StA :=
  match op, vs, bs with
  | .store t _ _, [.pr id off, x], [.row l k e] => (match tt t with
      | some ti => (match plain I x.cells with
          | some ds => bif Nat.beq (szs x.cells) ti.size then some ⟨id, l, k, e, off, ds, ti.size⟩ else none
          | none => none)
      | none => none)
  | _, _, _ => none

/-- A choice between two values: the test, the values (none: there is none on that side). -/
def pickArgs (op : Op) (vs : List V) : Option (Bool × Option V × Option V) :=
  match op, vs with
  | .pick _ _ _, [.d (.bool x), .d (.bool p), .d (.bool q)] => some (x, some (.d (.bool p)), some (.d (.bool q)))
  | .pick _ _ _, [.d (.bool x), .d (.int j p), .d (.int k q)] => bif decide (j = k) then some (x, some (.d (.int j p)), some (.d (.int k q))) else none
  | .pick _ _ _, [.d (.bool x), .tup [], .d q] => some (x, none, some (.d q))
  | .pick _ _ _, [.d (.bool x), .d p, .tup []] => some (x, some (.d p), none)
  | _, _ => none

theorem pickArgs_opR {tt : TT} {op : Op} {vs : List V} {bs : List Blk} {n : Nat} {x : Bool} {a b : Option V} (h : pickArgs op vs = some (x, a, b)) {v : V} (hv : (match x with | true => a | false => b) = some v) :
    ∃ s, opR std tt op vs bs n = some ⟨v, [], 0, s⟩ ∧ s := by
  unfold pickArgs at h
  split at h
  · cases h
    cases x <;> cases hv <;> exact ⟨_, rfl, trivial⟩
  · simp only [cond_eq_ite, decide_eq_true_eq] at h
    split at h
    · rename_i e
      cases h
      subst e
      rename_i j p q
      cases x <;> cases hv <;> (refine ⟨True, ?_, trivial⟩; simp [opR, rPick, pure', std])
    · cases h
  · cases h
    cases x <;> cases hv
    exact ⟨_, rfl, rfl⟩
  · cases h
    cases x <;> cases hv
    exact ⟨_, rfl, rfl⟩
  · cases h

theorem rdArgs_opR {I : Prims} {tt : TT} {op : Op} {vs : List V} {bs : List Blk} {ti : TI} {l : List D} {off n : Nat} (h : rdArgs I tt op vs bs = some (ti, l, off)) {c : List V} {s : Prop} {v : V}
    (hr : rdLs I l off ti.leaves 0 = some (c, s)) (hv : asVal ti.agg c = some v) : opR I tt op vs bs n = some ⟨v, [], 0, s⟩ := by
  unfold rdArgs at h
  split at h
  · rename_i t x l' off'
    split at h
    · rename_i ti' hti
      cases h
      simp only [opR, hti, rLoad, hr, hv]
    · cases h
  · rename_i t x id off' l' k e
    split at h
    · rename_i ti' hti
      cases h
      simp only [opR, hti, rLoad, hr, hv]
    · cases h
  · rename_i t x id s' m k i j l'
    split at h
    · rename_i ti' hti
      split at h
      · rename_i c' hc'
        split at h
        · rename_i ds hds
          cases h
          simp only [opR, hti, rLoad, hc', hds, hr, hv]
        · cases h
      · cases h
    · cases h
  · cases h

theorem stArgs_opR {I : Prims} {tt : TT} {op : Op} {vs : List V} {bs : List Blk} {n : Nat} {a : StA} (h : stArgs I tt op vs bs = some a) :
    opR I tt op vs bs n = some ⟨.tup [], [(a.id, .row (setAll I a.l a.off a.ds 0) a.k a.e)], 0, I.leN (I.add a.off a.size) (I.len a.l)⟩ := by
  unfold stArgs at h
  split at h
  · rename_i t x y id off' x' l' k e
    split at h
    · rename_i ti' hti
      split at h
      · rename_i ds hds
        simp only [cond_eq_ite] at h
        split at h
        · rename_i hc
          cases h
          simp only [opR, hti, rStore, hds, hc, cond_true]
        · cases h
      · cases h
    · cases h
  · cases h

def Tst (b : Bool) (A B : Unit → Prop) : Prop :=
  match b with
  | true => A ()
  | false => B ()

def hasBig : List V → Bool
  | [] => false
  | .big _ _ :: _ => true
  | _ :: t => hasBig t
/-- Operations whose results the proof tells. -/
def told (op : Op) (vs : List V) : Bool :=
  match op, vs with
  | .store _ _ _, [.px _ _ _ _ _ _, _] => true
  | .binOp _ _ _ _ _, .agg a :: _ => !hasBig a
  | .binOp _ _ _ _ _, .d (.lit _) :: _ => false
  | .binOp _ _ _ _ _, _ => true
  | .unOp _ _ _, _ => true
  | .convert _ _ _, _ => true
  | .index _ _ _, _ => true
  | .indexAddr _ _ _, _ => true
  | .slice _ _ _ _ _, _ => true
  | .makeSlice _ _ _, _ => true
  | .buildSlice _ _ _, _ => true
  | .call ⟨.builtin .len, _, _⟩, _ => true
  | .call ⟨.builtin .append, _, _⟩, _ => true
  | .call ⟨.builtin .copy, _, _⟩, _ => true
  | .call ⟨.builtin .clear, _, _⟩, _ => true
  | .call ⟨.builtin .min, _, _⟩, _ => true
  | .call ⟨.builtin .max, _, _⟩, _ => true
  | _, _ => false

/-- Numbers as the bits of one number. -/
def bits : List Nat → Nat
  | [] => 0
  | q :: t => Nat.lor (Nat.shiftLeft 1 q) (bits t)

theorem bits_mem : ∀ (l : List Nat) (q : Nat), Nat.testBit (bits l) q = memN l q
  | [], q => by simp [bits, memN]
  | a :: t, q => by
    show Nat.testBit ((1 <<< a) ||| bits t) q = (Nat.beq a q || memN t q)
    rw [Nat.testBit_or, bits_mem t q, Nat.testBit_shiftLeft]
    congr 1
    by_cases h : a = q
    · subst h; simp
    · have : Nat.beq a q = false := by
        cases hb : Nat.beq a q with
        | false => rfl
        | true => exact absurd (Nat.eq_of_beq_eq_true hb) h
      rw [this]
      by_cases h2 : a ≤ q
      · have : q - a ≠ 0 := by omega
        have h3 : Nat.testBit 1 (q - a) = false := by
          generalize q - a = n at this
          cases n with
          | zero => exact absurd rfl this
          | succ n => simp [Nat.testBit_succ]
        simp [h3]
      · simp [h2]

theorem bits_append : ∀ (a b : List Nat), bits (a ++ b) = Nat.lor (bits a) (bits b)
  | [], b => by show bits b = 0 ||| bits b; simp
  | q :: t, b => by
    show (1 <<< q) ||| bits (t ++ b) = ((1 <<< q) ||| bits t) ||| bits b
    rw [bits_append t b, Nat.or_assoc]; rfl

def nthM : List (Fp × Nat) → Nat → Nat
  | [], _ => 0
  | (_, m) :: _, 0 => m
  | _ :: t, n + 1 => nthM t n

def predsM (acc : List (Fp × Nat)) (len : Nat) : List Edge → Nat
  | [] => 0
  | e :: t => bif Region.binds .any e then Nat.lor (Nat.shiftLeft 1 e.on) (Nat.lor (bif Nat.blt e.on len then nthM acc (Nat.sub (Nat.sub len e.on) 1) else 0) (predsM acc len t)) else predsM acc len t

def fillM : List Oper → List Fp → List (Fp × Nat)
  | o :: os, f :: fs => (fun t => (f, predsM t t.length o.after.toList) :: t) (fillM os fs)
  | _, _ => []

def indep1M (y : Fp) (m : Nat) : List (Fp × Nat) → Bool
  | [] => true
  | x :: t => (Nat.testBit m t.length || x.1.apart y) && indep1M y m t

def indepM : List (Fp × Nat) → Bool
  | [] => true
  | y :: t => indep1M y.1 y.2 t && indepM t

theorem nthM_eq : ∀ (l : List Fp) (i : Nat), nthM (l.map fun f => (f, bits f.pre)) i = bits (match l[i]? with | some f => f.pre | none => [])
  | [], i => by cases i <;> rfl
  | f :: t, 0 => rfl
  | f :: t, i + 1 => nthM_eq t i

theorem predsM_eq (acc : List Fp) : ∀ (es : List Edge), predsM (acc.map fun f => (f, bits f.pre)) acc.length es = bits (preds acc es)
  | [] => rfl
  | e :: t => by
    simp only [predsM, preds]
    rw [predsM_eq acc t, nthM_eq]
    cases Region.binds .any e with
    | false => rfl
    | true =>
      simp only [cond_true]
      show _ = Nat.lor (Nat.shiftLeft 1 e.on) (bits (_ ++ preds acc t))
      rw [bits_append]
      cases Nat.blt e.on acc.length <;> rfl

/-- Footprints are looked at only where the order is drawn. -/
def acs (draw : Bool) (fp : Unit → Fp) (acc : List Fp) : List Fp :=
  match draw with
  | true => fp () :: acc
  | false => acc

/-- Footprints with what each operation waits for. -/
def fill : List Oper → List Fp → List Fp
  | o :: os, f :: fs => { f with pre := preds (fill os fs) o.after.toList } :: fill os fs
  | _, _ => []

theorem fillM_eq : ∀ (os : List Oper) (fs : List Fp), (fillM os fs).map (fun p => ({ p.1 with pre := [] }, p.2)) = ((fill os fs).map fun f => ({ f with pre := [] }, bits f.pre)) ∧ (∀ es, predsM (fillM os fs) (fillM os fs).length es = bits (preds (fill os fs) es))
  | [], fs => by cases fs <;> exact ⟨rfl, fun es => (predsM_eq [] es)⟩
  | o :: os, [] => ⟨rfl, fun es => (predsM_eq [] es)⟩
  | o :: os, f :: fs => by
    obtain ⟨h1, h2⟩ := fillM_eq os fs
    have e1 : (fillM (o :: os) (f :: fs)).map (fun p => ({ p.1 with pre := [] }, p.2)) = ((fill (o :: os) (f :: fs)).map fun f => (({ f with pre := [] } : Fp), bits f.pre)) := by
      simp only [fillM, fill, List.map_cons, h1, h2]
    refine ⟨e1, fun es => ?_⟩
    have key : ∀ (a b : List (Fp × Nat)), a.map (fun p => (({ p.1 with pre := [] } : Fp), p.2)) = b.map (fun p => (({ p.1 with pre := [] } : Fp), p.2)) → (∀ i, nthM a i = nthM b i) ∧ a.length = b.length := by
      intro a
      induction a with
      | nil => intro b h; cases b with
        | nil => exact ⟨fun _ => rfl, rfl⟩
        | cons _ _ => cases h
      | cons x a ih => intro b h; cases b with
        | nil => cases h
        | cons y b =>
          simp only [List.map_cons, List.cons.injEq, Prod.mk.injEq] at h
          obtain ⟨k1, k2⟩ := ih b h.2
          refine ⟨fun i => ?_, by simp [k2]⟩
          cases i with
          | zero => exact h.1.2
          | succ i => exact k1 i
    have k := key (fillM (o :: os) (f :: fs)) ((fill (o :: os) (f :: fs)).map fun f => (f, bits f.pre)) (by rw [e1, List.map_map]; rfl)
    have pm : ∀ (a b : List (Fp × Nat)) (n : Nat), (∀ i, nthM a i = nthM b i) → ∀ es, predsM a n es = predsM b n es := by
      intro a b n hi es
      induction es with
      | nil => rfl
      | cons e t ih => simp only [predsM, hi, ih]
    rw [pm _ _ _ k.1, k.2, List.length_map]
    exact predsM_eq _ es

theorem apart_pre (x y : Fp) (l m : List Nat) : Fp.apart { x with pre := l } { y with pre := m } = Fp.apart x y := rfl

theorem indepM_ok {os : List Oper} {fs : List Fp} (h : indepM (fillM os fs) = true) : indep (fill os fs) = true := by
  have hm := (fillM_eq os fs).1
  generalize fillM os fs = a at *
  generalize fill os fs = b at *
  have one : ∀ (a : List (Fp × Nat)) (b : List Fp) (y y' : Fp) (m n : Nat), a.map (fun p => (({ p.1 with pre := [] } : Fp), p.2)) = b.map (fun f => (({ f with pre := [] } : Fp), bits f.pre)) → ({ y with pre := [] } : Fp) = { y' with pre := [] } → m = bits y'.pre →
      indep1M y m a = true → indep1 y' b n = true := by
    intro a
    induction a with
    | nil => intro b y y' m n h1 h2 h3 h4; cases b with
      | nil => rfl
      | cons _ _ => cases h1
    | cons x a ih => intro b y y' m n h1 h2 h3 h4; cases b with
      | nil => cases h1
      | cons x' b =>
        simp only [List.map_cons, List.cons.injEq, Prod.mk.injEq] at h1
        simp only [indep1M, Bool.and_eq_true] at h4
        simp only [indep1, Bool.and_eq_true]
        refine ⟨?_, ih b y y' m n h1.2 h2 h3 h4.2⟩
        have hl : a.length = b.length := by have := congrArg List.length h1.2; simpa using this
        have h5 := h4.1
        rw [h3, bits_mem, hl] at h5
        have h6 : x.1.apart y = x'.apart y' := by
          rw [← apart_pre x.1 y [] [], ← apart_pre x' y' [] [], h1.1.1, h2]
        rw [← h6]; exact h5
  induction a generalizing b with
  | nil => cases b with
    | nil => rfl
    | cons _ _ => cases hm
  | cons x a ih => cases b with
    | nil => cases hm
    | cons y b =>
      simp only [List.map_cons, List.cons.injEq, Prod.mk.injEq] at hm
      simp only [indepM, Bool.and_eq_true] at h
      simp only [indep, Bool.and_eq_true]
      exact ⟨one a b x.1 y x.2 0 hm.2 hm.1.1 hm.1.2 h.1, ih h.2 b hm.2⟩

def go (P : Program) (I : Prims) (tt : TT) (draw : Bool) (ops : List Oper) (Q : Exit → St → Prop) : List Oper → List Fp → St → Prop
  | [], acc, st => (match draw with | true => ∀ _ : Unit, (indepM (fillM ops.reverse acc) && backs ops 0) = true | false => True) ∧ Q .normal st
  | o :: rest, acc, st =>
    let run : Unit → Prop := fun _ => match isCall o.op with
      | some (f, args) => (match st.ev f, evs st args with
          | some (.fn g caps), some vs => dstOk st o.dst = true ∧ CallP P I g (vs ++ caps) st (fun c => go P I tt draw ops Q rest (acs draw (fun _ => ⟨o.dst, guseOf ops o.guard ++ tmpsOf (f :: args), c.acc, keys c.res.wr, []⟩) acc) (st.app o.dst c.res))
          | _, _ => False)
      | none => (match evs st o.op.operands.toList with
          | some vs => (match nilOf tt draw o.op vs with
              | some (e, some n) => dstOk st o.dst = true ∧ ∀ b, (b = e → n = 0) → go P I tt draw ops Q rest (acs draw (fun _ => ⟨o.dst, guseOf ops o.guard ++ tmpsOf o.op.operands.toList, [], [], []⟩) acc) (st.app o.dst ⟨.d (.bool b), [], 0, True⟩)
              | some (e, none) => dstOk st o.dst = true ∧ go P I tt draw ops Q rest (acs draw (fun _ => ⟨o.dst, guseOf ops o.guard ++ tmpsOf o.op.operands.toList, [], [], []⟩) acc) (st.app o.dst ⟨.d (.bool e), [], 0, True⟩)
              | none => (match blks st.aw (accOf o.op vs) with
                  | some bs => (match pickArgs o.op vs with
                      | some (x, a, b) => dstOk st o.dst = true ∧ Tst x (fun _ => match a with | some v => go P I tt draw ops Q rest (acs draw (fun _ => ⟨o.dst, guseOf ops o.guard ++ tmpsOf o.op.operands.toList, accOf o.op vs, [], []⟩) acc) (st.app o.dst ⟨v, [], 0, True⟩) | none => False)
                          (fun _ => match b with | some v => go P I tt draw ops Q rest (acs draw (fun _ => ⟨o.dst, guseOf ops o.guard ++ tmpsOf o.op.operands.toList, accOf o.op vs, [], []⟩) acc) (st.app o.dst ⟨v, [], 0, True⟩) | none => False)
                      | none => (match rdArgs I tt o.op vs bs with
                      | some (ti, l, off) => dstOk st o.dst = true ∧ LdP I ti.agg ti.leaves l off (fun v => go P I tt draw ops Q rest (acs draw (fun _ => ⟨o.dst, guseOf ops o.guard ++ tmpsOf o.op.operands.toList, accOf o.op vs, [], []⟩) acc) (st.app o.dst ⟨v, [], 0, True⟩))
                      | none => (match stArgs I tt o.op vs bs with
                          | some a => dstOk st o.dst = true ∧ StP I a.l a.off a.ds a.size (fun l' => go P I tt draw ops Q rest (acs draw (fun _ => ⟨o.dst, guseOf ops o.guard ++ tmpsOf o.op.operands.toList, accOf o.op vs, [a.id], []⟩) acc) (st.app o.dst ⟨.tup [], [(a.id, .row l' a.k a.e)], 0, True⟩))
                          | none => (match told o.op vs with
                              | true => dstOk st o.dst = true ∧ OpP (opR I tt o.op vs bs st.n) (fun r => go P I tt draw ops Q rest (acs draw (fun _ => ⟨o.dst, guseOf ops o.guard ++ tmpsOf o.op.operands.toList, accOf o.op vs, keys r.wr, []⟩) acc) (st.app o.dst r))
                              | false => (match opR I tt o.op vs bs st.n with
                                  | some r => dstOk st o.dst = true ∧ r.side ∧ go P I tt draw ops Q rest (acs draw (fun _ => ⟨o.dst, guseOf ops o.guard ++ tmpsOf o.op.operands.toList, accOf o.op vs, keys r.wr, []⟩) acc) (st.app o.dst r)
                                  | none => (match mpArgs I tt o.op vs bs with
                                      | some m => dstOk st o.dst = true ∧ MpP m st.n (fun r => go P I tt draw ops Q rest (acs draw (fun _ => ⟨o.dst, guseOf ops o.guard ++ tmpsOf o.op.operands.toList, accOf o.op vs, keys r.wr, []⟩) acc) (st.app o.dst r))
                                      | none => (match rgArgs I tt draw o.op vs st.aw with
                                          | some m => dstOk st o.dst = true ∧ RgP m st.n (fun r => go P I tt draw ops Q rest (acs draw (fun _ => ⟨o.dst, guseOf ops o.guard ++ tmpsOf o.op.operands.toList, accOf o.op vs, keys r.wr, []⟩) acc) (st.app o.dst r))
                                          | none => False)))))))
                  | none => False))
          | none => False)
    let skip : Unit → Prop := fun _ => dstOk st o.dst = true ∧ go P I tt draw ops Q rest (acs draw (fun _ => ⟨o.dst, guseOf ops o.guard, [], [], []⟩) acc) (st.app o.dst ⟨.tup [], [], 0, True⟩)
    match o.guard with
    | none => run ()
    | some (j, want) => (match ops[j]? with
        | some g => (match g.dst with
            | some d => (match look st.env d with
                | some (.d (.bool b)) => Tst b (fun _ => match want with | true => run () | false => skip ()) (fun _ => match want with | true => skip () | false => run ())
                | some (.tup []) => skip ()
                | _ => False)
            | none => False)
        | none => False)

theorem go_goOps {P : Program} {tt : TT} {draw : Bool} {ops : List Oper} {Q : Exit → St → Prop} : ∀ (l : List Oper) (done : List Oper) (acc acc' : List Fp) (st : St), ops = done.reverse ++ l → (draw = true → acc' = fill done acc) → go P std tt draw ops Q l acc st → goOps P std tt draw ops Q l acc' st
  | [], done, acc, acc', st, ho, hc, h => by
    cases draw with
    | true =>
      simp only [go] at h
      simp only [goOps]
      rw [hc rfl]
      have e : ops.reverse = done := by rw [ho]; simp
      rw [e] at h
      refine ⟨fun u => ?_, h.2⟩
      have h1 := h.1 u
      simp only [Bool.and_eq_true] at h1 ⊢
      exact ⟨indepM_ok h1.1, h1.2⟩
    | false => exact h
  | o :: rest, done, acc, acc', st, ho, hc, h => by
    have ih : ∀ (fp fp' : Fp) (st : St), (draw = true → fp' = { fp with pre := preds (fill done acc) o.after.toList }) → go P std tt draw ops Q rest (acs draw (fun _ => fp) acc) st → goOps P std tt draw ops Q rest (fp' :: acc') st := by
      intro fp fp' st hf h
      refine go_goOps (P := P) (tt := tt) (draw := draw) (ops := ops) (Q := Q) rest (o :: done) _ _ st (by rw [ho]; simp) ?_ h
      intro hd
      rw [hc hd, hf hd, hd]
      rfl
    have hpre : draw = true → preds acc' o.after.toList = preds (fill done acc) o.after.toList := fun hd => by rw [hc hd]
    simp only [go] at h
    simp only [goOps]
    have hrun : ∀ {R R' : Prop}, (R = match isCall o.op with
      | some (f, args) => (match st.ev f, evs st args with
          | some (.fn g caps), some vs => dstOk st o.dst = true ∧ CallP P std g (vs ++ caps) st (fun c => go P std tt draw ops Q rest (acs draw (fun _ => ⟨o.dst, guseOf ops o.guard ++ tmpsOf (f :: args), c.acc, keys c.res.wr, []⟩) acc) (st.app o.dst c.res))
          | _, _ => False)
      | none => (match evs st o.op.operands.toList with
          | some vs => (match nilOf tt draw o.op vs with
              | some (e, some n) => dstOk st o.dst = true ∧ ∀ b, (b = e → n = 0) → go P std tt draw ops Q rest (acs draw (fun _ => ⟨o.dst, guseOf ops o.guard ++ tmpsOf o.op.operands.toList, [], [], []⟩) acc) (st.app o.dst ⟨.d (.bool b), [], 0, True⟩)
              | some (e, none) => dstOk st o.dst = true ∧ go P std tt draw ops Q rest (acs draw (fun _ => ⟨o.dst, guseOf ops o.guard ++ tmpsOf o.op.operands.toList, [], [], []⟩) acc) (st.app o.dst ⟨.d (.bool e), [], 0, True⟩)
              | none => (match blks st.aw (accOf o.op vs) with
                  | some bs => (match pickArgs o.op vs with
                      | some (x, a, b) => dstOk st o.dst = true ∧ Tst x (fun _ => match a with | some v => go P std tt draw ops Q rest (acs draw (fun _ => ⟨o.dst, guseOf ops o.guard ++ tmpsOf o.op.operands.toList, accOf o.op vs, [], []⟩) acc) (st.app o.dst ⟨v, [], 0, True⟩) | none => False)
                          (fun _ => match b with | some v => go P std tt draw ops Q rest (acs draw (fun _ => ⟨o.dst, guseOf ops o.guard ++ tmpsOf o.op.operands.toList, accOf o.op vs, [], []⟩) acc) (st.app o.dst ⟨v, [], 0, True⟩) | none => False)
                      | none => (match rdArgs std tt o.op vs bs with
                      | some (ti, l, off) => dstOk st o.dst = true ∧ LdP std ti.agg ti.leaves l off (fun v => go P std tt draw ops Q rest (acs draw (fun _ => ⟨o.dst, guseOf ops o.guard ++ tmpsOf o.op.operands.toList, accOf o.op vs, [], []⟩) acc) (st.app o.dst ⟨v, [], 0, True⟩))
                      | none => (match stArgs std tt o.op vs bs with
                          | some a => dstOk st o.dst = true ∧ StP std a.l a.off a.ds a.size (fun l' => go P std tt draw ops Q rest (acs draw (fun _ => ⟨o.dst, guseOf ops o.guard ++ tmpsOf o.op.operands.toList, accOf o.op vs, [a.id], []⟩) acc) (st.app o.dst ⟨.tup [], [(a.id, .row l' a.k a.e)], 0, True⟩))
                          | none => (match told o.op vs with
                              | true => dstOk st o.dst = true ∧ OpP (opR std tt o.op vs bs st.n) (fun r => go P std tt draw ops Q rest (acs draw (fun _ => ⟨o.dst, guseOf ops o.guard ++ tmpsOf o.op.operands.toList, accOf o.op vs, keys r.wr, []⟩) acc) (st.app o.dst r))
                              | false => (match opR std tt o.op vs bs st.n with
                                  | some r => dstOk st o.dst = true ∧ r.side ∧ go P std tt draw ops Q rest (acs draw (fun _ => ⟨o.dst, guseOf ops o.guard ++ tmpsOf o.op.operands.toList, accOf o.op vs, keys r.wr, []⟩) acc) (st.app o.dst r)
                                  | none => (match mpArgs std tt o.op vs bs with
                                      | some m => dstOk st o.dst = true ∧ MpP m st.n (fun r => go P std tt draw ops Q rest (acs draw (fun _ => ⟨o.dst, guseOf ops o.guard ++ tmpsOf o.op.operands.toList, accOf o.op vs, keys r.wr, []⟩) acc) (st.app o.dst r))
                                      | none => (match rgArgs std tt draw o.op vs st.aw with
                                          | some m => dstOk st o.dst = true ∧ RgP m st.n (fun r => go P std tt draw ops Q rest (acs draw (fun _ => ⟨o.dst, guseOf ops o.guard ++ tmpsOf o.op.operands.toList, accOf o.op vs, keys r.wr, []⟩) acc) (st.app o.dst r))
                                          | none => False)))))))
                  | none => False))
          | none => False)) → (R' = match isCall o.op with
      | some (f, args) => (match st.ev f, evs st args with
          | some (.fn g caps), some vs => dstOk st o.dst = true ∧ CallP P std g (vs ++ caps) st (fun c => goOps P std tt draw ops Q rest (⟨o.dst, guseOf ops o.guard ++ tmpsOf (f :: args), c.acc, keys c.res.wr, preds acc' o.after.toList⟩ :: acc') (st.app o.dst c.res))
          | _, _ => False)
      | none => (match evs st o.op.operands.toList with
          | some vs => (match nilOf tt draw o.op vs with
              | some (e, some n) => dstOk st o.dst = true ∧ ∀ b, (b = e → n = 0) → goOps P std tt draw ops Q rest (⟨o.dst, guseOf ops o.guard ++ tmpsOf o.op.operands.toList, [], [], preds acc' o.after.toList⟩ :: acc') (st.app o.dst ⟨.d (.bool b), [], 0, True⟩)
              | some (e, none) => dstOk st o.dst = true ∧ goOps P std tt draw ops Q rest (⟨o.dst, guseOf ops o.guard ++ tmpsOf o.op.operands.toList, [], [], preds acc' o.after.toList⟩ :: acc') (st.app o.dst ⟨.d (.bool e), [], 0, True⟩)
              | none => (match blks st.aw (accOf o.op vs) with
                  | some bs => (match opR std tt o.op vs bs st.n with
                      | some r => dstOk st o.dst = true ∧ r.side ∧ goOps P std tt draw ops Q rest (⟨o.dst, guseOf ops o.guard ++ tmpsOf o.op.operands.toList, accOf o.op vs, keys r.wr, preds acc' o.after.toList⟩ :: acc') (st.app o.dst r)
                      | none => (match mpArgs std tt o.op vs bs with
                          | some m => ∃ r, opM m st.n r ∧ dstOk st o.dst = true ∧ goOps P std tt draw ops Q rest (⟨o.dst, guseOf ops o.guard ++ tmpsOf o.op.operands.toList, accOf o.op vs, keys r.wr, preds acc' o.after.toList⟩ :: acc') (st.app o.dst r)
                          | none => (match rgArgs std tt draw o.op vs st.aw with
                              | some m => dstOk st o.dst = true ∧ rgQ m st.n (fun r => goOps P std tt draw ops Q rest (⟨o.dst, guseOf ops o.guard ++ tmpsOf o.op.operands.toList, accOf o.op vs, keys r.wr, preds acc' o.after.toList⟩ :: acc') (st.app o.dst r))
                              | none => False)))
                  | none => False))
          | none => False)) → R → R' := by
      rintro R R' rfl rfl h
      split at h
      · rename_i f args hc
        try simp only
        split at h
        · rename_i g caps vs hf hvs
          try simp only
          obtain ⟨hd, c, ok, hk⟩ := h
          exact ⟨hd, c, ok, ih _ _ _ (fun hd => by rw [hpre hd] <;> rfl) hk⟩
        · exact h.elim
      · rename_i hc
        try simp only
        split at h
        · rename_i vs hvs
          try simp only
          split at h
          · rename_i e n hn
            try simp only
            exact ⟨h.1, fun b hb => ih _ _ _ (fun hd => by rw [hpre hd] <;> rfl) (h.2 b hb)⟩
          · rename_i e hn
            try simp only
            exact ⟨h.1, ih _ _ _ (fun hd => by rw [hpre hd] <;> rfl) h.2⟩
          · rename_i hn
            try simp only
            split at h
            · rename_i bs hbs
              try simp only
              have same : ∀ (d : Option Nat) (v : V) (wr : List (Nat × Blk)) (dn : Nat) (s : Prop), st.app d ⟨v, wr, dn, True⟩ = st.app d ⟨v, wr, dn, s⟩ := fun d _ _ _ _ => by cases d <;> rfl
              split at h
              · rename_i x a b hpk
                obtain ⟨hd, h⟩ := h
                cases x with
                | true =>
                  simp only [Tst] at h
                  cases a with
                  | none => exact h.elim
                  | some v =>
                    obtain ⟨s, hr, hs⟩ := pickArgs_opR (tt := tt) (bs := bs) (n := st.n) hpk rfl
                    rw [hr]
                    refine ⟨hd, hs, ih ⟨o.dst, guseOf ops o.guard ++ tmpsOf o.op.operands.toList, accOf o.op vs, [], []⟩ _ _ (fun hd => by rw [hpre hd] <;> rfl) ?_⟩
                    rw [← same]
                    exact h
                | false =>
                  simp only [Tst] at h
                  cases b with
                  | none => exact h.elim
                  | some v =>
                    obtain ⟨s, hr, hs⟩ := pickArgs_opR (tt := tt) (bs := bs) (n := st.n) hpk rfl
                    rw [hr]
                    refine ⟨hd, hs, ih ⟨o.dst, guseOf ops o.guard ++ tmpsOf o.op.operands.toList, accOf o.op vs, [], []⟩ _ _ (fun hd => by rw [hpre hd] <;> rfl) ?_⟩
                    rw [← same]
                    exact h
              split at h
              · rename_i ti l off hrd
                obtain ⟨hd, vs', v, ⟨s, hr, hs⟩, hv, hk⟩ := h
                rw [rdArgs_opR hrd hr hv]
                refine ⟨hd, hs, ih ⟨o.dst, guseOf ops o.guard ++ tmpsOf o.op.operands.toList, accOf o.op vs, [], []⟩ _ _ (fun hd => by rw [hpre hd] <;> rfl) ?_⟩
                rw [← same]
                exact hk
              · split at h
                · rename_i a hsa
                  obtain ⟨hd, l', hr, hs, hk⟩ := h
                  rw [stArgs_opR hsa, hr]
                  refine ⟨hd, hs, ih ⟨o.dst, guseOf ops o.guard ++ tmpsOf o.op.operands.toList, accOf o.op vs, [a.id], []⟩ _ _ (fun hd => by rw [hpre hd] <;> rfl) ?_⟩
                  rw [← same]
                  exact hk
                · split at h
                  · obtain ⟨hd, v, wr, dn, ⟨s, hr, hs⟩, hk⟩ := h
                    rw [hr]
                    try simp only
                    refine ⟨hd, hs, ih ⟨o.dst, guseOf ops o.guard ++ tmpsOf o.op.operands.toList, accOf o.op vs, (keys wr), []⟩ _ _ (fun hd => by rw [hpre hd] <;> rfl) ?_⟩
                    rw [← same]
                    exact hk
                  · split at h
                    · rename_i r hr
                      try simp only
                      exact ⟨h.1, h.2.1, ih _ _ _ (fun hd => by rw [hpre hd] <;> rfl) h.2.2⟩
                    · rename_i hr
                      try simp only
                      split at h
                      · rename_i m hm
                        obtain ⟨hd, r, hr', hk⟩ := h
                        exact ⟨r, hr', hd, ih _ _ _ (fun hd => by rw [hpre hd] <;> rfl) hk⟩
                      · rename_i hm0
                        try simp only
                        split at h
                        · rename_i m hm
                          obtain ⟨hd, hq⟩ := h
                          exact ⟨hd, rgQ_mono (fun r hk => ih _ _ _ (fun hd => by rw [hpre hd] <;> rfl) hk) hq.out⟩
                        · exact h.elim
            · exact h.elim
        · exact h.elim
    have hskip : (dstOk st o.dst = true ∧ go P std tt draw ops Q rest (acs draw (fun _ => ⟨o.dst, guseOf ops o.guard, [], [], []⟩) acc) (st.app o.dst ⟨.tup [], [], 0, True⟩)) →
        (dstOk st o.dst = true ∧ goOps P std tt draw ops Q rest (⟨o.dst, guseOf ops o.guard, [], [], preds acc' o.after.toList⟩ :: acc') (st.app o.dst ⟨.tup [], [], 0, True⟩)) := fun h => ⟨h.1, ih _ _ _ (fun hd => by rw [hpre hd] <;> rfl) h.2⟩
    cases hg : o.guard with
    | none =>
      rw [hg] at h hrun hskip
      exact hrun rfl rfl h
    | some jw =>
      obtain ⟨j, want⟩ := jw
      rw [hg] at h hrun hskip
      simp only at h ⊢
      split at h
      · rename_i g hgj
        rw [hgj]
        try simp only
        split at h
        · rename_i d hgd
          rw [hgd]
          try simp only
          split at h
          · rename_i b hb
            rw [hb]
            try simp only
            cases b <;> cases want <;> simp only [Tst] at h <;> simp only [Bool.not_true, Bool.not_false]
            · exact ⟨fun _ => hrun rfl rfl h, fun e => by cases e⟩
            · exact ⟨fun e => (by cases e), fun _ => hskip h⟩
            · exact ⟨fun e => (by cases e), fun _ => hskip h⟩
            · exact ⟨fun _ => hrun rfl rfl h, fun e => by cases e⟩
          · rename_i hb
            rw [hb]
            exact hskip h
          · exact h.elim
        · exact h.elim
      · exact h.elim
end Go.AX

namespace Go.AX
set_option autoImplicit false
set_option linter.unusedVariables false

/-- Where ways meet: the states there, told by parameters. -/
inductive JoinP (I : Prims) (z : Nat) (pre post : (Exit → St → Prop) → St → Prop) (Q : Exit → St → Prop) (st : St) : Prop
  | mk (α : Type) (C : α → St) (Φ : α → Prop) (slots : List Nat)
      (first : pre (fun e st' => match e with | .normal => ∃ x f m vs, St.anew I z f slots m vs st' = some (C x) ∧ Φ x | e => Q e st') st)
      (then_ : ∀ x, Φ x → post Q (C x))

/-- A loop, its states told by parameters. -/
inductive LoopB (I : Prims) (z : Nat) (body : (Exit → St → Prop) → St → Prop) (Q : Exit → St → Prop) (st : St) : Prop
  | mk (α : Type) (C : α → St) (μ : α → Nat) (slots : List Nat) (m0 : Nat) (a0 : α) (start : ∃ f0 vs, St.anew I z f0 slots m0 vs st = some (C a0))
      (round : ∀ a, body (fun e st' => match e with | .normal => ∃ a' f m vs, St.anew I z f slots m vs st' = some (C a') ∧ μ a' < μ a | e => Q e st') (C a))

def firstRegion : Code → Option Nat
  | .region id _ _ => some id
  | .seq a b => (match firstRegion a with | some i => some i | none => firstRegion b)
  | .block _ c => firstRegion c
  | .loop c => firstRegion c
  | .cond _ x y => (match firstRegion x with | some i => some i | none => firstRegion y)
  | _ => none

def isCut (cuts : List Nat) (c : Code) : Bool :=
  match cuts with
  | [] => false
  | _ => (match firstRegion c with | some i => memN cuts (Nat.add i i) | none => false)

/-- A region ahead of which the state is seen anew. -/
def isView (cuts : List Nat) (id : Nat) : Bool :=
  match cuts with
  | [] => false
  | _ => memN cuts (Nat.succ (Nat.add id id))

def bwp (P : Program) (I : Prims) (tt : TT) (cuts : List Nat) (z : Nat) : Code → (Exit → St → Prop) → St → Prop
  | .skip, Q, st => Q .normal st
  | .region id ops draw, Q, st => (match isView cuts id with
      | true => JoinP I z (fun Q st => Q .normal st) (fun Q st => go P I tt draw ops.toList Q ops.toList [] st) Q st
      | false => go P I tt draw ops.toList Q ops.toList [] st)
  | .seq a b, Q, st => (match isCut cuts b with
      | true => JoinP I z (bwp P I tt cuts z a) (bwp P I tt cuts z b) Q st
      | false => bwp P I tt cuts z a (fun e st => match e with | .normal => bwp P I tt cuts z b Q st | e => Q e st) st)
  | .cond c x y, Q, st => (match st.ev c with
      | some (.d (.bool b)) => Tst b (fun _ => bwp P I tt cuts z x Q st) (fun _ => bwp P I tt cuts z y Q st)
      | _ => False)
  | .block id c, Q, st => bwp P I tt cuts z c (fun e st => match e with | .exit i => (bif Nat.beq i id then Q .normal st else Q (.exit i) st) | e => Q e st) st
  | .exit id, Q, st => Q (.exit id) st
  | .label _, Q, st => Q .normal st
  | .ret, Q, st => Q .ret st
  | .loop c, Q, st => LoopB I z (bwp P I tt cuts z c) Q st
  | _, _, _ => False

section
variable {P : Program} {w0 : World} {M : Nat → Prop} {H0 : Emb} {tt : TT} {E : Emb} {w : World} {n : Nat}

theorem bwp_sound (cuts : List Nat) {z : Nat} (hX : ∀ i x, H0.ρ i = some x → i < z) (hTT : TabOK P tt)
    (hdraw : ∀ (id : Nat) (ops : Array Oper) (Q : Exit → St → Prop) (st : St), goOps P std tt true ops.toList Q ops.toList [] st → ∀ (E : Emb) (a : Act) (w : World), R w0 M H0 E st a w → (Code.region id ops true).wp P (QR w0 M H0 Q) a w) :
    ∀ (c : Code) (Q : Exit → St → Prop) (st : St), bwp P std tt cuts z c Q st → ∀ (E : Emb) (a : Act) (w : World), R w0 M H0 E st a w → c.wp P (QR w0 M H0 Q) a w
  | .skip, Q, st, h, E, a, w, hR => wp_skip ⟨E, st, hR, h⟩
  | .region id ops draw, Q, st, h, E, a, w, hR => by
    have run : ∀ st (E : Emb) (a : Act) (w : World), R w0 M H0 E st a w → go P std tt draw ops.toList Q ops.toList [] st → (Code.region id ops draw).wp P (QR w0 M H0 Q) a w := by
      intro st E a w hR h
      replace h := go_goOps _ [] _ [] _ rfl (fun _ => rfl) h
      cases draw with
      | false => exact wp_region_list (goOps_sound hTT _ _ _ h E a w hR)
      | true => exact hdraw id ops Q st h E a w hR
    simp only [bwp] at h
    split at h
    · obtain ⟨α, C, Φ, slots, ⟨x, f, m, vs, hv, hx⟩, h2⟩ := h
      obtain ⟨E3, hR3⟩ := anew_ok hX hR hv
      exact run _ E3 a w hR3 (h2 x hx)
    · exact run _ E a w hR h
  | .seq x y, Q, st, h, E, a, w, hR => by
    simp only [bwp] at h
    split at h
    · obtain ⟨α, C, Φ, slots, h1, h2⟩ := h
      refine wp_seq (wp_mono (bwp_sound cuts hX hTT hdraw x _ st h1 E a w hR) ?_)
      rintro e a' w' ⟨E', st', hR', hq⟩
      cases e with
      | normal =>
        obtain ⟨x', f, m, vs, hv, hx⟩ := hq
        obtain ⟨E3, hR3⟩ := anew_ok hX hR' hv
        exact bwp_sound cuts hX hTT hdraw y Q _ (h2 x' hx) E3 a' w' hR3
      | exit id => exact ⟨E', st', hR', hq⟩
      | goto l => exact ⟨E', st', hR', hq⟩
      | ret => exact ⟨E', st', hR', hq⟩
      | panic ch => exact ⟨E', st', hR', hq⟩
      | outgrown => exact ⟨E', st', hR', hq⟩
    · refine wp_seq (wp_mono (bwp_sound cuts hX hTT hdraw x _ st h E a w hR) ?_)
      rintro e a' w' ⟨E', st', hR', hq⟩
      cases e with
      | normal => exact bwp_sound cuts hX hTT hdraw y Q st' hq E' a' w' hR'
      | exit id => exact ⟨E', st', hR', hq⟩
      | goto l => exact ⟨E', st', hR', hq⟩
      | ret => exact ⟨E', st', hR', hq⟩
      | panic ch => exact ⟨E', st', hR', hq⟩
      | outgrown => exact ⟨E', st', hR', hq⟩
  | .cond c x y, Q, st, h, E, a, w, hR => by
    simp only [bwp] at h
    split at h
    · rename_i b hb
      have hc := ev_rep hR.env hb
      simp only [repV, repD] at hc
      refine wp_cond_split hc (fun hb => ?_) (fun hb => ?_)
      · subst hb; exact bwp_sound cuts hX hTT hdraw x Q st h E a w hR
      · subst hb; exact bwp_sound cuts hX hTT hdraw y Q st h E a w hR
    · exact h.elim
  | .block id c, Q, st, h, E, a, w, hR => by
    refine wp_block (wp_mono (bwp_sound cuts hX hTT hdraw c _ st h E a w hR) ?_)
    rintro e a' w' ⟨E', st', hR', hq⟩
    cases e with
    | exit i =>
      simp only [Exit.inBlock]
      simp only [cond_eq_ite] at hq
      by_cases hi : i = id
      · rw [if_pos hi]
        rw [if_pos (by subst hi; simp)] at hq
        exact ⟨E', st', hR', hq⟩
      · rw [if_neg hi]
        rw [if_neg (by intro e; exact hi (Nat.eq_of_beq_eq_true e))] at hq
        exact ⟨E', st', hR', hq⟩
    | normal => exact ⟨E', st', hR', hq⟩
    | goto l => exact ⟨E', st', hR', hq⟩
    | ret => exact ⟨E', st', hR', hq⟩
    | panic ch => exact ⟨E', st', hR', hq⟩
    | outgrown => exact ⟨E', st', hR', hq⟩
  | .exit id, Q, st, h, E, a, w, hR => wp_exit ⟨E, st, hR, h⟩
  | .label l, Q, st, h, E, a, w, hR => wp_label ⟨E, st, hR, h⟩
  | .ret, Q, st, h, E, a, w, hR => wp_ret ⟨E, st, hR, h⟩
  | .loop c, Q, st, h, E, a, w, hR => by
    simp only [bwp] at h
    obtain ⟨α, C, μ, slots, m0, a0, ⟨f0, vs, start⟩, round⟩ := h
    obtain ⟨E1, hR1⟩ := anew_ok hX hR start
    refine wp_loop_by (fun x a w => ∃ E, R w0 M H0 E (C x) a w) μ a0 ⟨E1, hR1⟩ ?_
    rintro x a' w' ⟨E', hR'⟩
    refine wp_mono (bwp_sound cuts hX hTT hdraw c _ (C x) (round x) E' a' w' hR') ?_
    rintro e a2 w2 ⟨E2, st2, hR2, hq⟩
    cases e with
    | normal =>
      obtain ⟨x', f, m, vs, hv, hlt⟩ := hq
      obtain ⟨E3, hR3⟩ := anew_ok hX hR2 hv
      exact ⟨x', ⟨E3, hR3⟩, hlt⟩
    | exit id => exact ⟨E2, st2, hR2, hq⟩
    | goto l => exact ⟨E2, st2, hR2, hq⟩
    | ret => exact ⟨E2, st2, hR2, hq⟩
    | panic ch => exact ⟨E2, st2, hR2, hq⟩
    | outgrown => exact ⟨E2, st2, hR2, hq⟩
  | .goto _, Q, st, h, E, a, w, hR => by simp only [bwp] at h
  | .scope _, Q, st, h, E, a, w, hR => by simp only [bwp] at h
  | .rangeFunc .., Q, st, h, E, a, w, hR => by simp only [bwp] at h
  | .refuse _, Q, st, h, E, a, w, hR => by simp only [bwp] at h

/-- The blocks that were handed in. -/
def mine (X : Emb) (aw : List (Nat × Blk)) (b : Nat) : Prop := ∃ i y, X.ρ i = some (some b) ∧ look aw i = some y ∧ y.live = true
/-- A function that may write to zz blocks that it is handed; the first z of these keep their numbers. -/
def SpecM (P : Program) (g : FuncId) (zz : Nat) (aw : List (Nat × Blk)) (args : List V) (r : Res) : Prop :=
  Enters P g ∧ ∀ (X : Emb) (w : World) (xs : Array Value), WR w (mine X aw) X aw zz w → (∀ i x, X.ρ i = some x → i < zz) → repVs X args xs.toList →
    Calls P g xs w (fun e w' => ∃ v E', e = .returned v ∧ Did aw X zz w r E' w' v)

def liveN (aw : List (Nat × Blk)) : Nat → Bool
  | 0 => true
  | n + 1 => (match look aw n with | some b => b.live | none => false) && liveN aw n
theorem liveN_look {aw : List (Nat × Blk)} : ∀ {z : Nat}, liveN aw z = true → ∀ i, i < z → ∃ b, look aw i = some b ∧ b.live = true
  | z + 1, h, i, hi => by
    simp only [liveN, Bool.and_eq_true] at h
    by_cases e : i = z
    · subst e
      have h1 := h.1
      split at h1
      · rename_i b hb; exact ⟨b, hb, h1⟩
      · cases h1
    · exact liveN_look h.2 i (by omega)

/-- Blocks z to z + k - 1, let go. -/
def deads (z : Nat) : Nat → List (Nat × Blk)
  | 0 => []
  | k + 1 => (Nat.add z k, .dead) :: deads z k
theorem look_deads (z : Nat) : ∀ (k i : Nat), look (deads z k) i = if z ≤ i ∧ i < z + k then some .dead else none
  | 0, i => by rw [if_neg (by omega)]; rfl
  | k + 1, i => by
    simp only [deads]
    rw [look_cons, look_deads z k i]
    show (if z + k = i then _ else _) = _
    by_cases h : z + k = i
    · rw [if_pos h, if_pos (by omega)]
    · rw [if_neg h]
      by_cases h2 : z ≤ i ∧ i < z + k
      · rw [if_pos h2, if_pos (by omega)]
      · rw [if_neg h2, if_neg (by omega)]

/-- New numbers are those that stay, or behind all that were handed in. -/
def outside (z zz : Nat) : List Nat → Bool
  | [] => true
  | j :: t => (Nat.blt j z || Nat.ble zz j) && outside z zz t
theorem outside_mem {z zz : Nat} : ∀ {l : List Nat}, outside z zz l = true → ∀ j ∈ l, j < z ∨ zz ≤ j
  | j :: t, h, k, hk => by
    simp only [outside, Bool.and_eq_true, Bool.or_eq_true] at h
    rcases List.mem_cons.1 hk with rfl | hk
    · rcases h.1 with h | h
      · exact .inl (by simpa using h)
      · exact .inr (Nat.le_of_ble_eq_true h)
    · exact outside_mem h.2 k hk

/-- Of a row only a beginning is told. -/
inductive Trim : St → St → Prop
  | refl (st : St) : Trim st st
  | row (st : St) (i : Nat) (l l' : List D) (k : Nat) (e : TypeId) (h : look st.aw i = some (.row l k e)) (hl : ∃ t, l = l' ++ t) : Trim st ⟨st.env, (i, .row l' k e) :: st.aw, st.n, st.sz⟩

theorem repDs_pref {H : Nat → Option Obj} : ∀ (l t : List D) (vs : List Value), repDs H (l ++ t) vs → repDs H l vs
  | [], t, vs, h => trivial
  | d :: l, t, vs, h => by
    simp only [List.cons_append, repDs] at h ⊢
    obtain ⟨u, us, h1, h2, h3⟩ := h
    exact ⟨u, us, h1, h2, repDs_pref l t us h3⟩

theorem trim_ok {P : Program} {w0 : World} {M : Nat → Prop} {H0 E : Emb} {st st' : St} {a : Act} {w : World} (h : Trim st st') (hR : R w0 M H0 E st a w) : R w0 M H0 E st' a w := by
  cases h with
  | refl => exact hR
  | row i l l' k e h hl =>
    obtain ⟨t, rfl⟩ := hl
    have hW := hR.wr
    have back : ∀ j y, look ((i, Blk.row l' k e) :: st.aw) j = some y → y.live = true → ∃ y', look st.aw j = some y' ∧ y'.live = true := by
      intro j y h1 h2
      rw [look_cons] at h1
      split at h1
      · rename_i q; subst q; exact ⟨_, h, rfl⟩
      · exact ⟨y, h1, h2⟩
    refine ⟨hR.env, ⟨?_, hW.ro, ?_, hW.dom, ?_, hW.none_n, hW.frame⟩, hR.lt, hR.hle, hR.hnew, hR.sz, hR.dfs⟩
    · intro j b hb
      rw [look_cons] at hb
      split at hb
      · rename_i q
        cases hb; subst q
        rcases hW.blk _ _ h with ⟨h1, h2⟩ | ⟨b, c, h1, h2, h3, h4, h5⟩
        · exact .inl ⟨h1, (List.append_eq_nil_iff.1 h2).1⟩
        · exact .inr ⟨b, c, h1, h2, h3, h4, repDs_pref _ _ _ h5⟩
      · exact hW.blk j b hb
    · intro j q b x y h1 h2 h3 h4 h5 h6
      obtain ⟨x', g1, g2⟩ := back j x h1 h2
      obtain ⟨y', g3, g4⟩ := back q y h3 h4
      exact hW.inj j q b x' y' g1 g2 g3 g4 h5 h6
    · intro j y b h1 h2 h3
      obtain ⟨x', g1, g2⟩ := back j y h1 h2
      exact hW.own j x' b g1 g2 h3

inductive FinM (I : Prims) (z zz : Nat) (tt : TT) (rs : List ResultVar) (st : St) (r : Res) : Prop
  | mk (st1 : St) (ht : Trim st st1) (vs : List Vt) (st' : St) (X : V) (f : List (Nat × Nat)) (W : List (Nat × Blk)) (h0 : St.virts vs st1 = some st') (hX : resV tt st' rs = some X) (h1 : V.out I f st'.aw X = some r.val)
      (h2 : St.view I z f [] (Nat.add zz r.dn) st' = some ⟨[], W, Nat.add zz r.dn, st'.sz⟩) (h3 : outside z zz (news f) = true) (h4 : r.wr = W ++ deads z (Nat.sub zz z))

def FinE (I : Prims) (z zz : Nat) (tt : TT) (rs : List ResultVar) (r : Res) : Exit → St → Prop
  | .normal, st => FinM I z zz tt rs st r
  | .ret, st => FinM I z zz tt rs st r
  | _, _ => False

def Emb.upto (X : Emb) (z : Nat) : Emb := ⟨fun i => if i < z then X.ρ i else none, fun i => if i < z then X.κ i else 0, X.H⟩
theorem Emb.upto_le (X : Emb) (z : Nat) : EmbLe (X.upto z) X := by
  refine ⟨fun i x h => ?_, fun i x h => ?_, fun b o h => h⟩
  · simp only [Emb.upto] at h; split at h
    · exact h
    · cases h
  · simp only [Emb.upto] at h ⊢; split at h
    · rename_i hi; rw [if_pos hi]
    · cases h

theorem specM_of_bwp (cuts : List Nat) (hTT : TabOK P tt) (hmix : P.follows .mixedOrders = true) {z zz : Nat} (hz : z ≤ zz) {aw : List (Nat × Blk)}
    {g : FuncId} {fn : Func} {c : Code} {args : List V} {r : Res} (hf : P.funcs[g]? = some fn) (hb : fn.body = some c) (hn : (fn.name == "runtime.NumGoroutine") = false)
    (hl : args.length ≤ fn.ntmps) (hlive : liveN aw zz = true) (haw : ∀ i b, look aw i = some b → i < zz) (h : bwp P std tt cuts z c (FinE std z zz tt fn.results.toList r) ⟨number args 0, aw, zz, fn.ntmps⟩) : SpecM P g zz aw args r := by
  refine ⟨⟨fn, hf, hn, by rw [hb]; rfl⟩, fun X w xs hW hX hargs => ?_⟩
  have hdraw := fun (id : Nat) (ops : Array Oper) (Q : Exit → St → Prop) (st : St) h E a w' hR => region_draw (w0 := w) (M := mine X aw) (H0 := X.upto z) hTT hmix id ops Q st h E a w' hR
  have hX0 : ∀ i x, (X.upto z).ρ i = some x → i < z := by
    intro i x h
    simp only [Emb.upto] at h
    split at h
    · assumption
    · cases h
  have hlen := repVs_len _ _ hargs
  have hR : R w (mine X aw) (X.upto z) X ⟨number args 0, aw, zz, fn.ntmps⟩ { tmps := xs ++ Array.replicate (fn.ntmps - xs.size) undef, defers := [] } w := by
    refine ⟨?_, hW, hX, X.upto_le z, fun b o h => .inl h, ?_, rfl⟩
    · intro t v hv
      obtain ⟨_, h2⟩ := number_look args 0 t v hv
      obtain ⟨u, hu, hr⟩ := repVs_get _ _ hargs t v (by simpa using h2)
      refine ⟨u, ?_, hr⟩
      have hu' : xs[t]? = some u := by simpa using hu
      rw [Array.getElem?_append_left (Array.getElem?_eq_some_iff.1 hu').1]
      exact hu'
    · simp only [Array.size_append, Array.size_replicate]
      have : xs.size = args.length := by rw [← hlen]; simp
      show xs.size + (fn.ntmps - xs.size) = fn.ntmps
      omega
  have hwp := bwp_sound cuts hX0 hTT hdraw c _ _ h X _ w hR
  refine calls_of_wp hf hb (wp_mono hwp ?_)
  rintro e a w' ⟨E, st, hR, hq⟩
  have fin : FinM std z zz tt fn.results.toList st r → a.defers = [] ∧ ∃ v, (results fn a.tmps).run P w' = .ok v w' ∧ ∃ v' E', Ending.returned v = .returned v' ∧ Did aw X zz w r E' w' v' := by
    intro hq
    obtain ⟨st1, ht, vs, st0, Y, f, W, h0, hY, h1, h2, h3', h4'⟩ := hq
    have hR := trim_ok (P := P) ht hR
    obtain ⟨E, hR⟩ := virts_ok vs st1 st0 E hR h0
    obtain ⟨v, h3, h4⟩ := resV_run hTT hR hY
    have hV := view_at hX0 hR h2
    have hc : (distinctN (news f) = true ∧ keepsN f z = true) ∧ ∀ i j, (i, j) ∈ f → (look W j).isSome = true := by
      unfold St.view at h2
      simp only [cond_eq_ite, Bool.and_eq_true] at h2
      split at h2
      · rename_i hc
        refine ⟨⟨hc.1.1.1, hc.2⟩, ?_⟩
        split at h2
        · rename_i e q he hq
          cases h2
          exact outAw_some f _ hq
        · cases h2
      · cases h2
    have hd := hc.1.1
    have hold : ∀ i, i < zz → ∃ x, X.ρ i = some x := by
      intro i hi
      obtain ⟨b, hb, hbl⟩ := liveN_look hlive i hi
      have := hW.blk i b hb
      cases b with
      | row l k e => rcases this with ⟨h, _⟩ | ⟨_, _, h, _⟩ <;> exact ⟨_, h⟩
      | box l => obtain ⟨_, _, _, h, _⟩ := this; exact ⟨_, h⟩
      | mp _ _ l => obtain ⟨_, _, _, h, _⟩ := this; exact ⟨_, h⟩
      | mb _ _ _ _ => obtain ⟨_, _, h, _⟩ := this; exact ⟨_, h⟩
      | it _ _ _ => obtain ⟨_, _, h, _⟩ := this; exact ⟨_, h⟩
      | dead => cases hbl
    have hout := outside_mem h3'
    have hgap : ∀ i, z ≤ i → i < zz → (E.view f (frz z st0.aw) w').ρ i = none := by
      intro i h1 h2
      cases hr : rev f i with
      | none => simp [Emb.view, hr]
      | some q => rcases hout i (mem_news (rev_mem hr)) with h | h <;> omega
    have hWin : ∀ i x, look W i = some x → i < z ∨ zz ≤ i := by
      intro i x hx
      unfold St.view at h2
      simp only [cond_eq_ite] at h2
      split at h2
      · split at h2
        · rename_i e q he hq
          cases h2
          obtain ⟨i', _, hm, _⟩ := outAw_look f _ hq i x hx
          exact hout i (mem_news hm)
        · cases h2
      · cases h2
    have hwr : ∀ i, i < zz → (look r.wr i).isSome = true := by
      intro i hi
      rw [h4', look_append]
      by_cases hz' : i < z
      · have := hc.2 i i (mem_of_look (keepsN_look hc.1.2 i hz'))
        cases hW' : look W i with
        | some x => rfl
        | none => rw [hW'] at this; cases this
      · cases hW' : look W i with
        | some x => rfl
        | none =>
          simp only [look_deads]
          rw [if_pos ⟨by omega, by show i < z + (zz - z); omega⟩]; rfl
    have lkW : ∀ i x, look r.wr i = some x → x.live = true → look W i = some x := by
      intro i x h hl
      rw [h4', look_append] at h
      cases hW' : look W i with
      | some y => rw [hW'] at h; exact h
      | none =>
        rw [hW'] at h
        simp only [look_deads] at h
        split at h
        · cases h; cases hl
        · cases h
    have lk : ∀ i x, look (r.wr ++ aw) i = some x → look r.wr i = some x := by
      intro i x h
      rw [look_append] at h
      split at h
      · rename_i q hq; rw [hq]; exact h
      · rename_i hq
        have := hwr i (haw i x h)
        rw [hq] at this; cases this
    let V := E.view f (frz z st0.aw) w'
    let E' : Emb := ⟨fun i => if z ≤ i ∧ i < zz then X.ρ i else V.ρ i, fun i => if z ≤ i ∧ i < zz then X.κ i else V.κ i, V.H⟩
    have hE' : ∀ i, (i < z ∨ zz ≤ i) → E'.ρ i = V.ρ i ∧ E'.κ i = V.κ i := by
      intro i hi
      have : ¬ (z ≤ i ∧ i < zz) := by omega
      exact ⟨if_neg this, if_neg this⟩
    have hE2 : ∀ i, z ≤ i → i < zz → E'.ρ i = X.ρ i ∧ E'.κ i = X.κ i := fun i h1 h2 => ⟨if_pos ⟨h1, h2⟩, if_pos ⟨h1, h2⟩⟩
    have hup : ∀ i x, i < z → X.ρ i = some x → (X.upto z).ρ i = some x := fun i x hi hx => by simp only [Emb.upto]; rw [if_pos hi]; exact hx
    have hVE : EmbLe V E' := by
      refine ⟨fun i x hx => ?_, fun i x hx => ?_, fun b o h => h⟩
      · by_cases hi : z ≤ i ∧ i < zz
        · have := hgap i hi.1 hi.2
          rw [this] at hx; cases hx
        · rw [(hE' i (by omega)).1]; exact hx
      · by_cases hi : z ≤ i ∧ i < zz
        · have := hgap i hi.1 hi.2
          rw [this] at hx; cases hx
        · exact (hE' i (by omega)).2
    have hXE : EmbLe X E' := by
      refine ⟨fun i x hx => ?_, fun i x hx => ?_, fun b o h => hV.hle.2.2 b o h⟩
      · by_cases hi : i < z
        · rw [(hE' i (.inl hi)).1]; exact hV.hle.1 i x (hup i x hi hx)
        · rw [(hE2 i (by omega) (hX i x hx)).1]; exact hx
      · by_cases hi : i < z
        · rw [(hE' i (.inl hi)).2, hV.hle.2.1 i x (hup i x hi hx)]
          simp only [Emb.upto]; rw [if_pos hi]
        · exact (hE2 i (by omega) (hX i x hx)).2
    refine ⟨hR.dfs, v, h3, v, E', rfl, ⟨hXE, ?_, ?_, ?_, ?_, ?_, ?_, repV_mono hVE _ _ (out_rep (f := f) hR.wr hd Y _ h1 v h4)⟩⟩
    · intro b o hb
      have hb : V.H b = some o := hb
      rcases hV.hnew b o hb with h5 | h5 | h5
      · exact .inl h5
      · exact .inr ⟨hV.wr.ro b o hb, .inl h5⟩
      · exact .inr ⟨hV.wr.ro b o hb, .inr h5⟩
    · intro i x hx
      by_cases hi : i < zz
      · obtain ⟨x', hx'⟩ := hold i hi
        have := hXE.1 i x' hx'
        rw [this] at hx; cases hx; exact .inl hx'
      · rw [(hE' i (.inr (by omega))).1] at hx
        refine .inr ⟨by omega, hV.lt i x hx, fun b hb => ?_⟩
        subst hb
        obtain ⟨h6, h7⟩ := hV.wr.dom i b hx
        rcases h7 with h7 | ⟨j, y, h8, _⟩
        · exact .inl ⟨h7, h6⟩
        · exact .inr ⟨j, h8⟩
    · intro i y b h1 h2 h5
      have h6 := lkW i y (lk i y h1) h2
      rw [(hE' i (hWin i y h6)).1] at h5
      exact hV.wr.own i y b h6 h2 h5
    · intro i j b x y h1 h2 h3 h4 h5 h6
      have g1 := lkW i x (lk i x h1) h2
      have g2 := lkW j y (lk j y h3) h4
      rw [(hE' i (hWin i x g1)).1] at h5
      rw [(hE' j (hWin j y g2)).1] at h6
      exact hV.wr.inj i j b x y g1 h2 g2 h4 h5 h6
    · have fr := hV.wr.frame
      exact ⟨mine X aw, ⟨fr.os, fr.tape, fr.output, fr.size, fun k hk hn => fr.block k hk hn, fr.drawn⟩, fun k ⟨i, y, h1, h2, h3⟩ => ⟨i, y, h1, h2, h3, hwr i (haw i y h2)⟩⟩
    · intro i b hb
      cases hbl : b.live with
      | false => cases b <;> first | trivial | cases hbl
      | true => exact (hV.wr.blk i b (lkW i b hb hbl)).keep hVE (fun _ _ => rfl)
  cases e with
  | normal => exact fin hq
  | ret => exact fin hq
  | exit id => exact hq.elim
  | goto l => exact hq.elim
  | panic ch => exact hq.elim
  | outgrown => exact hq.elim
/-- Where nothing is handed in. -/
theorem SpecM.spec {g : FuncId} {args : List V} {r : Res} (h : SpecM P g 0 [] args r) : Spec P g args r :=
  ⟨h.1, fun H w xs hH hargs => h.2 (E0 H) w xs ⟨fun i b h => (by cases h), hH, fun i j b x y h => (by cases h), fun i b h => (by cases h), fun i y b h => (by cases h), rfl, ⟨rfl, rfl, rfl, Nat.le_refl _, fun _ _ _ => rfl, Nat.le_refl _⟩⟩ (fun i x h => by cases h) hargs⟩
theorem spec_of_bwp (cuts : List Nat) (hTT : TabOK P tt) (hmix : P.follows .mixedOrders = true)
    {g : FuncId} {fn : Func} {c : Code} {args : List V} {r : Res} (hf : P.funcs[g]? = some fn) (hb : fn.body = some c) (hn : (fn.name == "runtime.NumGoroutine") = false)
    (hl : args.length ≤ fn.ntmps) (h : bwp P std tt cuts 0 c (FinE std 0 0 tt fn.results.toList r) ⟨number args 0, [], 0, fn.ntmps⟩) : Spec P g args r :=
  (specM_of_bwp cuts hTT hmix (z := 0) (zz := 0) (Nat.le_refl _) (aw := []) hf hb hn hl rfl (fun i b h => by cases h) h).spec
end
end Go.AX

namespace Go.AX
set_option autoImplicit false
set_option linter.unusedVariables false
set_option linter.unusedSectionVars false

def Let {α β : Type} (e : α) (f : α → Option β) : Option β := f e
def Bnd {α β : Type} (e : Option α) (f : α → Option β) : Option β := match e with | some x => f x | none => none
def Jn {α β : Type} (j : α → Option β) (k : (α → Option β) → Option β) : Option β := k j
def at? {α : Type} (l : List α) (i : Int) : Option α := if 0 ≤ i then l[i.toNat]? else none
def set' {α : Type} (l : List α) (i : Int) (x : α) : List α := l.set i.toNat x
def ln {α : Type} (l : List α) : Int := (l.length : Int)
def app? {α : Type} (b : Nat) (l m : List α) : Option (List α) := if (l.length + m.length) * b ≤ 140737488355328 ∧ l.length + m.length ≤ 4611686018427387904 then some (l ++ m) else none
def mk? {α : Type} (b : Nat) (z : α) (n c : Int) : Option (List α) := if (0 ≤ n ∧ n ≤ c ∧ c ≤ 4611686018427387904) ∧ c.toNat * b ≤ 140737488355328 then some (List.replicate n.toNat z) else none
def sub? {α : Type} (l : List α) (a b : Int) : Option (List α) := if 0 ≤ a ∧ a ≤ b ∧ b ≤ (l.length : Int) then some ((l.drop a.toNat).take (b.toNat - a.toNat)) else none
def from? {α : Type} (l : List α) (a : Int) : Option (List α) := if 0 ≤ a ∧ a ≤ (l.length : Int) then some (l.drop a.toNat) else none
def upto? {α : Type} (l : List α) (b : Int) : Option (List α) := if 0 ≤ b ∧ b ≤ (l.length : Int) then some (l.take b.toNat) else none
def nz? (b : Int) : Option Unit := if b = 0 then none else some ()
def FUEL : Nat := 1099511627776
def loopN {σ ρ : Type} (step : σ → Option (Sum σ ρ)) : Nat → σ → Option ρ
  | 0, _ => none
  | n + 1, s => match step s with
    | none => none
    | some (.inl s') => loopN step n s'
    | some (.inr r) => some r
def loop {σ ρ : Type} (step : σ → Option (Sum σ ρ)) (s : σ) : Option ρ := loopN step FUEL s

abbrev iadd (a b : Int) : Int := binI .add .i64 a b
abbrev isub (a b : Int) : Int := binI .sub .i64 a b
abbrev imul (a b : Int) : Int := binI .mul .i64 a b
abbrev ceq (a b : Int) : Bool := cmpI .eql a b
abbrev cne (a b : Int) : Bool := cmpI .neq a b
abbrev clt (a b : Int) : Bool := cmpI .lss a b
abbrev cle (a b : Int) : Bool := cmpI .leq a b
abbrev cgt (a b : Int) : Bool := cmpI .gtr a b
abbrev cge (a b : Int) : Bool := cmpI .geq a b

/-- Three numbers. -/
structure A3 where
  x0 : Int
  x1 : Int
  x2 : Int
  deriving DecidableEq
def A3.l (a : A3) : List Int := [a.x0, a.x1, a.x2]
def A3.put (a : A3) (i : Int) (v : Int) : A3 := ⟨if i = 0 then v else a.x0, if i = 1 then v else a.x1, if i = 2 then v else a.x2⟩
/-- An array. -/
structure Ar (n : Nat) where
  l : List Int
  h : l.length = n
def Ar.zero (n : Nat) : Ar n := ⟨List.replicate n 0, by simp⟩
def Ar.put {n : Nat} (a : Ar n) (i : Int) (v : Int) : Ar n := ⟨a.l.set i.toNat v, by simp [a.h]⟩

/-- Elements' cells. -/
def encL {α : Type} (f : α → List D) (l : List α) : List D := l.flatMap f
structure IsL {α : Type} (f : α → List D) (cs : List D) (n : Nat) (l : List α) : Prop where
  cs : cs = encL f l
  n : n = l.length
def eI (k : IntKind) (x : Int) : List D := [.int k x]
def eB (x : Bool) : List D := [.bool x]

theorem encL_len {α : Type} {f : α → List D} {k : Nat} (hk : ∀ a, (f a).length = k) (l : List α) : (encL f l).length = l.length * k := by
  unfold encL
  induction l with
  | nil => simp
  | cons x t ih => simp only [List.flatMap_cons, List.length_append, List.length_cons, hk, ih, Nat.add_mul]; omega
theorem encL_drop {α : Type} {f : α → List D} {k : Nat} (hk : ∀ a, (f a).length = k) : ∀ (l : List α) (i : Nat), (encL f l).drop (i * k) = encL f (l.drop i)
  | l, 0 => by simp
  | [], i + 1 => by simp [encL]
  | x :: t, i + 1 => by
    rw [show (i + 1) * k = k + i * k by rw [Nat.add_mul]; omega, ← List.drop_drop]
    show ((f x ++ encL f t).drop k).drop (i * k) = _
    rw [List.drop_left' (hk x), encL_drop hk t i]; rfl
theorem encL_take {α : Type} {f : α → List D} {k : Nat} (hk : ∀ a, (f a).length = k) : ∀ (l : List α) (i : Nat), (encL f l).take (i * k) = encL f (l.take i)
  | l, 0 => by simp [encL]
  | [], i + 1 => by simp [encL]
  | x :: t, i + 1 => by
    rw [show (i + 1) * k = k + i * k by rw [Nat.add_mul]; omega]
    show (f x ++ encL f t).take (k + i * k) = _
    rw [List.take_append, hk, List.take_of_length_le (by rw [hk]; omega), show k + i * k - k = i * k by omega, encL_take hk t i]; rfl
theorem encL_app {α : Type} {f : α → List D} (l m : List α) : encL f l ++ encL f m = encL f (l ++ m) := by simp [encL]
theorem encL_get {α : Type} {f : α → List D} {k : Nat} (hk : ∀ a, (f a).length = k) {l : List α} {i : Nat} {y : α} (h : l[i]? = some y) (q : Nat) (hq : q < k) : (encL f l)[i * k + q]? = (f y)[q]? := by
  have := encL_drop hk l i
  have h1 : l.drop i = y :: l.drop (i + 1) := by
    obtain ⟨h2, h3⟩ := List.getElem?_eq_some_iff.1 h
    rw [List.drop_eq_getElem_cons h2, h3]
  rw [h1] at this
  rw [← List.getElem?_drop, this]
  show (f y ++ encL f _)[q]? = _
  rw [List.getElem?_append_left (by rw [hk]; exact hq)]
theorem setAll_len {l : List D} {off : Nat} : ∀ (ds : List D) (p : Nat), (setAll std l off ds p).length = l.length
  | [], p => rfl
  | d :: t, p => by show ((setAll std l off t (p + 1)).set (off + p) d).length = _; rw [List.length_set, setAll_len t]
theorem setAll_mid {a y b : List D} {j : Nat} : ∀ (ds : List D) (p : Nat), j + p + ds.length ≤ y.length → setAll std (a ++ (y ++ b)) (a.length + j) ds p = a ++ (setAll std y j ds p ++ b)
  | [], p, h => rfl
  | d :: t, p, h => by
    simp only [List.length_cons] at h
    show (setAll std (a ++ (y ++ b)) (a.length + j) t (p + 1)).set (a.length + j + p) d = a ++ ((setAll std y j t (p + 1)).set (j + p) d ++ b)
    rw [setAll_mid t (p + 1) (by omega), List.set_append_right _ _ (by omega), show a.length + j + p - a.length = j + p by omega, List.set_append_left _ _ (by rw [setAll_len]; omega)]
theorem encL_cons {α : Type} {f : α → List D} (x : α) (l : List α) : encL f (x :: l) = f x ++ encL f l := rfl
theorem encL_setAll {α : Type} {f : α → List D} {k : Nat} (hk : ∀ a, (f a).length = k) {l : List α} {i : Nat} {y z : α} (h : l[i]? = some y) {j : Nat} {ds : List D} (hj : j + ds.length ≤ k) (hz : setAll std (f y) j ds 0 = f z) :
    setAll std (encL f l) (i * k + j) ds 0 = encL f (l.set i z) := by
  obtain ⟨h1, h2⟩ := List.getElem?_eq_some_iff.1 h
  have e1 : l = l.take i ++ (y :: l.drop (i + 1)) := by rw [← h2, ← List.drop_eq_getElem_cons h1, List.take_append_drop]
  have e2 : l.set i z = l.take i ++ (z :: l.drop (i + 1)) := by rw [List.set_eq_take_append_cons_drop, if_pos h1]
  have e3 : (encL f (l.take i)).length = i * k := by rw [encL_len hk, List.length_take]; rw [Nat.min_eq_left (by omega)]
  rw [e2]
  conv => lhs; rw [e1]
  rw [← encL_app, ← encL_app, encL_cons, encL_cons, ← e3, setAll_mid ds 0 (by rw [hk]; omega), hz]

theorem at?_eq {α : Type} {l : List α} {i : Int} {y : α} (h : at? l i = some y) : 0 ≤ i ∧ l[i.toNat]? = some y := by
  unfold at? at h; split at h
  · exact ⟨by assumption, h⟩
  · cases h
theorem at?_lt {α : Type} {l : List α} {i : Int} {y : α} (h : at? l i = some y) : 0 ≤ i ∧ i < (l.length : Int) := by
  obtain ⟨h1, h2⟩ := at?_eq h
  have := (List.getElem?_eq_some_iff.1 h2).1
  omega

theorem bnd {α β : Type} {e : Option α} {f : α → Option β} {r : β} (h : Bnd e f = some r) : ∃ x, e = some x ∧ f x = some r := by
  cases e with
  | none => cases h
  | some x => exact ⟨x, rfl, h⟩

section
variable {J : PF} (hJ : J = stdJ) {R : Type} {r : R} {K : Res → Prop}
include hJ

theorem st_bin {op : BinOp} {k : IntKind} {a b : Int} {f : Int → Option R} (nx : ∀ v, v = binI op k a b → f v = some r → K ⟨.d (.int k v), [], 0, True⟩) (h : Let (binI op k a b) f = some r) :
    OpP (some ⟨.d (.int k (J .bin op k a b)), [], 0, True⟩) K := by
  subst hJ; exact ⟨_, _, _, ⟨_, rfl, trivial⟩, nx _ rfl h⟩
theorem st_div {op : BinOp} {k : IntKind} {a b : Int} {f : Int → Option R} (nx : ∀ v, b ≠ 0 → v = binI op k a b → f v = some r → K ⟨.d (.int k v), [], 0, True⟩) (h : Bnd (nz? b) (fun _ => Let (binI op k a b) f) = some r) :
    OpP (some ⟨.d (.int k (J .bin op k a b)), [], 0, J .nz b⟩) K := by
  subst hJ
  obtain ⟨x, h1, h2⟩ := bnd h
  unfold nz? at h1
  split at h1
  · cases h1
  · rename_i hb; exact ⟨_, _, _, ⟨_, rfl, hb⟩, nx _ hb rfl h2⟩
theorem st_cmp {op : BinOp} {a b : Int} {f : Bool → Option R} (nx : ∀ v, v = cmpI op a b → f v = some r → K ⟨.d (.bool v), [], 0, True⟩) (h : Let (cmpI op a b) f = some r) :
    OpP (some ⟨.d (.bool (J .cmp op a b)), [], 0, True⟩) K := by
  subst hJ; exact ⟨_, _, _, ⟨_, rfl, trivial⟩, nx _ rfl h⟩
theorem st_eqb {a b : Bool} {f : Bool → Option R} (nx : ∀ v, v = (a == b) → f v = some r → K ⟨.d (.bool v), [], 0, True⟩) (h : Let (a == b) f = some r) :
    OpP (some ⟨.d (.bool (J .eqb a b)), [], 0, True⟩) K := by
  subst hJ; exact ⟨_, _, _, ⟨_, rfl, trivial⟩, nx _ rfl h⟩
theorem st_neb {a b : Bool} {f : Bool → Option R} (nx : ∀ v, v = (!(a == b)) → f v = some r → K ⟨.d (.bool v), [], 0, True⟩) (h : Let (!(a == b)) f = some r) :
    OpP (some ⟨.d (.bool (J .not (J .eqb a b))), [], 0, True⟩) K := by
  subst hJ; exact ⟨_, _, _, ⟨_, rfl, trivial⟩, nx _ rfl h⟩
theorem st_not {a : Bool} {f : Bool → Option R} (nx : ∀ v, v = (!a) → f v = some r → K ⟨.d (.bool v), [], 0, True⟩) (h : Let (!a) f = some r) :
    OpP (some ⟨.d (.bool (J .not a)), [], 0, True⟩) K := by
  subst hJ; exact ⟨_, _, _, ⟨_, rfl, trivial⟩, nx _ rfl h⟩
theorem st_conv {k : IntKind} {a : Int} {f : Int → Option R} (nx : ∀ v, v = k.wrap a → f v = some r → K ⟨.d (.int k v), [], 0, True⟩) (h : Let (k.wrap a) f = some r) :
    OpP (some ⟨.d (.int k (J .wrap k a)), [], 0, True⟩) K := by
  subst hJ; exact ⟨_, _, _, ⟨_, rfl, trivial⟩, nx _ rfl h⟩
theorem st_selI {k : IntKind} {c : Bool} {a b : Int} {f : Int → Option R} (nx : ∀ v, v = (if c then a else b) → f v = some r → K ⟨.d (.int k v), [], 0, True⟩) (h : Let (if c then a else b) f = some r) :
    OpP (some ⟨.d (.int k (J .selI c a b)), [], 0, True⟩) K := by
  subst hJ; exact ⟨_, _, _, ⟨_, rfl, trivial⟩, nx _ rfl h⟩
theorem st_selB {c : Bool} {a b : Bool} {f : Bool → Option R} (nx : ∀ v, v = (if c then a else b) → f v = some r → K ⟨.d (.bool v), [], 0, True⟩) (h : Let (if c then a else b) f = some r) :
    OpP (some ⟨.d (.bool (J .selB c a b)), [], 0, True⟩) K := by
  subst hJ; exact ⟨_, _, _, ⟨_, rfl, trivial⟩, nx _ rfl h⟩
theorem st_min {k : IntKind} {a b : Int} {f : Int → Option R} (nx : ∀ v, v = (if b < a then b else a) → f v = some r → K ⟨.d (.int k v), [], 0, True⟩) (h : Let (if b < a then b else a) f = some r) :
    OpP (some ⟨.d (.int k (J .minI a b)), [], 0, True⟩) K := by
  subst hJ; exact ⟨_, _, _, ⟨_, rfl, trivial⟩, nx _ rfl h⟩
theorem st_max {k : IntKind} {a b : Int} {f : Int → Option R} (nx : ∀ v, v = (if b > a then b else a) → f v = some r → K ⟨.d (.int k v), [], 0, True⟩) (h : Let (if b > a then b else a) f = some r) :
    OpP (some ⟨.d (.int k (J .maxI a b)), [], 0, True⟩) K := by
  subst hJ; exact ⟨_, _, _, ⟨_, rfl, trivial⟩, nx _ rfl h⟩
/-- A value of a bool that is told already. -/
theorem st_val {v : V} (nx : K ⟨v, [], 0, True⟩) : OpP (some ⟨v, [], 0, True⟩) K := ⟨_, _, _, ⟨_, rfl, trivial⟩, nx⟩

theorem st_len {α : Type} {g : α → List D} {cs : List D} {n : Nat} {L : List α} (hL : IsL g cs n L) {f : Int → Option R} (nx : ∀ v, v = ln L → f v = some r → K ⟨.d (.int .i64 v), [], 0, True⟩) (h : Let (ln L) f = some r) :
    OpP (some ⟨.d (.int .i64 (J .ofNat n)), [], 0, True⟩) K := by
  subst hJ; rw [hL.n]; exact ⟨_, _, _, ⟨_, rfl, trivial⟩, nx _ rfl h⟩

theorem st_idx_lp {α : Type} {g : α → List D} {cs : List D} {n k : Nat} {L : List α} (hL : IsL g cs n L) {i : Int} {f : α → Option R} (nx : ∀ y o, at? L i = some y → o = i.toNat * k → f y = some r → K ⟨.lp cs o, [], 0, True⟩) (h : Bnd (at? L i) f = some r) : OpP (some ⟨.lp cs (J .idx 0 (J .toNat i) k), [], 0, J .inR 0 i n⟩) K := by
  subst hJ
  obtain ⟨y, h1, h2⟩ := bnd h
  refine ⟨.lp cs (i.toNat * k), _, _, ⟨stdJ .inR 0 i n, ?_, ?_⟩, nx y _ h1 rfl h2⟩
  · show some (⟨.lp cs (0 + i.toNat * k), [], 0, stdJ .inR 0 i n⟩ : Res) = _
    rw [Nat.zero_add]
  · show 0 ≤ i ∧ i < (n : Int)
    rw [hL.n]; exact at?_lt h1
theorem st_idx_pr {α : Type} {g : α → List D} {cs : List D} {n k id : Nat} {L : List α} (hL : IsL g cs n L) {i : Int} {f : α → Option R} (nx : ∀ y o, at? L i = some y → o = i.toNat * k → f y = some r → K ⟨.pr id o, [], 0, True⟩) (h : Bnd (at? L i) f = some r) : OpP (some ⟨.pr id (J .idx 0 (J .toNat i) k), [], 0, J .inR 0 i n⟩) K := by
  subst hJ
  obtain ⟨y, h1, h2⟩ := bnd h
  refine ⟨.pr id (i.toNat * k), _, _, ⟨stdJ .inR 0 i n, ?_, ?_⟩, nx y _ h1 rfl h2⟩
  · show some (⟨.pr id (0 + i.toNat * k), [], 0, stdJ .inR 0 i n⟩ : Res) = _
    rw [Nat.zero_add]
  · show 0 ≤ i ∧ i < (n : Int)
    rw [hL.n]; exact at?_lt h1
/-- An index into three numbers. -/
theorem st_idx_px {id s : Nat} {L : List Int} {m : Nat} (hm : L.length = m) {i : Int} {f : Int → Option R} (nx : ∀ y q, at? L i = some y → q = i.toNat → f y = some r → K ⟨.px id s m 1 q 0, [], 0, True⟩) (h : Bnd (at? L i) f = some r) : OpP (some ⟨.px id s m 1 (J .toNat i) 0, [], 0, J .inR 0 i m⟩) K := by
  subst hJ
  obtain ⟨y, h1, h2⟩ := bnd h
  refine ⟨.px id s m 1 i.toNat 0, _, _, ⟨_, rfl, ?_⟩, nx y _ h1 rfl h2⟩
  show 0 ≤ i ∧ i < (m : Int)
  rw [← hm]; exact at?_lt h1
theorem st_put_px {id n : Nat} {l l' : List D} {wr : List (Nat × Blk)} {q m : Nat} (hq : q < m) (h : ∀ x, x = wr → K ⟨.tup [], x, 0, True⟩) : OpP (some ⟨.tup [], wr, 0, J .leN (J .add (J .idx 0 q 1) 1) m⟩) K := by
  subst hJ
  refine ⟨_, _, _, ⟨_, rfl, ?_⟩, h _ rfl⟩
  show 0 + q * 1 + 1 ≤ m; omega

end

/-- A type's leaves, out of data. -/
inductive Mat : List Leaf → List D → List V → Prop
  | nil : Mat [] [] []
  | int {k : IntKind} {n : Int} {t : List Leaf} {ds : List D} {vs : List V} (h : Mat t ds vs) : Mat (.int k :: t) (.int k n :: ds) (.d (.int k n) :: vs)
  | bool {b : Bool} {t : List Leaf} {ds : List D} {vs : List V} (h : Mat t ds vs) : Mat (.bool :: t) (.bool b :: ds) (.d (.bool b) :: vs)
  | slc {k : Nat} {c : List D} {n : Nat} {t : List Leaf} {ds : List D} {vs : List V} (h : Mat t ds vs) : Mat (.slc k :: t) (.lst c n :: ds) (.d (.lst c n) :: vs)
  | big {n : Nat} {k : IntKind} {l : List D} (hl : l.length = n ∧ 0 < n) {t : List Leaf} {ds : List D} {vs : List V} (h : Mat t ds vs) : Mat (.big n k :: t) (l ++ ds) (.big n l :: vs)

theorem mat_rd {cells : List D} {o : Nat} {ls : List Leaf} {ds : List D} {vs : List V} (h : Mat ls ds vs) : ∀ (p : Nat), (∀ q, q < ds.length → cells[o + p + q]? = ds[q]?) → ∃ s, rdLs std cells o ls p = some (vs, s) ∧ s := by
  have gd : ∀ i d, cells[i]? = some d → cells.getD i default = d := by
    intro i d hd; rw [List.getD_eq_getElem?_getD, hd]; rfl
  induction h with
  | nil => intro p _; exact ⟨_, rfl, trivial⟩
  | @int k n t ds vs h ih =>
    intro p hs
    have h1 : cells[o + p]? = some (.int k n) := by simpa using hs 0 (by simp)
    obtain ⟨s, h3, h4⟩ := ih (p + 1) (fun q hq => by
      have := hs (q + 1) (by simpa using hq)
      rw [show o + p + (q + 1) = o + (p + 1) + q by omega] at this
      simpa using this)
    have e1 : std.rdI cells (std.add o p) = n := by show (cells.getD (o + p) default).toI = n; rw [gd _ _ h1]; rfl
    refine ⟨std.has cells (std.add o p) _ ∧ s, ?_, ⟨h1, h4⟩⟩
    simp only [rdLs, Nat.succ_eq_add_one, h3, e1]
  | @bool b t ds vs h ih =>
    intro p hs
    have h1 : cells[o + p]? = some (.bool b) := by simpa using hs 0 (by simp)
    obtain ⟨s, h3, h4⟩ := ih (p + 1) (fun q hq => by
      have := hs (q + 1) (by simpa using hq)
      rw [show o + p + (q + 1) = o + (p + 1) + q by omega] at this
      simpa using this)
    have e1 : std.rdB cells (std.add o p) = b := by show (cells.getD (o + p) default).toB = b; rw [gd _ _ h1]; rfl
    refine ⟨std.has cells (std.add o p) _ ∧ s, ?_, ⟨h1, h4⟩⟩
    simp only [rdLs, Nat.succ_eq_add_one, h3, e1]
  | @slc k c n t ds vs h ih =>
    intro p hs
    have h1 : cells[o + p]? = some (.lst c n) := by simpa using hs 0 (by simp)
    obtain ⟨s, h3, h4⟩ := ih (p + 1) (fun q hq => by
      have := hs (q + 1) (by simpa using hq)
      rw [show o + p + (q + 1) = o + (p + 1) + q by omega] at this
      simpa using this)
    have e1 : std.rdC cells (std.add o p) = c := by show (cells.getD (o + p) default).toC = c; rw [gd _ _ h1]; rfl
    have e2 : std.rdN cells (std.add o p) = n := by show (cells.getD (o + p) default).toN = n; rw [gd _ _ h1]; rfl
    refine ⟨std.has cells (std.add o p) _ ∧ s, ?_, ⟨h1, h4⟩⟩
    simp only [rdLs, Nat.succ_eq_add_one, h3, e1, e2]
  | @big n k l hl t ds vs h ih =>
    intro p hs
    obtain ⟨hl, hpos⟩ := hl
    obtain ⟨s, h3, h4⟩ := ih (p + n) (fun q hq => by
      have := hs (n + q) (by rw [List.length_append]; omega)
      rw [List.getElem?_append_right (by omega), show n + q - l.length = q by omega, show o + p + (n + q) = o + (p + n) + q by omega] at this
      exact this)
    have hle : o + p + n ≤ cells.length := by
      rcases Nat.eq_zero_or_pos n with h0 | h0
      · subst h0
        exact absurd hpos (by omega)
      · have := hs (n - 1) (by rw [List.length_append]; omega)
        rw [List.getElem?_append_left (by omega), List.getElem?_eq_getElem (show n - 1 < l.length by omega)] at this
        have := (List.getElem?_eq_some_iff.1 this).1
        omega
    have e1 : std.take (std.drop cells (std.add o p)) n = l := by
      show (cells.drop (o + p)).take n = l
      apply List.ext_getElem?
      intro q
      rw [List.getElem?_take]
      split
      · rename_i hq
        rw [List.getElem?_drop]
        have := hs q (by rw [List.length_append]; omega)
        rw [List.getElem?_append_left (by omega)] at this
        exact this
      · rw [List.getElem?_eq_none (by omega)]
    refine ⟨std.leN (std.add (std.add o p) n) (std.len cells) ∧ s, ?_, ⟨hle, h4⟩⟩
    simp only [rdLs]
    rw [show Nat.add p n = p + n from rfl, h3]
    simp only [e1]

/-- What stands in a row's element, or in a part of it. -/
theorem st_ld {J : PF} (hJ : J = stdJ) {agg : Bool} {ls : List Leaf} {K : V → Prop} {α : Type} {g : α → List D} {k : Nat} (hk : ∀ a, (g a).length = k) {cs : List D} {n : Nat} {L : List α} (hL : IsL g cs n L)
    {i : Int} {y : α} (hy : at? L i = some y) {o off : Nat} (ho : o = i.toNat * k) (j : Nat) (hoff : J = stdJ → off = o + j) (ds : List D) (hj : j + ds.length ≤ k) (hds : ((g y).drop j).take ds.length = ds) {vs : List V} {v : V}
    (hm : Mat ls ds vs) (hv : asVal agg vs = some v) (k : K v) : LdP (mkI J) agg ls cs off K := by
  refine ⟨vs, v, ?_, hv, k⟩
  rw [hoff hJ, mkI_std hJ, ho, hL.cs]
  refine mat_rd hm 0 fun q hq => ?_
  rw [Nat.add_zero, Nat.add_assoc, encL_get hk (at?_eq hy).2 (j + q) (by omega), ← hds, List.getElem?_take, if_pos hq, List.getElem?_drop]

/-- What stands in an array. -/
theorem st_ldA {J : PF} (hJ : J = stdJ) {kk : IntKind} {K : V → Prop} {cs : List D} {L : List Int} (hL : cs = encL (eI kk) L) {i : Int} {y : Int} (hy : at? L i = some y) {q off : Nat} (hq : q = i.toNat) (hoff : J = stdJ → off = q)
    (k : K (.d (.int kk y))) : LdP (mkI J) false [.int kk] cs off K := by
  refine ⟨[.d (.int kk y)], _, ?_, rfl, k⟩
  rw [hoff hJ, mkI_std hJ, hq, hL]
  refine mat_rd (.int .nil : Mat [.int kk] [.int kk y] _) 0 fun p hp => ?_
  have : p = 0 := by simpa using hp
  subst this
  have h := encL_get (f := eI kk) (k := 1) (fun _ => rfl) (at?_eq hy).2 0 (by omega)
  simpa [eI] using h

theorem st_st {J : PF} (hJ : J = stdJ) {K : List D → Prop} {α : Type} {g : α → List D} {k : Nat} (hk : ∀ a, (g a).length = k) {cs : List D} {n : Nat} {L : List α} (hL : IsL g cs n L)
    {i : Int} {y : α} (hy : at? L i = some y) {o off : Nat} (ho : o = i.toNat * k) (j : Nat) (hoff : J = stdJ → off = o + j) {ds : List D} {size : Nat} (hsz : ds.length = size) (hj : j + size ≤ k) (z : α) (hz : setAll std (g y) j ds 0 = g z)
    {R : Type} {r : R} {f : List α → Option R} (nx : ∀ cs' L', IsL g cs' n L' → f L' = some r → K cs') (h : Let (set' L i z) f = some r) : StP (mkI J) cs off ds size K := by
  obtain ⟨h1, h2⟩ := at?_eq hy
  refine ⟨encL g (set' L i z), ?_, ?_, nx _ _ ⟨rfl, by rw [hL.n]; simp [set']⟩ h⟩
  · rw [hoff hJ, mkI_std hJ, ho, hL.cs]
    exact encL_setAll hk h2 (by rw [hsz]; exact hj) hz
  · rw [hoff hJ, mkI_std hJ, ho, hL.cs]
    show i.toNat * k + j + size ≤ (encL g L).length
    rw [encL_len hk]
    have h3 := (List.getElem?_eq_some_iff.1 h2).1
    have : (i.toNat + 1) * k ≤ L.length * k := Nat.mul_le_mul_right _ h3
    rw [Nat.add_mul] at this
    omega
end Go.AX

namespace Go.AX
set_option autoImplicit false
set_option linter.unusedVariables false
set_option linter.unusedSectionVars false

theorem nameL {α : Type} (g : α → List D) (L : List α) : ∃ cs n, IsL g cs n L := ⟨_, _, rfl, rfl⟩
theorem nameA (k : IntKind) {m : Nat} (A : Ar m) : ∃ cs, cs = encL (eI k) A.l := ⟨_, rfl⟩
theorem IsL.uniq {α : Type} {g : α → List D} {cs cs' : List D} {n n' : Nat} {L : List α} (h : IsL g cs n L) (h' : IsL g cs' n' L) : cs = cs' ∧ n = n' := ⟨h.cs.trans h'.cs.symm, h.n.trans h'.n.symm⟩
theorem IsL.nil {α : Type} {g : α → List D} {cs : List D} {n : Nat} (h : IsL g cs n []) : cs = [] ∧ n = 0 := ⟨h.cs, h.n⟩
theorem IsL.nil' {α : Type} {g : α → List D} : IsL g [] 0 [] := ⟨rfl, rfl⟩

theorem bnd_loop {σ ρ β : Type} {step : σ → Option (Sum σ ρ)} {s0 : σ} {f : ρ → Option β} {r : β} (h : Bnd (loop step s0) f = some r) : ∃ stp q, stp = step ∧ loopN stp FUEL s0 = some q ∧ f q = some r := by
  obtain ⟨q, h1, h2⟩ := bnd h
  exact ⟨step, q, rfl, h1, h2⟩
theorem loopN_step {σ ρ : Type} {step : σ → Option (Sum σ ρ)} {N : Nat} {s : σ} {q : ρ} (h : loopN step N s = some q) :
    ∃ M o, N = M + 1 ∧ step s = some o ∧ (match o with | .inl s' => loopN step M s' = some q | .inr p => p = q) := by
  cases N with
  | zero => cases h
  | succ M =>
    simp only [loopN] at h
    cases hs : step s with
    | none => rw [hs] at h; cases h
    | some o =>
      rw [hs] at h
      refine ⟨M, o, rfl, rfl, ?_⟩
      cases o with
      | inl s' => exact h
      | inr p => cases h; rfl
theorem jn {α β : Type} {j : α → Option β} {k : (α → Option β) → Option β} {r : β} (h : Jn j k = some r) : ∃ g, g = j ∧ k g = some r := ⟨j, rfl, h⟩

/-- A function's arguments, some of them nil. -/
inductive LeV : List V → List V → Prop
  | refl (l : List V) : LeV l l
  | cons (v : V) {s t : List V} (h : LeV s t) : LeV (v :: s) (v :: t)
  | nil {s t : List V} (h : LeV s t) : LeV (.d .nils :: s) (.d (.lst [] 0) :: t)
  | agg {a b s t : List V} (hb : LeV a b) (h : LeV s t) : LeV (.agg a :: s) (.agg b :: t)

theorem nil_lst {H : Nat → Option Obj} {v : Value} (h : repD H .nils v) : repD H (.lst [] 0) v := by
  simp only [repD] at h ⊢
  exact ⟨none, 0, h, Nat.le_refl _, by simp⟩

theorem LeV.rep {E : Emb} {s t : List V} (h : LeV s t) : (∀ xs, repVs E s xs → repVs E t xs) ∧ (∀ xs, repC E s xs → repC E t xs) := by
  induction h with
  | refl l => exact ⟨fun _ h => h, fun _ h => h⟩
  | cons v h ih =>
    refine ⟨fun xs hx => ?_, fun xs hx => ?_⟩
    · simp only [repVs] at hx ⊢
      obtain ⟨u, us, e, h1, h2⟩ := hx
      exact ⟨u, us, e, h1, ih.1 _ h2⟩
    · simp only [repC] at hx ⊢
      rcases hx with ⟨m, l, ys, zs, e, h1, h2, h3, h4, h5⟩ | ⟨u, us, h1, h2, h3, h4⟩
      · exact .inl ⟨m, l, ys, zs, e, h1, h2, h3, h4, ih.2 _ h5⟩
      · exact .inr ⟨u, us, h1, h2, h3, ih.2 _ h4⟩
  | nil h ih =>
    refine ⟨fun xs hx => ?_, fun xs hx => ?_⟩
    · simp only [repVs] at hx ⊢
      obtain ⟨u, us, e, h1, h2⟩ := hx
      exact ⟨u, us, e, by simp only [repV] at h1 ⊢; exact nil_lst h1, ih.1 _ h2⟩
    · simp only [repC] at hx ⊢
      rcases hx with ⟨m, l, ys, zs, e, h1, h2, h3, h4, h5⟩ | ⟨u, us, h1, h2, h3, h4⟩
      · cases e
      · exact .inr ⟨u, us, h1, h2, by simp only [repV] at h3 ⊢; exact nil_lst h3, ih.2 _ h4⟩
  | agg hb h ihb ih =>
    refine ⟨fun xs hx => ?_, fun xs hx => ?_⟩
    · simp only [repVs] at hx ⊢
      obtain ⟨u, us, e, h1, h2⟩ := hx
      refine ⟨u, us, e, ?_, ih.1 _ h2⟩
      simp only [repV] at h1 ⊢
      obtain ⟨cs, h3, h4⟩ := h1
      exact ⟨cs, h3, ihb.2 _ h4⟩
    · simp only [repC] at hx ⊢
      rcases hx with ⟨m, l, ys, zs, e, h1, h2, h3, h4, h5⟩ | ⟨u, us, h1, h2, h3, h4⟩
      · cases e
      · refine .inr ⟨u, us, h1, h2, ?_, ih.2 _ h4⟩
        simp only [repV] at h3 ⊢
        obtain ⟨cs, h5, h6⟩ := h3
        exact ⟨cs, h5, ihb.2 _ h6⟩

theorem Spec.nils {P : Program} {g : FuncId} {s t : List V} {r : Res} (h : Spec P g t r) (hle : LeV s t) : Spec P g s r :=
  ⟨h.1, fun H w xs hH hx => h.2 H w xs hH (hle.rep.1 _ hx)⟩

theorem cnd_t {α : Type} {a b : Option α} {r : α} (h : (bif true then a else b) = some r) : a = some r := h
theorem cnd_f {α : Type} {a b : Option α} {r : α} (h : (bif false then a else b) = some r) : b = some r := h
theorem noL_enc {α : Type} {g : α → List D} {cs : List D} {n : Nat} {L : List α} (h : IsL g cs n L) (hg : ∀ a, ∀ d ∈ g a, d.noL) : ∀ d ∈ cs, d.noL := by
  rw [h.cs]
  intro d hd
  unfold encL at hd
  obtain ⟨a, _, h2⟩ := List.mem_flatMap.1 hd
  exact hg a d h2
theorem eI_len (k : IntKind) (a : Int) : (eI k a).length = 1 := rfl
theorem eI_noL (k : IntKind) (a : Int) : ∀ d ∈ eI k a, d.noL := by intro d hd; simp [eI] at hd; subst hd; trivial
theorem eB_len (a : Bool) : (eB a).length = 1 := rfl
theorem eB_noL (a : Bool) : ∀ d ∈ eB a, d.noL := by intro d hd; simp [eB] at hd; subst hd; trivial
theorem rep_z {J : PF} (hJ : J = stdJ) (n : Nat) (k : IntKind) : J .rep n (.int k 0) = encL (eI k) (Ar.zero n).l := by
  subst hJ
  show List.replicate n (D.int k 0) = (List.replicate n (0 : Int)).flatMap (eI k)
  rw [List.flatMap_replicate]
  induction n with
  | zero => rfl
  | succ n ih => rw [List.replicate_succ, ih, List.replicate_succ]; rfl

theorem letv {α β : Type} {e : α} {f : α → Option β} {r : β} (h : Let e f = some r) : ∃ v, v = e ∧ f v = some r := ⟨e, rfl, h⟩
theorem let0 {α β : Type} {f : Int → Option β} {r : β} (h : Let (ln ([] : List α)) f = some r) : f 0 = some r := h
theorem A3.put_eq {a b c x0 x1 x2 i v : Int} (h : (⟨x0, x1, x2⟩ : A3) = A3.put ⟨a, b, c⟩ i v) : (x0 = if i = ((0 : Nat) : Int) then v else a) ∧ (x1 = if i = ((1 : Nat) : Int) then v else b) ∧ (x2 = if i = ((2 : Nat) : Int) then v else c) := by
  cases h; exact ⟨rfl, rfl, rfl⟩

section
variable {J : PF} (hJ : J = stdJ) {R : Type} {r : R} {K : Res → Prop}
include hJ

theorem px_le {L : List Int} {q : Nat} {i y : Int} (ho : q = i.toNat) (hy : at? L i = some y) : J .leN (J .add (J .idx 0 q 1) 1) L.length := by
  subst hJ
  have := at?_lt hy
  show 0 + q * 1 + 1 ≤ L.length
  omega
theorem px_leA {m : Nat} {A : Ar m} {q : Nat} {i y : Int} (ho : q = i.toNat) (hy : at? A.l i = some y) : J .leN (J .add (J .idx 0 q 1) 1) m := by
  have := px_le hJ ho hy
  rwa [A.h] at this
theorem set_put {k : IntKind} {m : Nat} {A B : Ar m} {ds ds' : List D} (hd : ds = encL (eI k) A.l) {q : Nat} {i v : Int} (ho : q = i.toNat) (hB : B = Ar.put A i v) (hd' : ds' = encL (eI k) B.l) : J .set ds (J .idx 0 q 1) (.int k v) = ds' := by
  subst hJ hd hd' hB ho
  show (encL (eI k) A.l).set (0 + i.toNat * 1) (.int k v) = encL (eI k) (A.l.set i.toNat v)
  rw [Nat.zero_add, Nat.mul_one]
  generalize i.toNat = p
  generalize A.l = l
  induction l generalizing p with
  | nil => rfl
  | cons x t ih =>
    cases p with
    | zero => rfl
    | succ p => show D.int k x :: (encL (eI k) t).set p (.int k v) = _; rw [ih]; rfl

theorem app?_eq {α : Type} {b : Nat} {l m x : List α} (h : app? b l m = some x) : x = l ++ m ∧ (l.length + m.length) * b ≤ 140737488355328 ∧ l.length + m.length ≤ 4611686018427387904 := by
  unfold app? at h
  split at h
  · cases h; exact ⟨rfl, by assumption⟩
  · cases h

theorem st_app {α : Type} {g : α → List D} {k b : Nat} (hk : ∀ a, (g a).length = k) {cs ds : List D} {n m : Nat} {L M : List α} (hL : IsL g cs n L) (hM : IsL g ds m M) {N id : Nat} {e : TypeId} {f : List α → Option R}
    (nx : ∀ cs' n' L', IsL g cs' n' L' → f L' = some r → K ⟨.own N n' k, [(N, .row cs' k e), (id, .dead)], 1, True⟩) (h : Bnd (app? b L M) f = some r) :
    OpP (some ⟨.own N (J .add n m) k, [(N, .row (J .app (J .take cs (J .mulNat n k)) (J .take ds (J .mulNat m k))) k e), (id, .dead)], 1, J .leN (J .mulNat m k) (J .len ds) ∧ J .leN (J .mulNat n k) (J .len cs) ∧ J .leN (J .mulNat (J .add n m) b) 140737488355328 ∧ J .leN (J .add n m) 4611686018427387904⟩) K := by
  subst hJ
  obtain ⟨L', h1, h2⟩ := bnd h
  obtain ⟨rfl, h3, h4⟩ := app?_eq rfl h1
  obtain ⟨rfl, rfl⟩ := hL
  obtain ⟨rfl, rfl⟩ := hM
  refine ⟨_, _, _, ⟨stdJ .leN (stdJ .mulNat M.length k) (stdJ .len (encL g M)) ∧ stdJ .leN (stdJ .mulNat L.length k) (stdJ .len (encL g L)) ∧ stdJ .leN (stdJ .mulNat (stdJ .add L.length M.length) b) 140737488355328 ∧ stdJ .leN (stdJ .add L.length M.length) 4611686018427387904, ?_, ?_, ?_, h3, h4⟩, nx (encL g (L ++ M)) _ _ ⟨rfl, rfl⟩ h2⟩
  · show some (⟨.own N (L.length + M.length) k, [(N, .row ((encL g L).take (L.length * k) ++ (encL g M).take (M.length * k)) k e), (id, .dead)], 1, _⟩ : Res) = _
    rw [List.take_of_length_le (by rw [encL_len hk]; exact Nat.le_refl _), List.take_of_length_le (by rw [encL_len hk]; exact Nat.le_refl _), encL_app, List.length_append]
  · show M.length * k ≤ (encL g M).length; rw [encL_len hk]; exact Nat.le_refl _
  · show L.length * k ≤ (encL g L).length; rw [encL_len hk]; exact Nat.le_refl _

theorem st_app0 {α : Type} {g : α → List D} {k b : Nat} (hk : ∀ a, (g a).length = k) {ds : List D} {m : Nat} {M : List α} (hM : IsL g ds m M) {N : Nat} {e : TypeId} {f : List α → Option R}
    (nx : ∀ cs' n' L', IsL g cs' n' L' → f L' = some r → K ⟨.own N n' k, [(N, .row cs' k e)], 1, True⟩) (h : Bnd (app? b [] M) f = some r) :
    OpP (some ⟨.own N m k, [(N, .row (J .take ds (J .mulNat m k)) k e)], 1, J .leN (J .mulNat m k) (J .len ds) ∧ J .leN (J .mulNat m b) 140737488355328 ∧ J .leN m 4611686018427387904⟩) K := by
  subst hJ
  obtain ⟨L', h1, h2⟩ := bnd h
  obtain ⟨e1, h3, h4⟩ := app?_eq rfl h1
  have e1 : L' = M := e1
  subst e1
  obtain ⟨rfl, rfl⟩ := hM
  refine ⟨_, _, _, ⟨stdJ .leN (stdJ .mulNat L'.length k) (stdJ .len (encL g L')) ∧ stdJ .leN (stdJ .mulNat L'.length b) 140737488355328 ∧ stdJ .leN L'.length 4611686018427387904, ?_, ?_, ?_, ?_⟩, nx (encL g L') _ _ ⟨rfl, rfl⟩ h2⟩
  · show some (⟨.own N L'.length k, [(N, .row ((encL g L').take (L'.length * k)) k e)], 1, _⟩ : Res) = _
    rw [List.take_of_length_le (by rw [encL_len hk]; exact Nat.le_refl _)]
  · show L'.length * k ≤ (encL g L').length; rw [encL_len hk]; exact Nat.le_refl _
  · show L'.length * b ≤ _; simpa using h3
  · show L'.length ≤ _; simpa using h4

theorem st_mk {α : Type} {g : α → List D} {k b : Nat} {z : α} {zd : List D} (hz : g z = zd) {a : Int} {N : Nat} {e : TypeId} {f : List α → Option R}
    (nx : ∀ cs' n' L', IsL g cs' n' L' → f L' = some r → K ⟨.own N n' k, [(N, .row cs' k e)], 1, True⟩) (h : Bnd (mk? b z a a) f = some r) :
    OpP (some ⟨.own N (J .toNat a) k, [(N, .row (J .repL (J .toNat a) zd) k e)], 1, J .inR 0 a (Nat.succ (J .toNat a)) ∧ J .inR 0 a 4611686018427387905 ∧ J .leN (J .mulNat (J .toNat a) b) 140737488355328⟩) K := by
  subst hJ
  obtain ⟨L', h1, h2⟩ := bnd h
  unfold mk? at h1
  split at h1
  case isFalse => cases h1
  rename_i hc
  cases h1
  refine ⟨_, _, _, ⟨stdJ .inR 0 a (Nat.succ (stdJ .toNat a)) ∧ stdJ .inR 0 a 4611686018427387905 ∧ stdJ .leN (stdJ .mulNat (stdJ .toNat a) b) 140737488355328, ?_, ?_, ?_, hc.2⟩, nx (encL g (List.replicate a.toNat z)) _ _ ⟨rfl, rfl⟩ h2⟩
  · show some (⟨.own N a.toNat k, [(N, .row (List.replicate a.toNat zd).flatten k e)], 1, _⟩ : Res) = _
    have : encL g (List.replicate a.toNat z) = (List.replicate a.toNat zd).flatten := by
      unfold encL; rw [List.flatMap_replicate, hz]
    rw [this]; simp
  · show 0 ≤ a ∧ a < ((a.toNat + 1 : Nat) : Int); have := hc.1.1; omega
  · show 0 ≤ a ∧ a < ((4611686018427387905 : Nat) : Int); have := hc.1; omega

theorem from?_eq {α : Type} {l x : List α} {a : Int} (h : from? l a = some x) : x = l.drop a.toNat ∧ 0 ≤ a ∧ a ≤ (l.length : Int) := by
  unfold from? at h
  split at h
  · cases h; exact ⟨rfl, by assumption⟩
  · cases h
theorem upto?_eq {α : Type} {l x : List α} {a : Int} (h : upto? l a = some x) : x = l.take a.toNat ∧ 0 ≤ a ∧ a ≤ (l.length : Int) := by
  unfold upto? at h
  split at h
  · cases h; exact ⟨rfl, by assumption⟩
  · cases h
theorem sub?_eq {α : Type} {l x : List α} {a b : Int} (h : sub? l a b = some x) : x = (l.drop a.toNat).take (b.toNat - a.toNat) ∧ 0 ≤ a ∧ a ≤ b ∧ b ≤ (l.length : Int) := by
  unfold sub? at h
  split at h
  · cases h; exact ⟨rfl, by assumption⟩
  · cases h

theorem st_from {α : Type} {g : α → List D} {k : Nat} (hk : ∀ a, (g a).length = k) {cs : List D} {n : Nat} {L : List α} (hL : IsL g cs n L) {a : Int} {f : List α → Option R}
    (nx : ∀ cs' n' L', IsL g cs' n' L' → f L' = some r → K ⟨.d (.lst cs' n'), [], 0, True⟩) (h : Bnd (from? L a) f = some r) :
    OpP (some ⟨.d (.lst (J .drop cs (J .mulNat (J .toNat a) k)) (J .sub n (J .toNat a))), [], 0, J .inR 0 a (Nat.succ n)⟩) K := by
  subst hJ
  obtain ⟨L', h1, h2⟩ := bnd h
  obtain ⟨rfl, h3, h4⟩ := from?_eq rfl h1
  obtain ⟨rfl, rfl⟩ := hL
  refine ⟨_, _, _, ⟨stdJ .inR 0 a (Nat.succ L.length), ?_, ?_⟩, nx (encL g (L.drop a.toNat)) _ _ ⟨rfl, rfl⟩ h2⟩
  · show some (⟨.d (.lst ((encL g L).drop (a.toNat * k)) (L.length - a.toNat)), [], 0, _⟩ : Res) = _
    rw [encL_drop hk, List.length_drop]
  · show 0 ≤ a ∧ a < ((L.length + 1 : Nat) : Int); omega
theorem st_upto {α : Type} {g : α → List D} {k : Nat} (hk : ∀ a, (g a).length = k) {cs : List D} {n : Nat} {L : List α} (hL : IsL g cs n L) {a : Int} {f : List α → Option R}
    (nx : ∀ cs' n' L', IsL g cs' n' L' → f L' = some r → K ⟨.d (.lst cs' n'), [], 0, True⟩) (h : Bnd (upto? L a) f = some r) :
    OpP (some ⟨.d (.lst (J .take cs (J .mulNat (J .toNat a) k)) (J .toNat a)), [], 0, J .inR 0 a (Nat.succ n)⟩) K := by
  subst hJ
  obtain ⟨L', h1, h2⟩ := bnd h
  obtain ⟨rfl, h3, h4⟩ := upto?_eq rfl h1
  obtain ⟨rfl, rfl⟩ := hL
  refine ⟨_, _, _, ⟨stdJ .inR 0 a (Nat.succ L.length), ?_, ?_⟩, nx (encL g (L.take a.toNat)) _ _ ⟨rfl, rfl⟩ h2⟩
  · show some (⟨.d (.lst ((encL g L).take (a.toNat * k)) a.toNat), [], 0, _⟩ : Res) = _
    rw [encL_take hk, List.length_take, Nat.min_eq_left (by omega)]
  · show 0 ≤ a ∧ a < ((L.length + 1 : Nat) : Int); omega
theorem st_sub {α : Type} {g : α → List D} {k : Nat} (hk : ∀ a, (g a).length = k) {cs : List D} {n : Nat} {L : List α} (hL : IsL g cs n L) {a b : Int} {f : List α → Option R}
    (nx : ∀ cs' n' L', IsL g cs' n' L' → f L' = some r → K ⟨.d (.lst cs' n'), [], 0, True⟩) (h : Bnd (sub? L a b) f = some r) :
    OpP (some ⟨.d (.lst (J .take (J .drop cs (J .mulNat (J .toNat a) k)) (J .mulNat (J .sub (J .toNat b) (J .toNat a)) k)) (J .sub (J .toNat b) (J .toNat a))), [], 0, J .inR 0 a (Nat.succ (J .toNat b)) ∧ J .inR 0 b (Nat.succ n)⟩) K := by
  subst hJ
  obtain ⟨L', h1, h2⟩ := bnd h
  obtain ⟨rfl, h3, h4, h5⟩ := sub?_eq rfl h1
  obtain ⟨rfl, rfl⟩ := hL
  refine ⟨_, _, _, ⟨stdJ .inR 0 a (Nat.succ (stdJ .toNat b)) ∧ stdJ .inR 0 b (Nat.succ L.length), ?_, ?_, ?_⟩, nx (encL g ((L.drop a.toNat).take (b.toNat - a.toNat))) _ _ ⟨rfl, rfl⟩ h2⟩
  · show some (⟨.d (.lst (((encL g L).drop (a.toNat * k)).take ((b.toNat - a.toNat) * k)) (b.toNat - a.toNat)), [], 0, _⟩ : Res) = _
    rw [encL_drop hk, encL_take hk, List.length_take, List.length_drop, Nat.min_eq_left (by omega)]
  · show 0 ≤ a ∧ a < ((b.toNat + 1 : Nat) : Int); omega
  · show 0 ≤ b ∧ b < ((L.length + 1 : Nat) : Int); omega

/-- Of three numbers, one that is put. -/
theorem sel_put {q c : Nat} {i v a : Int} (hq : q = i.toNat) (hi : 0 ≤ i) : J .selI (J .eqN (J .idx 0 q 1) c) v a = if i = (c : Int) then v else a := by
  subst hJ
  show (if (0 + q * 1 == c) = true then v else a) = _
  rw [hq, Nat.zero_add, Nat.mul_one]
  by_cases h : i = (c : Int)
  · rw [if_pos h, if_pos (by rw [h]; simp)]
  · rw [if_neg h, if_neg]; intro e; apply h; have := eq_of_beq e; omega
theorem st_any {v v' : V} {wr wr' : List (Nat × Blk)} {dn : Nat} {s : Prop} (hv : v = v') (hw : wr = wr') (hs : s) (nx : K ⟨v', wr', dn, True⟩) : OpP (some ⟨v, wr, dn, s⟩) K := by
  subst hv hw; exact ⟨_, _, _, ⟨_, rfl, hs⟩, nx⟩
theorem st_index {kk : IntKind} {cs : List D} {L : List Int} (hc : cs = encL (eI kk) L) {m : Nat} (hm : L.length = m) {i : Int} {f : Int → Option R} (nx : ∀ y, at? L i = some y → f y = some r → K ⟨.d (.int kk y), [], 0, True⟩) (h : Bnd (at? L i) f = some r) :
    OpP (some ⟨.d (.int kk (J .rdI cs (J .add (J .idx 0 (J .toNat i) 1) 0))), [], 0, J .inR 0 i m ∧ J .has cs (J .add (J .idx 0 (J .toNat i) 1) 0) (.int kk (J .rdI cs (J .add (J .idx 0 (J .toNat i) 1) 0))) ∧ True⟩) K := by
  subst hJ
  obtain ⟨y, h1, h2⟩ := bnd h
  obtain ⟨h3, h4⟩ := at?_eq h1
  have h5 := encL_get (f := eI kk) (k := 1) (fun _ => rfl) h4 0 (by omega)
  have h6 : cs[0 + i.toNat * 1 + 0]? = some (.int kk y) := by rw [hc, Nat.zero_add, h5]; rfl
  have e : stdJ .rdI cs (stdJ .add (stdJ .idx 0 (stdJ .toNat i) 1) 0) = y := by
    show (cs.getD (0 + i.toNat * 1 + 0) default).toI = y
    rw [List.getD_eq_getElem?_getD, h6]; rfl
  rw [e]
  refine ⟨_, _, _, ⟨_, rfl, ?_, h6, trivial⟩, nx y h1 h2⟩
  show 0 ≤ i ∧ i < (m : Int)
  rw [← hm]; exact at?_lt h1
def eL {α : Type} (f : α → List D) (l : List α) : List D := [.lst (encL f l) l.length]
omit hJ in
theorem eL_len {α : Type} (f : α → List D) (l : List α) : (eL f l).length = 1 := rfl
/-- A bool, whatever it is. -/
theorem st_bool {b e : Bool} (hb : J = stdJ → b = e) {f : Bool → Option R} (nx : ∀ v, v = e → f v = some r → K ⟨.d (.bool v), [], 0, True⟩) (h : Let e f = some r) : OpP (some ⟨.d (.bool b), [], 0, True⟩) K := by
  rw [hb hJ]; exact ⟨_, _, _, ⟨_, rfl, trivial⟩, nx _ rfl h⟩
end
end Go.AX

namespace Go.AX
set_option autoImplicit false
set_option linter.unusedVariables false
set_option linter.unusedSectionVars false

/-- What a function answers, its rows being let go. -/
theorem Spec.frozen {P : Program} {g : FuncId} {args : List V} {r : Res} {v' : V} (h : Spec P g args r) (hv : V.out std [] r.wr r.val = some v') : Spec P g args ⟨v', [], 0, True⟩ := by
  refine ⟨h.1, fun H w xs hH hx => (h.2 H w xs hH hx).mono ?_⟩
  rintro e w' ⟨v, E', rfl, hD⟩
  obtain ⟨S, hg, hS⟩ := hD.grown
  have hS0 : ∀ k, ¬ S k := by intro k hk; obtain ⟨i, y, h1, _⟩ := hS k hk; cases h1
  have keep : ∀ k, k < w.heap.size → w'.heap[k]? = w.heap[k]? := fun k hk => hg.block k hk (hS0 k)
  have hnew : ∀ i b, E'.ρ i = some (some b) → w.heap.size ≤ b ∧ b < w'.heap.size := by
    intro i b hb
    rcases hD.new i _ hb with h1 | ⟨_, _, h3⟩
    · cases h1
    · rcases h3 b rfl with h4 | ⟨j, hj⟩
      · exact h4
      · cases hj
  have hW : WR w (fun _ => False) E' r.wr r.dn w' := by
    refine ⟨hD.wr, ?_, ?_, ?_, fun i y b h1 h2 h3 => hD.own i y b (by rw [List.append_nil]; exact h1) h2 h3, ?_, ⟨hg.os, hg.tape, hg.output, hg.size, fun k hk _ => keep k hk, hg.drawn⟩⟩
    · intro b o hb
      rcases hD.h b o hb with h1 | ⟨h2, _⟩
      · have h2 := hH b o h1
        rw [keep b (Array.getElem?_eq_some_iff.1 h2).1]; exact h2
      · exact h2
    · intro i j b x y h1 h2 h3 h4 h5 h6
      exact hD.inj i j b x y (by rw [List.append_nil]; exact h1) h2 (by rw [List.append_nil]; exact h3) h4 h5 h6
    · intro i b hb
      exact ⟨(hnew i b hb).2, .inl (hnew i b hb).1⟩
    · cases hx : E'.ρ r.dn with
      | none => rfl
      | some x =>
        rcases hD.new _ _ hx with h1 | ⟨_, h2, _⟩
        · cases h1
        · omega
  refine ⟨v, E'.view [] r.wr w', rfl, ?_⟩
  refine ⟨⟨fun i x h => (by cases h), fun i x h => (by cases h), fun b o hb => view_H b o (hD.le.2.2 b o hb)⟩, ?_, ?_, fun i y b h => (by cases h), ?_, ⟨fun _ => False, ⟨hg.os, hg.tape, hg.output, hg.size, fun k hk _ => keep k hk, hg.drawn⟩, fun k hk => hk.elim⟩, ?_, out_rep hW rfl _ _ hv v hD.val⟩
  · intro b o hb
    simp only [Emb.view] at hb
    split at hb
    · rename_i o' ho
      cases hb
      rcases hD.h b o ho with h1 | ⟨h1, h2 | ⟨_, _, h2, _⟩⟩
      · exact .inl h1
      · exact .inr ⟨h1, .inl h2⟩
      · cases h2
    · split at hb
      · rename_i hex
        obtain ⟨i, y, h1, _⟩ := hex
        exact .inr ⟨hb, .inl (hnew i b h1).1⟩
      · cases hb
  · intro i x hx; simp [Emb.view, rev] at hx
  · intro i j b x y h1; cases h1
  · intro i b h; cases h

theorem noLw_box : ∀ (l : List (Nat × Blk)), noLw l → ∀ i x, look l i = some (.box x) → False
  | [], h, i, x, hl => by cases hl
  | (j, .row l _ _) :: t, h, i, x, hl => by
    rw [look_cons] at hl
    split at hl
    · cases hl
    · exact noLw_box t h.2 i x hl
  | (j, .box _) :: t, h, i, x, hl => h.elim
  | (j, .mp _ _ _) :: t, h, i, x, hl => h.elim
  | (j, .mb _ _ _ _) :: t, h, i, x, hl => h.elim
  | (j, .it _ _ _) :: t, h, i, x, hl => h.elim
  | (j, .dead) :: t, h, i, x, hl => h.elim
theorem noLw_row : ∀ (l : List (Nat × Blk)), noLw l → ∀ i b, look l i = some b → ∃ x k e, b = .row x k e
  | [], h, i, b, hl => by cases hl
  | (j, .row l k e) :: t, h, i, b, hl => by
    rw [look_cons] at hl
    split at hl
    · cases hl; exact ⟨_, _, _, rfl⟩
    · exact noLw_row t h.2 i b hl
  | (j, .box _) :: t, h, i, b, hl => h.elim
  | (j, .mp _ _ _) :: t, h, i, b, hl => h.elim
  | (j, .mb _ _ _ _) :: t, h, i, b, hl => h.elim
  | (j, .it _ _ _) :: t, h, i, b, hl => h.elim
  | (j, .dead) :: t, h, i, b, hl => h.elim
theorem noLw_mp : ∀ (l : List (Nat × Blk)), noLw l → ∀ i a b x, look l i = some (.mp a b x) → False
  | [], h, i, a, b, x, hl => by cases hl
  | (j, .row l _ _) :: t, h, i, a, b, x, hl => by
    rw [look_cons] at hl
    split at hl
    · cases hl
    · exact noLw_mp t h.2 i a b x hl
  | (j, .box _) :: t, h, i, a, b, x, hl => h.elim
  | (j, .mp _ _ _) :: t, h, i, a, b, x, hl => h.elim
  | (j, .mb _ _ _ _) :: t, h, i, a, b, x, hl => h.elim
  | (j, .it _ _ _) :: t, h, i, a, b, x, hl => h.elim
  | (j, .dead) :: t, h, i, a, b, x, hl => h.elim
/-- A call whose arguments may hold rows of the caller's own, its answer's rows being let go. -/
theorem call_snapF {P : Program} {g : FuncId} {args vs : List V} {r : Res} {aw : List (Nat × Blk)} {n : Nat} {X v' : V} (h : Spec P g args r) (ho : outs std [] aw vs = some args)
    (hX : V.out std (shiftF 0 r.dn) [] r.val = some X) (hv : V.out std [] r.wr X = some v') (hn : r.val.noL ∧ noLw r.wr) : CallOK P g vs aw (idsL vs) n ⟨v', [], 0, True⟩ := by
  refine ⟨h.1, fun aw' hag w0 M E w xs hW hfree hvs => ?_⟩
  rw [← outs_congr (aw' := aw') vs hag] at ho
  have hvr := outs_rep (f := []) hW rfl _ _ ho _ hvs
  have hE : E.view [] aw' w = AX.E0 (E.view [] aw' w).H := rfl
  rw [hE] at hvr
  have hro : ∀ b o, (E.view [] aw' w).H b = some o → w.heap[b]? = some o := by
    intro b o hb
    simp only [Emb.view] at hb
    split at hb
    · rename_i o' ho; cases hb; exact hW.ro b o ho
    · split at hb
      · exact hb
      · cases hb
  refine (h.2 _ w xs hro hvr).mono ?_
  rintro e w' ⟨v, C, rfl, hD⟩
  obtain ⟨S, hg, hS⟩ := hD.grown
  have hS0 : ∀ k, ¬ S k := by intro k hk; obtain ⟨i, y, h1, _⟩ := hS k hk; cases h1
  have keep : ∀ k, k < w.heap.size → w'.heap[k]? = w.heap[k]? := fun k hk => hg.block k hk (hS0 k)
  have hnew : ∀ i b, C.ρ i = some (some b) → w.heap.size ≤ b ∧ b < w'.heap.size := by
    intro i b hb
    rcases hD.new i _ hb with h1 | ⟨_, _, h3⟩
    · cases h1
    · rcases h3 b rfl with h4 | ⟨j, hj⟩
      · exact h4
      · cases hj
  have hlt : ∀ b o, E.H b = some o → b < w.heap.size := fun b o hb => (Array.getElem?_eq_some_iff.1 (hW.ro b o hb)).1
  -- the rows that are answered hold no slice
  have hC2 : WR w (fun _ => False) ⟨C.ρ, C.κ, E.H⟩ r.wr r.dn w' := by
    refine ⟨?_, ?_, ?_, ?_, ?_, ?_, ⟨hg.os, hg.tape, hg.output, hg.size, fun k hk _ => keep k hk, hg.drawn⟩⟩
    · intro i b hb
      have hbk := hD.wr i b hb
      cases b with
      | row l0 k e =>
        rcases hbk with hbk | ⟨b, c, g1, g2, g3, g4, g5⟩
        · exact .inl hbk
        · exact .inr ⟨b, c, g1, g2, g3, g4, repDs_noL _ _ (noLw_look _ hn.2 _ _ _ _ hb) g5⟩
      | box l => exact (noLw_box _ hn.2 _ _ hb).elim
      | mp _ _ l => exact (noLw_mp _ hn.2 _ _ _ _ hb).elim
      | mb _ _ _ _ => obtain ⟨_, _, _, h⟩ := noLw_row _ hn.2 _ _ hb; cases h
      | it _ _ _ => obtain ⟨_, _, _, h⟩ := noLw_row _ hn.2 _ _ hb; cases h
      | dead => trivial
    · intro b o hb; rw [keep b (hlt b o hb)]; exact hW.ro b o hb
    · intro i j b x y h1 h2 h3 h4 h5 h6
      exact hD.inj i j b x y (by rw [List.append_nil]; exact h1) h2 (by rw [List.append_nil]; exact h3) h4 h5 h6
    · intro i b hb
      exact ⟨(hnew i b hb).2, .inl (hnew i b hb).1⟩
    · intro i y b _ _ hb
      show E.H b = none
      cases hHb : E.H b with
      | none => rfl
      | some o =>
        have := hlt b o hHb
        have := (hnew i b hb).1; omega
    · cases hx : C.ρ r.dn with
      | none => rfl
      | some x =>
        rcases hD.new _ _ hx with h1 | ⟨_, h2, _⟩
        · cases h1
        · omega
  have hval : repV ⟨C.ρ, C.κ, E.H⟩ X v := by
    refine move_rep (full := False) (f := shiftF 0 r.dn) ⟨fun i j hij => ?_, fun hf => hf.elim⟩ _ _ hX (.inr hn.1) _ hD.val
    obtain ⟨rfl, hi⟩ := look_shiftF 0 _ i j hij
    rw [Nat.zero_add]; exact ⟨rfl, rfl⟩
  have hout := out_rep (f := []) hC2 rfl _ _ hv v hval
  refine ⟨v, ⟨E.ρ, E.κ, ((⟨C.ρ, C.κ, E.H⟩ : Emb).view [] r.wr w').H⟩, rfl, ?_⟩
  refine ⟨⟨fun i x h => h, fun i x h => rfl, fun b o hb => view_H (E := ⟨C.ρ, C.κ, E.H⟩) b o hb⟩, ?_, fun i x h => .inl h, ?_, ?_, ⟨fun _ => False, ⟨hg.os, hg.tape, hg.output, hg.size, fun k hk _ => keep k hk, hg.drawn⟩, fun k hk => hk.elim⟩, fun i b h => (by cases h), ?_⟩
  · intro b o hb
    simp only [Emb.view] at hb
    split at hb
    · rename_i o' ho; cases hb; exact .inl ho
    · split at hb
      · rename_i hex
        obtain ⟨i, y, h1, _⟩ := hex
        exact .inr ⟨hb, .inl (hnew i b h1).1⟩
      · cases hb
  · intro i y b h1 h2 h3
    have h4 := hW.own i y b h1 h2 h3
    simp only [Emb.view, h4]
    rw [if_neg]
    rintro ⟨j, y', k1, _⟩
    have := (hW.dom i b h3).1
    have := (hnew j b k1).1; omega
  · intro i j b x y h1 h2 h3 h4 h5 h6; exact hW.inj i j b x y h1 h2 h3 h4 h5 h6
  · show repV _ v' v
    have hle : EmbLe ((⟨C.ρ, C.κ, E.H⟩ : Emb).view [] r.wr w') ⟨E.ρ, E.κ, ((⟨C.ρ, C.κ, E.H⟩ : Emb).view [] r.wr w').H⟩ := by
      refine ⟨fun i x hx => ?_, fun i x hx => ?_, fun b o hb => hb⟩
      · simp [Emb.view, rev] at hx
      · simp [Emb.view, rev] at hx
    exact repV_mono hle _ _ hout

theorem CallP.snapF {P : Program} {I : Prims} {g : FuncId} {vs args : List V} {st : St} {K : CRes → Prop} {r : Res} {X v' : V} (h : Spec P g args r) (hI : I = std) (ho : outs I [] st.aw vs = some args)
    (hX : V.out I (shiftF 0 r.dn) [] r.val = some X) (hv : V.out I [] r.wr X = some v') (hn : r.val.noL ∧ noLw r.wr) (k : K ⟨⟨v', [], 0, True⟩, idsL vs⟩) : CallP P I g vs st K := by
  subst hI; exact ⟨_, call_snapF h ho hX hv hn, k⟩

/-- Of a slice's cells, those that it sees. -/
theorem tk_rep {H : Nat → Option Obj} : ∀ (n : Nat) (l : List D) (vs : List Value), repDs H l vs → repDs H (l.take n) vs
  | 0, l, vs, h => by simp [repDs]
  | n + 1, [], vs, h => by simp [repDs]
  | n + 1, d :: t, vs, h => by
    simp only [repDs] at h
    obtain ⟨u, us, e, h1, h2⟩ := h
    simp only [List.take_succ_cons, repDs]
    exact ⟨u, us, e, h1, tk_rep n t us h2⟩
theorem Spec.seen {P : Program} {g : FuncId} {pre : List V} {l cs : List D} {n m : Nat} {t : List V} {r : Res} (h : Spec P g (pre ++ .d (.lst cs n) :: t) r) (hc : cs = l.take m) : Spec P g (pre ++ .d (.lst l n) :: t) r := by
  refine ⟨h.1, fun H w xs hH hx => h.2 H w xs hH ?_⟩
  clear h
  generalize xs.toList = ys at hx ⊢
  induction pre generalizing ys with
  | nil =>
    simp only [List.nil_append, repVs, repV, repD] at hx ⊢
    obtain ⟨u, us, e, ⟨a, cap, h1, h2, h3⟩, h4⟩ := hx
    refine ⟨u, us, e, ⟨a, cap, h1, h2, h3.imp id ?_⟩, h4⟩
    rintro ⟨p, c, e', fz, k1, k2, k3, k4⟩
    exact ⟨p, c, e', fz, k1, k2, k3, by rw [hc]; exact tk_rep m l _ k4⟩
  | cons v pre ih =>
    simp only [List.cons_append, repVs] at hx ⊢
    obtain ⟨u, us, e, h1, h2⟩ := hx
    exact ⟨u, us, e, h1, ih us h2⟩

def sh? (b : Int) : Option Unit := if 0 ≤ b ∧ b < 18446744073709551616 then some () else none

section
variable {J : PF} (hJ : J = stdJ) {R : Type} {r : R} {K : Res → Prop}
include hJ
theorem st_sh {op : BinOp} {k : IntKind} {a b : Int} {f : Int → Option R} (nx : ∀ v, v = binI op k a b → f v = some r → K ⟨.d (.int k v), [], 0, True⟩) (h : Bnd (sh? b) (fun _ => Let (binI op k a b) f) = some r) :
    OpP (some ⟨.d (.int k (J .bin op k a b)), [], 0, J .inR 0 b 18446744073709551616⟩) K := by
  subst hJ
  obtain ⟨x, h1, h2⟩ := bnd h
  unfold sh? at h1
  split at h1
  · rename_i hb; exact ⟨_, _, _, ⟨_, rfl, hb⟩, nx _ rfl h2⟩
  · cases h1
/-- The beginning of an array. -/
theorem st_sla {α : Type} {g : α → List D} {k : Nat} (hk : ∀ a, (g a).length = k) {cells : List D} {L : List α} (hc : cells = encL g L) {m : Nat} (hm : L.length = m) {id s : Nat} {b : Int} {f : List α → Option R}
    (nx : ∀ cs' n' L' q, IsL g cs' n' L' → cs' = cells.take q → f L' = some r → K ⟨.sla id s m k n', [], 0, True⟩) (h : Bnd (upto? L b) f = some r) :
    OpP (some ⟨.sla id s m k (J .toNat b), [], 0, J .inR 0 b (Nat.succ m)⟩) K := by
  subst hJ
  obtain ⟨L', h1, h2⟩ := bnd h
  obtain ⟨rfl, h3, h4⟩ := upto?_eq rfl h1
  refine ⟨.sla id s m k (L.take b.toNat).length, _, _, ⟨stdJ .inR 0 b (Nat.succ m), ?_, ?_⟩, nx (encL g (L.take b.toNat)) _ _ (b.toNat * k) ⟨rfl, rfl⟩ (by rw [hc, encL_take hk]) h2⟩
  · show some (⟨.sla id s m k b.toNat, [], 0, _⟩ : Res) = _
    rw [List.length_take, Nat.min_eq_left (by omega)]
  · show 0 ≤ b ∧ b < ((m + 1 : Nat) : Int); omega
end

/-- A row with others laid over it from some place on. -/
def overL {α : Type} (l : List α) (a : Nat) (m : List α) : List α := l.take a ++ m ++ l.drop (a + m.length)
def copyL {α : Type} (l : List α) (a len : Nat) (m : List α) : List α := overL l a (m.take (min m.length len))
def copyN {α : Type} (len : Nat) (m : List α) : Int := ((min m.length len : Nat) : Int)
theorem overL_len {α : Type} {l m : List α} {a : Nat} (h : a + m.length ≤ l.length) : (overL l a m).length = l.length := by
  unfold overL; simp only [List.length_append, List.length_take, List.length_drop]; omega
theorem copyL_len {α : Type} {l m : List α} {a len : Nat} (h : a + len ≤ l.length) : (copyL l a len m).length = l.length := by
  unfold copyL; exact overL_len (by rw [List.length_take]; omega)
theorem enc_over {α : Type} {g : α → List D} {k : Nat} (hk : ∀ a, (g a).length = k) (l m : List α) (a : Nat) : std.over (encL g l) (a * k) (encL g m) = encL g (overL l a m) := by
  show (encL g l).take (a * k) ++ encL g m ++ (encL g l).drop (a * k + (encL g m).length) = _
  rw [encL_take hk, encL_len hk, show a * k + m.length * k = (a + m.length) * k by rw [Nat.add_mul], encL_drop hk, encL_app, encL_app]; rfl

def from1? {α : Type} (l : List α) (a : Int) : Option (List α) := if 1 ≤ l.length then from? l a else none

section
variable {J : PF} (hJ : J = stdJ) {R : Type} {r : R} {K : Res → Prop}
include hJ
/-- Elements laid over a row's, from some place on. -/
theorem st_copy {α : Type} {g : α → List D} {k : Nat} (hk : ∀ a, (g a).length = k) {cs DS : List D} {n len m id off : Nat} {e : TypeId} {L M : List α} {P S : Prop} (hL : IsL g cs n L) (a : Nat) (hoff : J = stdJ → off = a * k) (hlen : a + len ≤ L.length) (hM : J = stdJ → DS = encL g M) (hm : m = M.length) (hP : J = stdJ → P) (hS : J = stdJ → S)
    {f : List α → Option R} (nx : ∀ cs' L' v, IsL g cs' n L' → L' = copyL L a len M → v = copyN len M → f L' = some r → K ⟨.d (.int .i64 v), [(id, .row cs' k e)], 0, True⟩) (h : Let (copyL L a len M) f = some r) :
    OpP (some ⟨.d (.int .i64 (J .ofNat (J .minN m len))), [(id, .row (J .over cs off (J .take DS (J .mulNat (J .minN m len) k))) k e)], 0, P ∧ S⟩) K := by
  have e1 := hM hJ
  have e2 := hoff hJ
  have hP' := hP hJ
  have hS' := hS hJ
  subst hJ e1 e2
  refine ⟨.d (.int .i64 (copyN len M)), [(id, .row (encL g (copyL L a len M)) k e)], 0, ⟨P ∧ S, ?_, hP', hS'⟩, nx _ _ _ ⟨rfl, by rw [hL.n, copyL_len hlen]⟩ rfl rfl h⟩
  have : stdJ .over cs (a * k) (stdJ .take (encL g M) (stdJ .mulNat (stdJ .minN m len) k)) = encL g (copyL L a len M) := by
    show std.over cs (a * k) ((encL g M).take (Nat.min m len * k)) = _
    rw [encL_take hk, hL.cs, hm]
    exact enc_over hk L (M.take (Nat.min M.length len)) a
  rw [this, hm]; rfl
/-- An own row's later part. -/
theorem st_own_from {α : Type} {g : α → List D} {k : Nat} (hk : ∀ a, (g a).length = k) {cs : List D} {n id : Nat} {L : List α} (hL : IsL g cs n L) {a : Int} {f : List α → Option R}
    (nx : ∀ o n' L', o = a.toNat * k → n' = L'.length → L' = L.drop a.toNat → a.toNat + n' ≤ L.length → f L' = some r → K ⟨.slc id o n' k, [], 0, True⟩) (h : Bnd (from1? L a) f = some r) :
    OpP (some ⟨.slc id (J .idx 0 (J .toNat a) k) (J .sub n (J .toNat a)) k, [], 0, J .inR 0 a (Nat.succ n) ∧ J .leN 1 n⟩) K := by
  subst hJ
  obtain ⟨L', h1, h2⟩ := bnd h
  unfold from1? at h1
  split at h1
  case isFalse => cases h1
  rename_i hne
  obtain ⟨rfl, h3, h4⟩ := from?_eq rfl h1
  have hLn := hL.n
  have hn : 1 ≤ n := by omega
  refine ⟨.slc id (a.toNat * k) (n - a.toNat) k, _, _, ⟨stdJ .inR 0 a (Nat.succ n) ∧ stdJ .leN 1 n, ?_, ?_, hn⟩, nx _ _ _ rfl (by rw [List.length_drop, hLn]) rfl (by omega) h2⟩
  · show some (⟨.slc id (0 + a.toNat * k) (n - a.toNat) k, [], 0, _⟩ : Res) = _
    rw [Nat.zero_add]
  · show 0 ≤ a ∧ a < ((n + 1 : Nat) : Int); omega
/-- An own row's beginning. -/
theorem st_own_upto {α : Type} {g : α → List D} {k : Nat} {cs : List D} {n id : Nat} {L : List α} (hL : IsL g cs n L) {b : Int} {f : List α → Option R}
    (nx : ∀ n' L', n' = L'.length → L' = L.take b.toNat → n' ≤ L.length → f L' = some r → K ⟨.own id n' k, [], 0, True⟩) (h : Bnd (upto? L b) f = some r) :
    OpP (some ⟨.own id (J .toNat b) k, [], 0, J .inR 0 b (Nat.succ n)⟩) K := by
  subst hJ
  obtain ⟨L', h1, h2⟩ := bnd h
  obtain ⟨rfl, h3, h4⟩ := upto?_eq rfl h1
  have hLn := hL.n
  refine ⟨.own id b.toNat k, _, _, ⟨stdJ .inR 0 b (Nat.succ n), rfl, ?_⟩, nx _ _ (by rw [List.length_take]; omega) rfl (by omega) h2⟩
  show 0 ≤ b ∧ b < ((n + 1 : Nat) : Int); omega
end

section
variable {J : PF} (hJ : J = stdJ) {α : Type} {g : α → List D} {k : Nat} (hk : ∀ a, (g a).length = k)
include hJ hk
theorem src_lst {cs : List D} {m : Nat} {M : List α} (hL : IsL g cs m M) : J .take cs (J .mulNat m k) = encL g M ∧ J .leN (J .mulNat m k) (J .len cs) := by
  subst hJ
  constructor
  · show cs.take (m * k) = _
    rw [hL.cs, hL.n, List.take_of_length_le (by rw [encL_len hk]; exact Nat.le_refl _)]
  · show m * k ≤ cs.length
    rw [hL.cs, encL_len hk, hL.n]; exact Nat.le_refl _
theorem src_own {cs : List D} {n n' b : Nat} {L L' : List α} (hL : IsL g cs n L) (hn : n' = L'.length) (hL' : L' = L.take b) : J .take cs (J .mulNat n' k) = encL g L' ∧ J .leN (J .mulNat n' k) (J .len cs) := by
  subst hJ hn hL'
  have hle : (L.take b).length * k ≤ L.length * k := Nat.mul_le_mul_right _ (by rw [List.length_take]; omega)
  constructor
  · show cs.take ((L.take b).length * k) = _
    rw [hL.cs, encL_take hk]
    congr 1
    rw [List.length_take]
    rcases Nat.le_total b L.length with h | h
    · rw [Nat.min_eq_left h]
    · rw [Nat.min_eq_right h, List.take_of_length_le (Nat.le_refl _), List.take_of_length_le h]
  · show (L.take b).length * k ≤ cs.length
    rw [hL.cs, encL_len hk]; exact hle
theorem src_slc {cs : List D} {n n' o a : Nat} {L L' : List α} (hL : IsL g cs n L) (ho : o = a * k) (hn : n' = L'.length) (hL' : L' = L.drop a) (hle : a + n' ≤ L.length) : J .take (J .drop cs o) (J .mulNat n' k) = encL g L' ∧ J .leN (J .add o (J .mulNat n' k)) (J .len cs) := by
  subst hJ hn hL' ho
  constructor
  · show (cs.drop (a * k)).take ((L.drop a).length * k) = _
    rw [hL.cs, encL_drop hk, List.take_of_length_le (by rw [encL_len hk]; exact Nat.le_refl _)]
  · show a * k + (L.drop a).length * k ≤ cs.length
    rw [hL.cs, encL_len hk, ← Nat.add_mul]; exact Nat.mul_le_mul_right _ hle
theorem dst_own {cs : List D} {n : Nat} {L : List α} (hL : IsL g cs n L) {len : Nat} (hlen : len ≤ L.length) : J .leN (J .mulNat len k) (J .len cs) := by
  subst hJ
  show len * k ≤ cs.length
  rw [hL.cs, encL_len hk]; exact Nat.mul_le_mul_right _ hlen
theorem dst_slc {cs : List D} {n o a : Nat} {L : List α} (hL : IsL g cs n L) (ho : o = a * k) {len : Nat} (hlen : a + len ≤ L.length) : J .leN (J .add o (J .mulNat len k)) (J .len cs) := by
  subst hJ ho
  show a * k + len * k ≤ cs.length
  rw [hL.cs, encL_len hk, ← Nat.add_mul]; exact Nat.mul_le_mul_right _ hlen
end
theorem letq {α β : Type} {e v : α} {f : α → Option β} {r : β} (hv : v = e) (h : Let e f = some r) : f v = some r := by subst hv; exact h
theorem setAll_full {l ds z : List D} (h : ds.length = l.length) (hz : ds = z) : setAll std l 0 ds 0 = z := by
  subst hz
  have key : ∀ (ds : List D) (p : Nat), p + ds.length = l.length → setAll std l 0 ds p = l.take p ++ ds := by
    intro ds
    induction ds with
    | nil => intro p hp; show l = _; rw [List.append_nil, List.take_of_length_le (by simp at hp; omega)]
    | cons d t ih =>
      intro p hp
      simp only [List.length_cons] at hp
      show (setAll std l 0 t (p + 1)).set (0 + p) d = _
      rw [ih (p + 1) (by omega), Nat.zero_add]
      apply List.ext_getElem?
      intro i
      simp only [List.getElem?_set, List.getElem?_append, List.length_append, List.length_take, List.getElem?_take]
      by_cases h1 : p = i
      · subst h1
        rw [if_pos rfl, if_pos (by omega), if_neg (by omega), show p - min p l.length = 0 by omega]; rfl
      · rw [if_neg h1]
        by_cases h2 : i < p
        · rw [if_pos (by omega), if_pos (by omega), if_pos (by omega), if_pos (by omega)]
        · rw [if_neg (by omega), if_neg (by omega), show i - min p l.length = (i - min (p + 1) l.length) + 1 by omega]; rfl
  have := key ds 0 (by omega)
  simpa using this

section
variable {J : PF} (hJ : J = stdJ) {R : Type} {r : R} {K : Res → Prop}
include hJ
theorem st_lenP {α : Type} {n : Nat} {L : List α} (hn : n = L.length) {f : Int → Option R} (nx : ∀ v, v = ln L → f v = some r → K ⟨.d (.int .i64 v), [], 0, True⟩) (h : Let (ln L) f = some r) : OpP (some ⟨.d (.int .i64 (J .ofNat n)), [], 0, True⟩) K := by
  subst hJ; rw [hn]; exact ⟨_, _, _, ⟨_, rfl, trivial⟩, nx _ rfl h⟩
end
def grow0? (b : Nat) (n : Int) : Option Unit := if 0 ≤ n ∧ n ≤ 4611686018427387904 ∧ n.toNat * b ≤ 140737488355328 then some () else none
theorem grow0?_eq {b : Nat} {n : Int} {u : Unit} (h : grow0? b n = some u) : 0 ≤ n ∧ n ≤ 4611686018427387904 ∧ n.toNat * b ≤ 140737488355328 := by
  unfold grow0? at h; split at h
  · assumption
  · cases h
theorem sub0_ok {n : Int} (h : 0 ≤ n ∧ n ≤ 4611686018427387904) : binI .sub .i64 n 0 = n := by
  show IntKind.wrap .i64 (n - 0) = _; rw [IntKind.wrap_i64]; omega
end Go.AX

namespace Go.AX
open Go.RowKit Go.Deep
set_option autoImplicit false
set_option linter.unusedVariables false

/-- Whatever reads as data of type t stands for some x, within the bounds B. -/
def OpD (P : Program) (t : TypeId) {α : Type} (g : α → List D) (B : α → Prop) : Prop :=
  ∀ (H : Type) (enc : TypeId × Value → H) (w : World) (base : Nat) (spare : Nat → Bool) (held : Bool) (fuel : Nat) (cs : List Value) (y : DataW H × List MemPlace), DataW.trod enc P w base spare held fuel t cs = some y → ∃ x, repDs (fun b => w.heap[b]?) (g x) cs ∧ (g x).length = cs.length ∧ B x

theorem OpD.int {P : Program} {t : TypeId} {k : IntKind} (ht : P.underlying t = some (.int k)) : OpD P t (eI k) (fun n => (Lit.int k n).wf = true) := by
  intro H enc w base spare held fuel cs y h
  obtain ⟨n, rfl, _, hw⟩ := DataW.trod_int ht h
  exact ⟨n, by simp [eI, repDs, repD], rfl, hw⟩
theorem OpD.bool {P : Program} {t : TypeId} (ht : P.underlying t = some .bool) : OpD P t eB (fun _ => True) := by
  intro H enc w base spare held fuel cs y h
  obtain ⟨b, rfl, _⟩ := DataW.trod_bool ht h
  exact ⟨b, by simp [eB, repDs, repD], rfl, trivial⟩
theorem OpD.iso {P : Program} {t : TypeId} {α β : Type} {g : α → List D} {B : α → Prop} (h : OpD P t g B) (f : α → β) (g' : β → List D) (hg : ∀ x, g' (f x) = g x) (B' : β → Prop) (hB : ∀ x, B x → B' (f x)) : OpD P t g' B' := by
  intro H enc w base spare held fuel cs y hy
  obtain ⟨x, h1, h2, h3⟩ := h H enc w base spare held fuel cs y hy
  exact ⟨f x, by rw [hg]; exact h1, by rw [hg]; exact h2, hB x h3⟩

/-- The fields from an offset on. -/
def OpDs (P : Program) (T off : Nat) (fs : List Field) {α : Type} (g : α → List D) (B : α → Prop) : Prop :=
  ∀ (H : Type) (enc : TypeId × Value → H) (w : World) (base : Nat) (spare : Nat → Bool) (held : Bool) (fuel : Nat) (cs : List Value), cs.length = T → (∀ f ∈ fs, ∃ y, DataW.trod enc P w base spare held fuel f.type ((cs.drop f.offset).take (P.cellsOf f.type)) = some y) → ∃ x, repDs (fun b => w.heap[b]?) (g x) (cs.drop off) ∧ (g x).length = (cs.drop off).length ∧ B x
theorem OpDs.one {P : Program} {T off n : Nat} {f : Field} {α : Type} {g : α → List D} {B : α → Prop} (ho : f.offset = off) (hn : P.cellsOf f.type = n) (hT : off + n = T) (h : OpD P f.type g B) : OpDs P T off [f] g B := by
  intro H enc w base spare held fuel cs hl hf
  obtain ⟨y, hy⟩ := hf f (List.mem_singleton_self f)
  obtain ⟨x, h1, h2, h3⟩ := h H enc w base spare held fuel _ y hy
  rw [ho, List.take_of_length_le (by rw [List.length_drop]; omega)] at h1 h2
  exact ⟨x, h1, h2, h3⟩
theorem OpDs.cons {P : Program} {T off n : Nat} {f : Field} {fs : List Field} {α β : Type} {a : α → List D} {b : β → List D} {A : α → Prop} {B : β → Prop} (ho : f.offset = off) (hn : P.cellsOf f.type = n) (h : OpD P f.type a A) (hs : OpDs P T (off + n) fs b B) :
    OpDs P T off (f :: fs) (fun x : α × β => a x.1 ++ b x.2) (fun x => A x.1 ∧ B x.2) := by
  intro H enc w base spare held fuel cs hl hf
  obtain ⟨y, hy⟩ := hf f List.mem_cons_self
  obtain ⟨x, h1, h2, h3⟩ := h H enc w base spare held fuel _ y hy
  obtain ⟨z, k1, k2, k3⟩ := hs H enc w base spare held fuel cs hl (fun g hg => hf g (List.mem_cons_of_mem _ hg))
  rw [ho, hn] at h1 h2
  refine ⟨(x, z), ?_, ?_, h3, k3⟩
  · have := repDs_app h1 h2 k1
    rwa [← List.drop_drop, List.take_append_drop] at this
  · rw [List.length_append, h2, k2, ← List.length_append, ← List.drop_drop, List.take_append_drop]
theorem OpD.struct {P : Program} {t : TypeId} {fs : List Field} {α : Type} {g : α → List D} {B : α → Prop} (ht : P.underlying t = some (.struct fs.toArray)) (h : OpDs P (P.cellsOf t) 0 fs g B) : OpD P t g B := by
  intro H enc w base spare held fuel cs y hy
  obtain ⟨xs, n, _, _, hl, hxl, hg⟩ := DataW.trod_struct ht hy
  obtain ⟨x, h1, h2, h3⟩ := h H enc w base spare held n cs hl (fun f hf => by
    obtain ⟨i, hi, rfl⟩ := List.mem_iff_getElem.1 hf
    have h1 := hg i fs[i] (by simp [hi])
    have : i < xs.length := by rw [hxl]; simpa using hi
    rw [List.getElem?_eq_getElem this] at h1
    exact ⟨_, h1⟩)
  rw [List.drop_zero] at h1 h2
  exact ⟨x, h1, h2, h3⟩
theorem choose_D {α : Type} (p : Nat → α → Prop) : ∀ n, (∀ i, i < n → ∃ x, p i x) → ∃ xs : List α, xs.length = n ∧ ∀ i x, xs[i]? = some x → p i x
  | 0, _ => ⟨[], rfl, fun i x h => by simp at h⟩
  | n + 1, h => by
    obtain ⟨xs, hl, hx⟩ := choose_D p n (fun i hi => h i (by omega))
    obtain ⟨x, hp⟩ := h n (by omega)
    refine ⟨xs ++ [x], by simp [hl], fun i y hy => ?_⟩
    rcases Nat.lt_or_ge i xs.length with hi | hi
    · rw [List.getElem?_append_left hi] at hy
      exact hx i y hy
    · rw [List.getElem?_append_right hi] at hy
      have : i = n := by
        have := (List.getElem?_eq_some_iff.1 hy).1
        simp at this; omega
      subst this
      rw [hl, Nat.sub_self] at hy
      simp at hy
      rw [← hy]; exact hp
theorem OpD.slice {P : Program} {t e : TypeId} {α : Type} {g : α → List D} {B : α → Prop} {k : Nat} (ht : P.underlying t = some (.slice e)) (hC : P.cellsOf e = k) (hk : ∀ a, (g a).length = k) (hk0 : 0 < k) (h : OpD P e g B) : OpD P t (eL g) (fun xs => (∀ x ∈ xs, B x) ∧ xs.length ≤ maxLen) := by
  intro H enc w base spare held fuel cs y hy
  rcases open_slice ht hy with ⟨rfl, _⟩ | ⟨a, len, cap, m, n, Dd, Pl, rfl, hb, hl, hm, hmm, _, hi⟩
  · refine ⟨[], ?_, rfl, fun x hx => by simp at hx, Nat.zero_le _⟩
    simp [eL, repDs, repD, encL]
  · have hlm : len ≤ m := by rw [hmm]; split <;> omega
    obtain ⟨xs, hxl, hx⟩ := choose_D (fun i x => (∃ c : List Value, c.length = k ∧ repDs (fun b => w.heap[b]?) (g x) c ∧ ∀ j u, c[j]? = some u → w.cell? (a.add (i * k + j)) = some u) ∧ B x) len (fun i hil => by
      obtain ⟨cs', hc, hr⟩ := hi i (by omega)
      obtain ⟨x, h1, h2, hB⟩ := h H enc w base spare held n cs' _ hr
      refine ⟨x, ⟨cs', by rw [← h2, hk], h1, fun j u hj => ?_⟩, hB⟩
      obtain ⟨_, hcl, hat⟩ := World.cells?_some hc
      have hjl : j < cs'.length := (List.getElem?_eq_some_iff.1 hj).1
      rw [← hC, ← Go.Deep.add_add, hat j (by omega)]
      exact hj)
    subst hxl
    refine ⟨xs, ?_, rfl, fun x hxm => ?_, Nat.le_trans hl hm⟩
    · simp only [eL, repDs, repD]
      refine ⟨_, [], rfl, ⟨some a, cap, rfl, hl, ?_⟩, trivial⟩
      cases hxs : xs with
      | nil => exact .inl rfl
      | cons x0 t0 =>
        right
        obtain ⟨⟨c0, hc0, _, hat0⟩, _⟩ := hx 0 x0 (by rw [hxs]; rfl)
        have h00 : 0 < c0.length := by omega
        have h01 := hat0 0 c0[0] (by simp [h00])
        have ea : a.add (0 * k + 0) = a := by simp [Addr.add]
        rw [ea] at h01
        unfold World.cell? at h01
        split at h01
        case h_2 => cases h01
        rename_i c e' fz hblk
        split at h01
        · cases h01
        rename_i hsp
        have hspot : a.spot = none := by simpa using hsp
        refine ⟨a, c, e', fz, rfl, hspot, hblk, ?_⟩
        rw [← hxs]
        refine repDs_of_get _ _ fun q d hq => ?_
        have hql := (List.getElem?_eq_some_iff.1 hq).1
        rw [encL_len hk] at hql
        have hqi : q / k < xs.length := Nat.div_lt_of_lt_mul (by rw [Nat.mul_comm]; exact hql)
        have hqe : q / k * k + q % k = q := by rw [Nat.mul_comm]; exact Nat.div_add_mod q k
        have hqm : q % k < k := Nat.mod_lt _ hk0
        obtain ⟨⟨ci, hci, hri, hati⟩, _⟩ := hx (q / k) xs[q / k] (by simp [hqi])
        have hg := encL_get hk (l := xs) (i := q / k) (y := xs[q / k]) (by simp [hqi]) (q % k) hqm
        rw [hqe] at hg
        rw [hg] at hq
        obtain ⟨u, hu, hru⟩ := repDs_get _ _ hri _ _ hq
        have h02 := hati _ _ hu
        rw [hqe] at h02
        unfold World.cell? at h02
        have hab : (a.add q).block = a.block := by unfold Addr.add; split <;> rfl
        have hao : (a.add q).off = a.off + q := by unfold Addr.add; split <;> simp_all
        rw [hab, hblk] at h02
        simp only at h02
        split at h02
        · cases h02
        · rw [hao] at h02
          refine ⟨u, ?_, hru⟩
          rw [List.getElem?_drop]
          simpa using h02
    · obtain ⟨j, hj⟩ := List.mem_iff_getElem?.1 hxm
      exact (hx j x hj).2

theorem mapM_get {α β : Type} {f : α → Option β} : ∀ {l : List α} {r : List β}, l.mapM f = some r → ∀ (i : Nat) (a : α), l[i]? = some a → ∃ b, f a = some b
  | [], r, h, i, a, ha => by simp at ha
  | x :: t, r, h, i, a, ha => by
    simp only [List.mapM_cons, Option.bind_eq_bind, Option.bind_eq_some_iff] at h
    obtain ⟨b, hb, r', hr', _⟩ := h
    cases i with
    | zero => simp at ha; subst ha; exact ⟨b, hb⟩
    | succ i => exact mapM_get hr' i a (by simpa using ha)

/-- An array of numbers. -/
theorem OpD.array {P : Program} {t e : TypeId} {k : IntKind} {n : Nat} (ht : P.underlying t = some (.array n e)) (he : P.underlying e = some (.int k)) (hC : P.cellsOf e = 1) (hT : P.cellsOf t = n) : OpD P t (fun A : Ar n => encL (eI k) A.l) (fun A => ∀ x ∈ A.l, (Lit.int k x).wf = true) := by
  intro H enc w base spare held fuel cs y hy
  cases fuel with
  | zero => simp [DataW.trod] at hy
  | succ m =>
    unfold DataW.trod at hy
    rw [ht] at hy
    simp only at hy
    split at hy
    case isFalse => cases hy
    rename_i hl
    rw [hT] at hl
    obtain ⟨xs, hxs, _⟩ := Option.map_eq_some_iff.1 hy
    have key : ∀ i, i < n → ∃ x, cs[i]? = some (.int k x) ∧ (Lit.int k x).wf = true := by
      intro i hi
      obtain ⟨b, hb⟩ := mapM_get hxs i i (by simp [hi])
      rw [hC, Nat.mul_one] at hb
      obtain ⟨x, hx, _, hw⟩ := DataW.trod_int he hb
      refine ⟨x, ?_, hw⟩
      have hlt : i < cs.length := by omega
      have h1 : (cs.drop i).take 1 = [cs[i]] := by rw [List.drop_eq_getElem_cons hlt]; rfl
      rw [h1] at hx
      rw [List.getElem?_eq_getElem hlt, List.cons.inj hx |>.1]
    obtain ⟨l, hll, hlx⟩ := choose_D (fun i x => cs[i]? = some (.int k x) ∧ (Lit.int k x).wf = true) n key
    refine ⟨⟨l, hll⟩, ?_, ?_, fun x hx => ?_⟩
    · refine repDs_of_get _ _ fun q d hq => ?_
      have hql := (List.getElem?_eq_some_iff.1 hq).1
      rw [encL_len (k := 1) (fun _ => rfl), Nat.mul_one] at hql
      have hg := encL_get (f := eI k) (k := 1) (fun _ => rfl) (l := l) (i := q) (y := l[q]) (by simp [hql]) 0 (by omega)
      rw [Nat.mul_one, Nat.add_zero] at hg
      rw [hg] at hq
      cases hq
      exact ⟨_, (hlx q l[q] (by simp [hql])).1, by simp [repD]⟩
    · show (encL (eI k) l).length = cs.length
      rw [encL_len (k := 1) (fun _ => rfl), Nat.mul_one, hll, hl]
    · obtain ⟨j, hj⟩ := List.mem_iff_getElem?.1 hx
      exact (hlx j x hj).2
theorem OpD.a3 {P : Program} {t e : TypeId} {k : IntKind} (ht : P.underlying t = some (.array 3 e)) (he : P.underlying e = some (.int k)) (hC : P.cellsOf e = 1) (hT : P.cellsOf t = 3) : OpD P t (fun A : A3 => encL (eI k) A.l) (fun A => ∀ x ∈ A.l, (Lit.int k x).wf = true) := by
  refine (OpD.array ht he hC hT).iso (fun A => ⟨A.l.getD 0 0, A.l.getD 1 0, A.l.getD 2 0⟩) _ ?_ _ ?_
  · rintro ⟨l, hl⟩
    match l, hl with
    | [a, b, c], _ => rfl
  · rintro ⟨l, hl⟩ h
    match l, hl with
    | [a, b, c], _ => exact h

/-- What a call of a law came to. -/
theorem law_below {W W' : World} {v : Value} {C : Emb} (h : Did [] (E0 fun b => W.heap[b]?) 0 W ⟨.d (.bool true), [], 0, True⟩ C W' v) : v = .bool true ∧ Below W.heap.size W W' := by
  obtain ⟨S, hg, hS⟩ := h.grown
  refine ⟨by have := h.val; simpa only [repV, repD] using this, hg.os, hg.tape, hg.output, hg.size, fun k hk => hg.block k hk fun e => ?_⟩
  obtain ⟨i, y, h1, _⟩ := hS k e
  cases h1
end Go.AX

namespace Go.AX
set_option autoImplicit false
set_option linter.unusedVariables false

/-- Cells without a slice. -/
def noL' : List D → Prop
  | [] => True
  | d :: t => d.noL ∧ noL' t
theorem noL'_iff : ∀ (l : List D), noL' l ↔ ∀ d ∈ l, d.noL
  | [] => by simp [noL']
  | d :: t => by simp only [noL', noL'_iff t, List.mem_cons, forall_eq_or_imp]
def Blk.noLb : Blk → Prop
  | .row l _ _ => ∀ d ∈ l, d.noL
  | .box l => noLs l
  | .mp _ _ l => ∀ p ∈ l, (∀ d ∈ p.1, d.noL) ∧ ∀ d ∈ p.2, d.noL
  | .mb _ _ _ _ => False
  | .it _ _ _ => False
  | .dead => True
def noLB : List (Nat × Blk) → Prop
  | [] => True
  | (_, b) :: t => b.noLb ∧ noLB t
theorem noLB_look : ∀ {l : List (Nat × Blk)}, noLB l → ∀ i b, look l i = some b → b.noLb
  | [], _, i, b, h => by cases h
  | (j, x) :: t, hn, i, b, h => by
    rw [look_cons] at h
    split at h
    · cases h; exact hn.1
    · exact noLB_look hn.2 i b h

/-- The caller's numbers of the blocks that were handed over, and of those that are new. -/
def backF (n : Nat) : List (Nat × Nat) → Nat → Nat → List (Nat × Nat)
  | [], zz, dn => shiftB n zz dn
  | (i, j) :: t, zz, dn => (j, i) :: backF n t zz dn
where shiftB (n zz : Nat) : Nat → List (Nat × Nat)
  | 0 => []
  | k + 1 => (Nat.add zz k, Nat.add n k) :: shiftB n zz k

theorem look_shiftB (n zz : Nat) : ∀ (k i : Nat), look (backF.shiftB n zz k) i = if zz ≤ i ∧ i < zz + k then some (n + (i - zz)) else none
  | 0, i => by rw [if_neg (by omega)]; rfl
  | k + 1, i => by
    simp only [backF.shiftB]
    rw [look_cons, look_shiftB n zz k i]
    show (if zz + k = i then some (n + k) else _) = _
    by_cases h : zz + k = i
    · rw [if_pos h, if_pos (by omega)]; congr 1; omega
    · rw [if_neg h]
      by_cases h2 : zz ≤ i ∧ i < zz + k
      · rw [if_pos h2, if_pos (by omega)]
      · rw [if_neg h2, if_neg (by omega)]

theorem look_backF (n : Nat) : ∀ (f : List (Nat × Nat)) (zz dn i : Nat), look (backF n f zz dn) i = match rev f i with | some q => some q | none => if zz ≤ i ∧ i < zz + dn then some (n + (i - zz)) else none
  | [], zz, dn, i => by simp only [backF, rev, look_shiftB]
  | (a, b) :: t, zz, dn, i => by
    simp only [backF]
    rw [look_cons, rev_cons]
    by_cases h : b = i
    · rw [if_pos h, if_pos h]
    · rw [if_neg h, if_neg h]; exact look_backF n t zz dn i

/-- A callee's blocks, under the caller's numbers. -/
def backW (I : Prims) (h : List (Nat × Nat)) : List (Nat × Blk) → Option (List (Nat × Blk))
  | [] => some []
  | (j, b) :: t => match look h j, Blk.out I 0 h [] b, backW I h t with
    | some i, some x, some r => some ((i, x) :: r)
    | _, _, _ => none

theorem backW_look {h : List (Nat × Nat)} : ∀ {l l' : List (Nat × Blk)}, backW std h l = some l' → ∀ i b, look l' i = some b → ∃ j x, look h j = some i ∧ Blk.out std 0 h [] x = some b ∧ look l j = some x
  | [], l', e => by cases e; intro i b h; cases h
  | (j, x) :: t, l', e => by
    simp only [backW] at e
    split at e
    · rename_i q y r h1 h2 h3
      cases e
      intro i b hb
      rw [look_cons] at hb
      split at hb
      · rename_i e; cases hb; subst e; exact ⟨j, x, h1, h2, by rw [look_cons, if_pos rfl]⟩
      · rename_i hne
        obtain ⟨j', x', k1, k2, k3⟩ := backW_look h3 i b hb
        refine ⟨j', x', k1, k2, ?_⟩
        rw [look_cons, if_neg, k3]
        rintro rfl
        rw [h1] at k1; cases k1; exact hne rfl
    · cases e
theorem backW_some {h : List (Nat × Nat)} : ∀ {l l' : List (Nat × Blk)}, backW std h l = some l' → ∀ j x, look l j = some x → ∃ i, look h j = some i ∧ (look l' i).isSome = true
  | [], l', e => by intro j x h; cases h
  | (a, y) :: t, l', e => by
    simp only [backW] at e
    split at e
    · rename_i q z r h1 h2 h3
      cases e
      intro j x hj
      rw [look_cons] at hj
      split at hj
      · rename_i e; subst e; exact ⟨q, h1, by rw [look_cons, if_pos rfl]; rfl⟩
      · obtain ⟨i, k1, k2⟩ := backW_some h3 j x hj
        refine ⟨i, k1, ?_⟩
        rw [look_cons]
        split
        · rfl
        · exact k2
    · cases e

def shiftM (I : Prims) (f : List (Nat × Nat)) (n zz : Nat) (r : Res) : Option Res :=
  match V.out I (backF n f zz r.dn) [] r.val, backW I (backF n f zz r.dn) r.wr with
  | some v, some w => some ⟨v, w, r.dn, True⟩
  | _, _ => none

def allLive : List (Nat × Blk) → Bool
  | [] => true
  | (_, b) :: t => b.live && allLive t
theorem allLive_look : ∀ {l : List (Nat × Blk)}, allLive l = true → ∀ i b, look l i = some b → b.live = true
  | [], _, i, b, h => by cases h
  | (j, x) :: t, hn, i, b, h => by
    simp only [allLive, Bool.and_eq_true] at hn
    rw [look_cons] at h
    split at h
    · cases h; exact hn.1
    · exact allLive_look hn.2 i b h

/-- The caller's blocks, as the callee sees them. -/
def outAwC (I : Prims) (f : List (Nat × Nat)) (aw : List (Nat × Blk)) : List (Nat × Nat) → Option (List (Nat × Blk))
  | [] => some []
  | (i, j) :: r => match look aw i with
    | some b => (match Blk.out I 0 f [] b, outAwC I f aw r with
        | some a, some q => some ((j, a) :: q)
        | _, _ => none)
    | none => none
theorem outAwC_look {f : List (Nat × Nat)} {aw : List (Nat × Blk)} : ∀ (g : List (Nat × Nat)) (a : List (Nat × Blk)), outAwC std f aw g = some a → ∀ j b, look a j = some b → ∃ i y, (i, j) ∈ g ∧ look aw i = some y ∧ Blk.out std 0 f [] y = some b
  | [], e, h => by simp only [outAwC] at h; cases h; intro t v h; cases h
  | (i, j) :: r, e, h => by
    simp only [outAwC] at h
    split at h
    · rename_i u hu
      split at h
      · rename_i a b ha hb
        cases h
        intro t v hv
        rw [look_cons] at hv
        split at hv
        · rename_i e; cases hv; subst e; exact ⟨i, u, List.mem_cons_self, hu, ha⟩
        · obtain ⟨i', y, h1, h2⟩ := outAwC_look r b hb t v hv
          exact ⟨i', y, List.mem_cons_of_mem _ h1, h2⟩
      · cases h
    · cases h
theorem outAwC_some {f : List (Nat × Nat)} {aw : List (Nat × Blk)} : ∀ (g : List (Nat × Nat)) (a : List (Nat × Blk)), outAwC std f aw g = some a → ∀ i j, (i, j) ∈ g → (look a j).isSome = true ∧ (look aw i).isSome = true
  | [], e, h => by intro i j h; cases h
  | (i, j) :: r, e, h => by
    simp only [outAwC] at h
    split at h
    · rename_i u hu
      split at h
      · rename_i a b ha hb
        cases h
        intro i' j' hm
        rw [look_cons]
        rcases List.mem_cons.1 hm with hm | hm
        · cases hm; rw [if_pos rfl]; exact ⟨rfl, by rw [hu]; rfl⟩
        · obtain ⟨h1, h2⟩ := outAwC_some r b hb i' j' hm
          refine ⟨?_, h2⟩
          split
          · rfl
          · exact h1
      · cases h
    · cases h
theorem outAwC_congr {f : List (Nat × Nat)} {aw aw' : List (Nat × Blk)} : ∀ (g : List (Nat × Nat)), (∀ i j, (i, j) ∈ g → look aw' i = look aw i) → outAwC std f aw' g = outAwC std f aw g
  | [], h => rfl
  | (i, j) :: r, h => by
    simp only [outAwC, h i j List.mem_cons_self, outAwC_congr r (fun a b hm => h a b (List.mem_cons_of_mem _ hm))]

theorem Blk.out_live {z : Nat} {f : List (Nat × Nat)} {aw : List (Nat × Blk)} {x y : Blk} (h : Blk.out std z f aw x = some y) : y.live = x.live := by
  cases x with
  | box l =>
    simp only [Blk.out] at h
    split at h
    · cases h; rfl
    · cases h
  | row l k e => cases h; rfl
  | mp _ _ l => cases h; rfl
  | mb _ _ _ _ => cases h; rfl
  | it _ _ _ =>
    simp only [Blk.out] at h
    split at h
    · cases h; rfl
    · cases h
  | dead => cases h; rfl

section
variable {P : Program} {w0 : World} {M : Nat → Prop} {E : Emb} {aw : List (Nat × Blk)} {n : Nat} {w : World}

/-- A block, from one embedding to another one. -/
theorem moveB {A B : Emb} {f : List (Nat × Nat)} {full : Prop} (hm : Moves A B f full) {i j : Nat} (hi : look f i = some j) {x y : Blk} (h : Blk.out std 0 f [] x = some y) (hn : full ∨ x.noLb) (hx : BlkOK A i w x) : BlkOK B j w y := by
  obtain ⟨h1, h2⟩ := hm.ρ i j hi
  cases x with
  | dead => cases h; trivial
  | row l k e =>
    cases h
    rcases hx with ⟨g1, g2⟩ | ⟨b, c, g1, g2, g3, g4, g5⟩
    · exact .inl ⟨h1.trans g1, g2⟩
    · refine .inr ⟨b, c, h1.trans g1, g2, g3.trans h2.symm, g4, ?_⟩
      rcases hn with hf | hn
      · exact repDs_mono (hm.H hf) _ _ g5
      · exact repDs_noL _ _ hn g5
  | mp ka va l =>
    cases h
    obtain ⟨b, es, ck, g1, g2, ⟨k2, k3⟩⟩ := hx
    refine ⟨b, es, ck, h1.trans g1, g2, ⟨?_, k3⟩⟩
    rcases hn with hf | hn
    · exact repE_mono (hm.H hf) _ _ k2
    · clear k3
      simp only [Blk.noLb] at hn
      have kk : ∀ (ag : Bool) (ds : List D) (v : Value), (∀ d ∈ ds, d.noL) → repKV A.H ag ds v → repKV B.H ag ds v := by
        intro ag ds v hd hv
        cases ag with
        | false => obtain ⟨d, e1, e2⟩ := hv; exact ⟨d, e1, repD_noL (hd d (by rw [e1]; exact List.mem_cons_self)) e2⟩
        | true => obtain ⟨cs, e1, e2, e3, e4⟩ := hv; exact ⟨cs, e1, e2, repDs_noL _ _ hd e3, e4⟩
      generalize es.toList = q at k2 ⊢
      clear g2
      induction l generalizing q with
      | nil => exact k2
      | cons p t ih =>
        obtain ⟨e, q', e1, e2, e3, e4⟩ := k2
        have hp := hn p List.mem_cons_self
        exact ⟨e, q', e1, kk _ _ _ hp.1 e2, kk _ _ _ hp.2 e3, ih (fun a ha => hn a (List.mem_cons_of_mem _ ha)) q' e4⟩
  | mb ka va l ck =>
    cases h
    obtain ⟨b, es, g1, g2, g3, g4⟩ := hx
    rcases hn with hf | hn
    · exact ⟨b, es, h1.trans g1, g2, repM_mono (hm.H hf) g3, g4⟩
    · exact hn.elim
  | it mid seen ck =>
    simp only [Blk.out] at h
    split at h
    · rename_i j' hj'
      cases h
      obtain ⟨b, m, g1, g2, g3⟩ := hx
      exact ⟨b, m, h1.trans g1, (hm.ρ _ _ hj').1.trans g2, g3⟩
    · cases h
  | box l =>
    simp only [Blk.out] at h
    split at h
    · rename_i r hr
      cases h
      obtain ⟨b, c, e, g1, g2, g3⟩ := hx
      exact ⟨b, c, e, h1.trans g1, g2, movesC_rep hm _ _ hr (hn.imp id (fun h => h)) _ g3⟩
    · cases h

theorem memN_keys {f : List (Nat × Nat)} {i j : Nat} (h : (i, j) ∈ f) (l : List Nat) : memN (keys f ++ l) i = true := by
  rw [memN_append, (memN_iff _ _).2 (mem_keys h)]; rfl

/-- A CALL THAT IS HANDED BLOCKS. sn: its arguments may hold further rows of the caller's own: they are read as they are now. -/
theorem call_M {g : FuncId} {zz : Nat} {awc : List (Nat × Blk)} {args vs : List V} {r r' : Res} (h : SpecM P g zz awc args r) (f : List (Nat × Nat)) (sn : Bool)
    (hf : (distinctN (news f) && distinctN (keys f) && allLt (news f) zz) = true) (hl : allLive awc = true) (ha : outs std f (bif sn then aw else []) vs = some args) (hb : outAwC std f aw f = some awc)
    (hs : shiftM std f n zz r = some r') (hn : sn = false ∨ (r.val.noL ∧ noLB r.wr)) : CallOK P g vs aw (keys f ++ bif sn then idsL vs else []) n r' := by
  simp only [Bool.and_eq_true] at hf
  obtain ⟨⟨hd, hdk⟩, hlt⟩ := hf
  refine ⟨h.1, fun aw' hag w0 M E w xs hW hfree hvs => ?_⟩
  have hdn : r'.dn = r.dn := by unfold shiftM at hs; split at hs <;> cases hs; rfl
  rw [hdn] at hfree
  have hagf : ∀ i j, (i, j) ∈ f → look aw' i = look aw i := fun i j hm => hag i (memN_keys hm _)
  rw [← outAwC_congr (aw' := aw') f hagf] at hb
  have hfa : ∃ fa, (fa = aw' ∨ fa = []) ∧ (sn = false → fa = []) ∧ outs std f fa vs = some args := by
    cases sn with
    | false => exact ⟨[], .inr rfl, fun _ => rfl, ha⟩
    | true =>
      refine ⟨aw', .inl rfl, fun e => (by cases e), ?_⟩
      have ha : outs std f aw vs = some args := ha
      have key : ∀ (v : V), (∀ i, memN v.idsV i = true → look aw' i = look aw i) → V.out std f aw' v = V.out std f aw v := fun v hv => out_congr v hv
      rw [outs_congr (aw := aw) (aw' := aw') vs (fun i hi => hag i (by rw [memN_append]; show (_ || memN (idsL vs) i) = true; rw [hi, Bool.or_true]))]
      exact ha
  obtain ⟨fa, hfa1, hfa2, ha⟩ := hfa
  have hWf : WR w0 M E fa n w := by
    rcases hfa1 with rfl | rfl
    · exact hW
    · exact ⟨fun i b h => (by cases h), hW.ro, fun i j b x y h => (by cases h), hW.dom, fun i y b h => (by cases h), hW.none_n, hW.frame⟩
  let X := E.view f fa w
  have hXρ : ∀ i j, (i, j) ∈ f → X.ρ j = E.ρ i ∧ X.κ j = E.κ i := by
    intro i j hm
    have := rev_of_mem hd hm
    exact ⟨by simp only [X, Emb.view, this], by simp only [X, Emb.view, this]⟩
  have hXinv : ∀ j x, X.ρ j = some x → ∃ i, (i, j) ∈ f ∧ E.ρ i = some x := by
    intro j x hx
    cases hr : rev f j with
    | none => simp [X, Emb.view, hr] at hx
    | some i => exact ⟨i, rev_mem hr, by simpa [X, Emb.view, hr] using hx⟩
  have hltz : ∀ i j, (i, j) ∈ f → j < zz := fun i j hm => allLt_mem _ _ hlt _ (mem_news hm)
  have hXz : ∀ i x, X.ρ i = some x → i < zz := fun i x hx => let ⟨q, hq, _⟩ := hXinv i x hx; hltz q i hq
  have hXH : ∀ b o, X.H b = some o → w.heap[b]? = some o := by
    intro b o hb
    simp only [X, Emb.view] at hb
    split at hb
    · rename_i o' ho; cases hb; exact hW.ro b o ho
    · split at hb
      · exact hb
      · cases hb
  -- of a block that was handed over: its number here, its block there and here
  have hkey : ∀ i j, (i, j) ∈ f → ∃ y z, look aw' i = some y ∧ look awc j = some z ∧ y.live = true ∧ z.live = true := by
    intro i j hm
    obtain ⟨h1, h2⟩ := outAwC_some f awc hb i j hm
    cases hj : look awc j with
    | none => rw [hj] at h1; cases h1
    | some z =>
      have hzl := allLive_look hl j z hj
      obtain ⟨i', y, k1, k2, k3⟩ := outAwC_look f awc hb j z hj
      have : i' = i := by
        have a := rev_of_mem hd k1
        have b := rev_of_mem hd hm
        rw [a] at b; cases b; rfl
      subst this
      exact ⟨y, z, k2, rfl, by rw [← Blk.out_live k3]; exact hzl, hzl⟩
  have hmine : ∀ j b, X.ρ j = some (some b) → mine X awc b := by
    intro j b hj
    obtain ⟨i, hm, _⟩ := hXinv j _ hj
    obtain ⟨y, z, _, h2, _, h3⟩ := hkey i j hm
    exact ⟨j, z, hj, h2, h3⟩
  have hXfree : ∀ i y b, look aw' i = some y → y.live = true → E.ρ i = some (some b) → (∃ j, (i, j) ∈ f) → X.H b = none := by
    rintro i y b h1 h2 h3 ⟨j, hm⟩
    simp only [X, Emb.view, hW.own i y b h1 h2 h3]
    rw [if_neg]
    rintro ⟨i', y', k1, k2, k3, k4⟩
    have k2' : look aw' i' = some y' := by rcases hfa1 with rfl | rfl; exact k2; cases k2
    have := hW.inj i i' b y y' h1 h2 k2' k3 h3 k1
    subst this
    obtain ⟨j', hj'⟩ : ∃ j', look f i = some j' := by
      have : ∀ (g : List (Nat × Nat)), (i, j) ∈ g → ∃ j', look g i = some j' := by
        intro g
        induction g with
        | nil => intro h; cases h
        | cons p g ih =>
          obtain ⟨a, b⟩ := p
          intro h
          rw [look_cons]
          split
          · exact ⟨b, rfl⟩
          · rename_i hne
            rcases List.mem_cons.1 h with h | h
            · cases h; exact absurd rfl hne
            · exact ih h
      exact this f hm
    rw [k4] at hj'; cases hj'
  have hWX : WR w (mine X awc) X awc zz w := by
    refine ⟨?_, hXH, ?_, ?_, ?_, ?_, ⟨rfl, rfl, rfl, Nat.le_refl _, fun _ _ _ => rfl, Nat.le_refl _⟩⟩
    · intro j z hz
      obtain ⟨i, y, k1, k2, k3⟩ := outAwC_look f awc hb j z hz
      have hmv : Moves E X f True := by
        refine ⟨fun a b hab => hXρ a b (mem_of_look hab), fun _ b o hb => view_H b o hb⟩
      have hlk : look f i = some j := by
        have : ∀ (g : List (Nat × Nat)), distinctN (keys g) = true → (i, j) ∈ g → look g i = some j := by
          intro g
          induction g with
          | nil => intro _ h; cases h
          | cons p g ih =>
            obtain ⟨a, b⟩ := p
            intro hg h
            simp only [keys, distinctN, Bool.and_eq_true, Bool.not_eq_true'] at hg
            rw [look_cons]
            rcases List.mem_cons.1 h with h | h
            · cases h; rw [if_pos rfl]
            · rw [if_neg]
              · exact ih hg.2 h
              · rintro rfl
                have := (memN_iff _ _).2 (mem_keys h)
                rw [hg.1] at this; cases this
        exact this f hdk k1
      exact moveB hmv hlk k3 (.inl trivial) (hW.blk i y k2)
    · intro i j b x y h1 h2 h3 h4 h5 h6
      obtain ⟨a, hma, ha'⟩ := hXinv i _ h5
      obtain ⟨c, hmc, hc'⟩ := hXinv j _ h6
      obtain ⟨y1, _, k1, _, k2, _⟩ := hkey a i hma
      obtain ⟨y2, _, k3, _, k4, _⟩ := hkey c j hmc
      have := hW.inj a c b y1 y2 k1 k2 k3 k4 ha' hc'
      subst this
      exact keys_inj hdk hma hmc
    · intro j b hj
      obtain ⟨i, hm, hi⟩ := hXinv j _ hj
      exact ⟨(hW.dom i b hi).1, .inr (hmine j b hj)⟩
    · intro j z b h1 h2 h3
      obtain ⟨i, hm, hi⟩ := hXinv j _ h3
      obtain ⟨y, _, k1, _, k2, _⟩ := hkey i j hm
      exact hXfree i y b k1 k2 hi ⟨j, hm⟩
    · cases hx : X.ρ zz with
      | none => rfl
      | some x => exact absurd (hXz zz x hx) (Nat.lt_irrefl _)
  have hv := outs_rep (f := f) hWf hd _ _ ha _ hvs
  refine (h.2 X w xs hWX hXz hv).mono ?_
  rintro e w' ⟨v, C, rfl, hD⟩
  unfold shiftM at hs
  split at hs
  case h_2 => cases hs
  rename_i Y W hY hWr
  cases hs
  obtain ⟨S, hg, hS⟩ := hD.grown
  let G : Emb := ⟨fun i => if n ≤ i ∧ i < n + r.dn then C.ρ (zz + (i - n)) else E.ρ i, fun i => if n ≤ i ∧ i < n + r.dn then C.κ (zz + (i - n)) else E.κ i, bif sn then E.H else C.H⟩
  have inR : ∀ i, n ≤ i ∧ i < n + r.dn → G.ρ i = C.ρ (zz + (i - n)) ∧ G.κ i = C.κ (zz + (i - n)) := fun i hi => ⟨if_pos hi, if_pos hi⟩
  have outR : ∀ i, ¬ (n ≤ i ∧ i < n + r.dn) → G.ρ i = E.ρ i ∧ G.κ i = E.κ i := fun i hi => ⟨if_neg hi, if_neg hi⟩
  have old : ∀ i x, E.ρ i = some x → ¬ (n ≤ i ∧ i < n + r.dn) := by
    rintro i x hx ⟨h1, h2⟩
    rw [hfree i h1 h2] at hx; cases hx
  have hEC : ∀ b o, E.H b = some o → C.H b = some o := fun b o hb => hD.le.2.2 b o (view_H b o hb)
  have hle : EmbLe E G := by
    refine ⟨fun i x hx => by rw [(outR i (old i x hx)).1]; exact hx, fun i x hx => (outR i (old i x hx)).2, fun b o hb => ?_⟩
    cases sn with
    | false => exact hEC b o hb
    | true => exact hb
  have Cold : ∀ i j, (i, j) ∈ f → C.ρ j = E.ρ i ∧ C.κ j = E.κ i := by
    intro i j hm
    obtain ⟨h1, h2⟩ := hXρ i j hm
    obtain ⟨y, z, k1, k2, k3, k4⟩ := hkey i j hm
    have hbk := hWX.blk j z k2
    have : ∃ x, X.ρ j = some x := by
      cases z with
      | row l k e => rcases hbk with ⟨h, _⟩ | ⟨_, _, h, _⟩ <;> exact ⟨_, h⟩
      | box l => obtain ⟨_, _, _, h, _⟩ := hbk; exact ⟨_, h⟩
      | mp _ _ l => obtain ⟨_, _, _, h, _⟩ := hbk; exact ⟨_, h⟩
      | mb _ _ _ _ => obtain ⟨_, _, h, _⟩ := hbk; exact ⟨_, h⟩
      | it _ _ _ => obtain ⟨_, _, h, _⟩ := hbk; exact ⟨_, h⟩
      | dead => cases k4
    obtain ⟨x, hx⟩ := this
    exact ⟨by rw [hD.le.1 j x hx, ← h1, hx], by rw [hD.le.2.1 j x hx, h2]⟩
  have Cnew : ∀ k x, C.ρ (zz + k) = some x → k < r.dn ∧ ∀ b, x = some b → (w.heap.size ≤ b ∧ b < w'.heap.size) ∨ ∃ i, E.ρ i = some (some b) := by
    intro k x hx
    rcases hD.new _ x hx with h1 | ⟨_, h1, h2⟩
    · have := hXz _ _ h1; omega
    · refine ⟨by omega, fun b hb => ?_⟩
      rcases h2 b hb with h3 | ⟨j, hj⟩
      · exact .inl h3
      · obtain ⟨i, _, hi⟩ := hXinv j _ hj
        exact .inr ⟨i, hi⟩
  have hback : ∀ j i, look (backF n f zz r.dn) j = some i → ((i, j) ∈ f) ∨ (zz ≤ j ∧ j < zz + r.dn ∧ i = n + (j - zz)) := by
    intro j i hj
    rw [look_backF] at hj
    cases hr : rev f j with
    | some q => rw [hr] at hj; cases hj; exact .inl (rev_mem hr)
    | none =>
      rw [hr] at hj
      simp only at hj
      split at hj
      · rename_i hq; cases hj; exact .inr ⟨hq.1, hq.2, rfl⟩
      · cases hj
  have hkeyold : ∀ i j, (i, j) ∈ f → ¬ (n ≤ i ∧ i < n + r.dn) := by
    intro i j hm hi
    obtain ⟨y, z, k1, k2, k3, k4⟩ := hkey i j hm
    have hbk := hW.blk i y k1
    have hE := hfree i hi.1 hi.2
    cases y with
    | row l k e => rcases hbk with ⟨h, _⟩ | ⟨_, _, h, _⟩ <;> (rw [hE] at h; cases h)
    | box l => obtain ⟨_, _, _, h, _⟩ := hbk; rw [hE] at h; cases h
    | mp _ _ l => obtain ⟨_, _, _, h, _⟩ := hbk; rw [hE] at h; cases h
    | mb _ _ _ _ => obtain ⟨_, _, h, _⟩ := hbk; rw [hE] at h; cases h
    | it _ _ _ => obtain ⟨_, _, h, _⟩ := hbk; rw [hE] at h; cases h
    | dead => cases k3
  have hmv : Moves C G (backF n f zz r.dn) (sn = false) := by
    refine ⟨fun j i hj => ?_, fun hf b o hb => ?_⟩
    · rcases hback j i hj with hm | ⟨h1, h2, rfl⟩
      · obtain ⟨k1, k2⟩ := outR i (hkeyold i j hm)
        obtain ⟨k3, k4⟩ := Cold i j hm
        exact ⟨k1.trans k3.symm, k2.trans k4.symm⟩
      · have := inR (n + (j - zz)) ⟨by omega, by omega⟩
        rwa [show zz + (n + (j - zz) - n) = j by omega] at this
    · subst hf; exact hb
  -- of what is live behind the call
  have cls : ∀ i x, look (W ++ aw') i = some x → x.live = true → (∃ j z, look (backF n f zz r.dn) j = some i ∧ look (r.wr ++ awc) j = some z ∧ z.live = true ∧ G.ρ i = C.ρ j) ∨ (look aw' i = some x ∧ (∀ j, (i, j) ∉ f) ∧ ¬ (n ≤ i ∧ i < n + r.dn)) := by
    intro i x hx hxl
    rw [look_append] at hx
    cases hw : look W i with
    | some q =>
      rw [hw] at hx; cases hx
      left
      obtain ⟨j, z, k1, k2, k3⟩ := backW_look hWr i _ hw
      refine ⟨j, z, k1, (by rw [look_append, k3]), ?_, (hmv.ρ j i k1).1⟩; first | (rw [← Blk.out_live k2]; exact hxl) | skip -- rw [← Blk.out_live k2]; exact hxl, (hmv.ρ j i k1).1⟩
    | none =>
      rw [hw] at hx
      by_cases hi : n ≤ i ∧ i < n + r.dn
      · have hbk := hW.blk i x hx
        have hE := hfree i hi.1 hi.2
        cases x with
        | row l k e => rcases hbk with ⟨h, _⟩ | ⟨_, _, h, _⟩ <;> (rw [hE] at h; cases h)
        | box l => obtain ⟨_, _, _, h, _⟩ := hbk; rw [hE] at h; cases h
        | mp _ _ l => obtain ⟨_, _, _, h, _⟩ := hbk; rw [hE] at h; cases h
        | mb _ _ _ _ => obtain ⟨_, _, h, _⟩ := hbk; rw [hE] at h; cases h
        | it _ _ _ => obtain ⟨_, _, h, _⟩ := hbk; rw [hE] at h; cases h
        | dead => cases hxl
      · by_cases hk : ∃ j, (i, j) ∈ f
        · obtain ⟨j, hm⟩ := hk
          left
          obtain ⟨y, z, g1, g2, g3, g4⟩ := hkey i j hm
          have hb1 : look (backF n f zz r.dn) j = some i := by rw [look_backF, rev_of_mem hd hm]
          refine ⟨j, z, hb1, ?_, g4, (hmv.ρ j i hb1).1⟩
          rw [look_append]
          cases hl : look r.wr j with
          | none => exact g2
          | some q =>
            obtain ⟨i', k1, k2⟩ := backW_some hWr j q hl
            rw [hb1] at k1; cases k1
            rw [hw] at k2; cases k2
        · exact .inr ⟨hx, fun j hm => hk ⟨j, hm⟩, hi⟩
  have binj : ∀ j j' i, look (backF n f zz r.dn) j = some i → look (backF n f zz r.dn) j' = some i → j = j' := by
    intro j j' i h1 h2
    rcases hback j i h1 with m1 | ⟨a1, a2, a3⟩ <;> rcases hback j' i h2 with m2 | ⟨c1, c2, c3⟩
    · exact keys_inj hdk m1 m2
    · exact absurd ⟨by omega, by omega⟩ (hkeyold i j m1)
    · exact absurd ⟨by omega, by omega⟩ (hkeyold i j' m2)
    · omega
  have GH : ∀ b, (sn = false → C.H b = none) → E.H b = none → G.H b = none := by
    intro b h1 h2
    cases sn with
    | false => exact h1 rfl
    | true => exact h2
  have Gdom : ∀ i b, G.ρ i = some (some b) → (w.heap.size ≤ b ∧ b < w'.heap.size) ∨ ∃ i, E.ρ i = some (some b) := by
    intro i b h
    by_cases hi : n ≤ i ∧ i < n + r.dn
    · rw [(inR i hi).1] at h; exact (Cnew _ _ h).2 b rfl
    · rw [(outR i hi).1] at h; exact .inr ⟨i, h⟩
  have Enone : ∀ j z b, look (r.wr ++ awc) j = some z → z.live = true → C.ρ j = some (some b) → E.H b = none := by
    intro j z b h1 h2 h3
    cases hE : E.H b with
    | none => rfl
    | some o => have h4 := hEC b o hE; rw [hD.own j z b h1 h2 h3] at h4; cases h4
  refine ⟨v, G, rfl, ⟨hle, ?_, ?_, ?_, ?_, ⟨S, hg, fun k hk => ?_⟩, ?_, move_rep hmv _ _ hY (hn.imp id (·.1)) _ hD.val⟩⟩
  · intro b o hb
    cases sn with
    | true => exact .inl hb
    | false =>
      have hb : C.H b = some o := hb
      have hfa := hfa2 rfl
      rcases hD.h b o hb with h1 | ⟨h1, h2 | ⟨j, z, h2, h3, h4⟩⟩
      · left
        simp only [X, Emb.view] at h1
        split at h1
        · rename_i o' ho; cases h1; exact ho
        · split at h1
          · rename_i hex
            obtain ⟨_, _, _, hex, _⟩ := hex
            rw [hfa] at hex; cases hex
          · cases h1
      · exact .inr ⟨h1, .inl h2⟩
      · obtain ⟨i, hm, hi⟩ := hXinv j _ h2
        obtain ⟨y, _, k1, _, k2, _⟩ := hkey i j hm
        exact .inr ⟨h1, .inr ⟨i, y, hi, k1, k2⟩⟩
  · intro i x hx
    by_cases hi : n ≤ i ∧ i < n + r.dn
    · rw [(inR i hi).1] at hx
      exact .inr ⟨hi.1, hi.2, (Cnew _ _ hx).2⟩
    · rw [(outR i hi).1] at hx; exact .inl hx
  · intro i x b h1 h2 h3
    rcases cls i x h1 h2 with ⟨j, z, k1, k2, k3, k4⟩ | ⟨k1, k2, k3⟩
    · rw [k4] at h3
      exact GH b (fun _ => hD.own j z b k2 k3 h3) (Enone j z b k2 k3 h3)
    · rw [(outR i k3).1] at h3
      have hE := hW.own i x b k1 h2 h3
      refine GH b (fun hs => ?_) hE
      cases hC : C.H b with
      | none => rfl
      | some o =>
        rcases hD.h b o hC with g1 | ⟨_, g1 | ⟨j, z, g1, g2, g3⟩⟩
        · simp only [X, Emb.view, hE] at g1
          split at g1
          · rename_i hex
            obtain ⟨_, _, _, hex, _⟩ := hex
            rw [hfa2 hs] at hex; cases hex
          · cases g1
        · have := (hW.dom i b h3).1; omega
        · obtain ⟨i', hm, hi'⟩ := hXinv j _ g1
          obtain ⟨y, _, q1, _, q2, _⟩ := hkey i' j hm
          have := hW.inj i i' b x y k1 h2 q1 q2 h3 hi'
          subst this
          exact absurd hm (k2 j)
  · intro i i' b x y h1 h2 h3 h4 h5 h6
    rcases cls i x h1 h2 with ⟨j, z, k1, k2, k3, k4⟩ | ⟨k1, k2, k3⟩ <;> rcases cls i' y h3 h4 with ⟨j', z', g1, g2, g3, g4⟩ | ⟨g1, g2, g3⟩
    · rw [k4] at h5
      rw [g4] at h6
      have := hD.inj j j' b z z' k2 k3 g2 g3 h5 h6
      subst this
      rw [k1] at g1; cases g1; rfl
    · exfalso
      rw [k4] at h5
      rw [(outR i' g3).1] at h6
      rcases hback j i k1 with hm | ⟨a1, a2, a3⟩
      · rw [(Cold i j hm).1] at h5
        obtain ⟨y', _, q1, _, q2, _⟩ := hkey i j hm
        have := hW.inj i i' b y' y q1 q2 g1 h4 h5 h6
        subst this
        exact g2 j hm
      · have hj : C.ρ (zz + (j - zz)) = some (some b) := by rw [show zz + (j - zz) = j by omega]; exact h5
        rcases hD.new j _ h5 with c1 | ⟨_, _, c1⟩
        · have := hXz _ _ c1; omega
        · rcases c1 b rfl with c2 | ⟨q, c2⟩
          · have := (hW.dom i' b h6).1; omega
          · obtain ⟨p, hm, hp⟩ := hXinv q _ c2
            obtain ⟨y', _, q1, _, q2, _⟩ := hkey p q hm
            have := hW.inj p i' b y' y q1 q2 g1 h4 hp h6
            subst this
            exact g2 q hm
    · exfalso
      rw [g4] at h6
      rw [(outR i k3).1] at h5
      rcases hback j' i' g1 with hm | ⟨a1, a2, a3⟩
      · rw [(Cold i' j' hm).1] at h6
        obtain ⟨y', _, q1, _, q2, _⟩ := hkey i' j' hm
        have := hW.inj i' i b y' x q1 q2 k1 h2 h6 h5
        subst this
        exact k2 j' hm
      · rcases hD.new j' _ h6 with c1 | ⟨_, _, c1⟩
        · have := hXz _ _ c1; omega
        · rcases c1 b rfl with c2 | ⟨q, c2⟩
          · have := (hW.dom i b h5).1; omega
          · obtain ⟨p, hm, hp⟩ := hXinv q _ c2
            obtain ⟨y', _, q1, _, q2, _⟩ := hkey p q hm
            have := hW.inj p i b y' x q1 q2 k1 h2 hp h5
            subst this
            exact k2 q hm
    · rw [(outR i k3).1] at h5
      rw [(outR i' g3).1] at h6
      exact hW.inj i i' b x y k1 h2 g1 h4 h5 h6
  · obtain ⟨j, z, h1, h2, h3, h4⟩ := hS k hk
    obtain ⟨i, hm, hi⟩ := hXinv j _ h1
    obtain ⟨y, _, q1, _, q2, _⟩ := hkey i j hm
    refine ⟨i, y, hi, q1, q2, ?_⟩
    cases hl : look r.wr j with
    | none => rw [hl] at h4; cases h4
    | some q =>
      obtain ⟨i', k1, k2⟩ := backW_some hWr j q hl
      have hb1 : look (backF n f zz r.dn) j = some i := by rw [look_backF, rev_of_mem hd hm]
      rw [hb1] at k1; cases k1
      exact k2
  · intro i b hb
    obtain ⟨j, x, k1, k2, k3⟩ := backW_look hWr i b hb
    refine moveB hmv k1 k2 (hn.imp id fun h => noLB_look h.2 j x k3) (hD.wr j x k3)

theorem callP_M {I : Prims} {g : FuncId} {vs args : List V} {st : St} {K : CRes → Prop} {zz : Nat} {awc : List (Nat × Blk)} {r r' : Res} (h : SpecM P g zz awc args r) (f : List (Nat × Nat)) (sn : Bool) (hI : I = std)
    (hf : (distinctN (news f) && distinctN (keys f) && allLt (news f) zz) = true) (hl : allLive awc = true) (ha : outs I f (bif sn then st.aw else []) vs = some args) (hb : outAwC I f st.aw f = some awc)
    (hs : shiftM I f st.n zz r = some r') (hn : sn = false ∨ (r.val.noL ∧ noLB r.wr)) (k : K ⟨r', keys f ++ bif sn then idsL vs else []⟩) : CallP P I g vs st K := by
  subst hI; exact ⟨_, call_M h f sn hf hl ha hb hs hn, k⟩
end
end Go.AX

namespace Go.AX
set_option autoImplicit false
set_option linter.unusedSimpArgs false
set_option linter.unusedVariables false
set_option linter.unusedSectionVars false

def encM {α β : Type} (f : α → List D) (g : β → List D) (m : List (α × β)) : List (List D × List D) := m.map fun p => (f p.1, g p.2)
/-- What a map has at a key. -/
def gGet {α β : Type} (f : α → List D) : List (α × β) → α → Option β
  | [], _ => none
  | p :: t, k => if sameL (f k) (f p.1) then some p.2 else gGet f t k
def gSet {α β : Type} (f : α → List D) : List (α × β) → α → β → List (α × β)
  | [], k, v => [(k, v)]
  | p :: t, k, v => if sameL (f k) (f p.1) then (k, v) :: t else p :: gSet f t k v
def gDel {α β : Type} (f : α → List D) : List (α × β) → α → List (α × β)
  | [], _ => []
  | p :: t, k => if sameL (f k) (f p.1) then t else p :: gDel f t k

/-- An array among a row's cells. -/
def eA (k : IntKind) {n : Nat} (a : Ar n) : List D := encL (eI k) a.l
theorem eA_len (k : IntKind) {n : Nat} (a : Ar n) : (eA k a).length = n := by
  have := encL_len (k := 1) (eI_len k) a.l
  rw [Nat.mul_one, a.h] at this; exact this
theorem eA_noL (k : IntKind) {n : Nat} (a : Ar n) : ∀ d ∈ eA k a, d.noL := by
  intro d hd
  simp only [eA, encL, List.mem_flatMap, eI, List.mem_singleton] at hd
  obtain ⟨_, _, rfl⟩ := hd; trivial

section
variable {α β : Type} {f : α → List D} {g : β → List D}
theorem mget_enc (k : α) : ∀ (m : List (α × β)), mget (encM f g m) (f k) = (gGet f m k).map g
  | [] => rfl
  | p :: t => by
    show (if sameL (f k) (f p.1) then some (g p.2) else mget (encM f g t) (f k)) = _
    simp only [gGet]
    split
    · rfl
    · exact mget_enc k t
theorem mset_enc (k : α) (v : β) : ∀ (m : List (α × β)), mset (encM f g m) (f k) (g v) = encM f g (gSet f m k v)
  | [] => rfl
  | p :: t => by
    show (if sameL (f k) (f p.1) then (f k, g v) :: encM f g t else (f p.1, g p.2) :: mset (encM f g t) (f k) (g v)) = _
    simp only [gSet]
    split
    · rfl
    · rw [mset_enc k v t]; rfl
theorem mdel_enc (k : α) : ∀ (m : List (α × β)), mdel (encM f g m) (f k) = encM f g (gDel f m k)
  | [] => rfl
  | p :: t => by
    show (if sameL (f k) (f p.1) then encM f g t else (f p.1, g p.2) :: mdel (encM f g t) (f k)) = _
    simp only [gDel]
    split
    · rfl
    · rw [mdel_enc k t]; rfl
theorem kinds_enc {kk : List (Option IntKind)} (hk : ∀ a, ofKinds kk (f a)) (m : List (α × β)) : ∀ p ∈ encM f g m, ofKinds kk p.1 := by
  intro p hp
  obtain ⟨q, _, rfl⟩ := List.mem_map.1 hp
  exact hk _
theorem nameM (f : α → List D) (g : β → List D) (m : List (α × β)) : ∃ es, es = encM f g m := ⟨_, rfl⟩

theorem eI_kinds (k : IntKind) (a : Int) : ofKinds [some k] (eI k a) := ⟨rfl, trivial⟩

variable {J : PF} (hJ : J = stdJ) {R : Type} {r : R} {K : Res → Prop}
include hJ
theorem st_lk {kk : List (Option IntKind)} {te : TI} (hk : ∀ a, ofKinds kk (f a)) {m : List (α × β)} {es : List (List D × List D)} (hM : es = encM f g m) {k : α} {ks : List D} (hks : ks = f k) {z : β} (hz : plain std (zeroL std te.leaves) = some (g z)) (hsz : ∀ a, (g a).length = te.size)
    {ck : Bool} {n : Nat} {o : Option β} {v : β} {b : Bool} (ho : o = gGet f m k) (hv : v = o.getD z) (hb : b = o.isSome) {l : List V} {x : V} {ds : List D} (hds : ds = g v) (hmat : Mat te.leaves ds l) (hx : asVal te.agg l = some x)
    (nx : K ⟨bif ck then .tup [x, .d (.bool b)] else x, [], 0, True⟩) : MpP (.lk kk te es ks ck) n K := by
  subst hM hks hds
  refine ⟨_, ⟨hk k, kinds_enc hk m, x, b, l, g v, rfl, hx, ?_, hsz v, mat_rd hmat 0 (fun q hq => by simp)⟩, nx⟩
  rw [mget_enc]
  subst ho
  cases h : gGet f m k with
  | some y => rw [h] at hv hb; exact .inl ⟨by rw [hv]; rfl, hb⟩
  | none => rw [h] at hv hb; exact .inr ⟨rfl, hb, by rw [hv]; exact hz⟩
theorem st_up {kk : List (Option IntKind)} (hk : ∀ a, ofKinds kk (f a)) {m : List (α × β)} {es : List (List D × List D)} (hM : es = encM f g m) {k : α} {ks ds : List D} (hks : ks = f k) {v : β} (hds : J = stdJ → ds = g v) {id n : Nat} {ka va : Bool} {c : List (α × β) → Option R}
    (nx : ∀ es' m', es' = encM f g m' → c m' = some r → K ⟨.tup [], [(id, .mp ka va es')], 0, True⟩) (h : Let (gSet f m k v) c = some r) : MpP (.up kk id ka va es ks ds) n K := by
  have := hds hJ
  subst hM hks this
  exact ⟨_, ⟨hk k, kinds_enc hk m, rfl⟩, nx _ (gSet f m k v) (mset_enc k v m) h⟩
theorem st_del {kk : List (Option IntKind)} (hk : ∀ a, ofKinds kk (f a)) {m : List (α × β)} {es : List (List D × List D)} (hM : es = encM f g m) {k : α} {ks : List D} (hks : ks = f k) {id n : Nat} {ka va : Bool} {c : List (α × β) → Option R}
    (nx : ∀ es' m', es' = encM f g m' → c m' = some r → K ⟨.tup [], [(id, .mp ka va es')], 0, True⟩) (h : Let (gDel f m k) c = some r) : MpP (.del kk id ka va es ks) n K := by
  subst hM hks
  exact ⟨_, ⟨hk k, kinds_enc hk m, rfl⟩, nx _ (gDel f m k) (mdel_enc k m) h⟩
theorem st_mkm {ka va : Bool} {n : Nat} (nx : K ⟨.map n, [(n, .mp ka va [])], 1, True⟩) : MpP (.mk ka va) n K := ⟨_, rfl, nx⟩
theorem st_eqL {neg : Bool} {ls : List Leaf} {a b : List V} {n : Nat} {q e : Bool} (h : eqLs ls a b q) (he : (bif neg then !q else q) = e) {c : Bool → Option R} (nx : ∀ v, v = e → c v = some r → K ⟨.d (.bool v), [], 0, True⟩) (hh : Let e c = some r) : MpP (.eq neg ls a b) n K :=
  ⟨_, ⟨q, h, rfl⟩, nx _ he (by rw [he]; exact hh)⟩
end
theorem encI_map (k : IntKind) (l : List Int) : encL (eI k) l = l.map (D.int k) := by
  induction l with
  | nil => rfl
  | cons a t ih => show [D.int k a] ++ encL (eI k) t = _; rw [ih]; rfl

theorem SpecM.nils {P : Program} {g : FuncId} {zz : Nat} {aw : List (Nat × Blk)} {s t : List V} {r : Res} (h : SpecM P g zz aw t r) (hle : LeV s t) : SpecM P g zz aw s r :=
  ⟨h.1, fun X w xs hW hX hx => h.2 X w xs hW hX (hle.rep.1 _ hx)⟩
theorem Spec.toM {P : Program} {g : FuncId} {args : List V} {r : Res} (h : Spec P g args r) (hn : True) : Spec P g args r := h
theorem noL_big {k : IntKind} {n : Nat} {a : Ar n} {ds : List D} (h : ds = encL (eI k) a.l) : ∀ d ∈ ds, d.noL := by
  rw [h]; exact eA_noL k a
theorem noL_map {α β : Type} {f : α → List D} {g : β → List D} {m : List (α × β)} {es : List (List D × List D)} (h : es = encM f g m) (hf : ∀ a, ∀ d ∈ f a, d.noL) (hg : ∀ a, ∀ d ∈ g a, d.noL) : ∀ p ∈ es, (∀ d ∈ p.1, d.noL) ∧ ∀ d ∈ p.2, d.noL := by
  rw [h]
  intro p hp
  obtain ⟨q, _, rfl⟩ := List.mem_map.1 hp
  exact ⟨hf _, hg _⟩
theorem allLt_look {aw : List (Nat × Blk)} {zz : Nat} (h : allLt (keys aw) zz = true) : ∀ i b, look aw i = some b → i < zz :=
  fun i b hb => allLt_mem _ _ h i (mem_keys (mem_of_look hb))

theorem trim_part {α : Type} {g : α → List D} {cs c' : List D} {n n' i : Nat} {L l' : List α} (hL : IsL g cs n L) (hq : IsL g c' n' l') (hl : l' = L.take i) : ∃ t, cs = c' ++ t := by
  refine ⟨encL g (L.drop i), ?_⟩
  rw [hL.cs, hq.cs, hl, encL_app, List.take_append_drop]

theorem rep_encL {α : Type} (g : α → List D) (z : α) : ∀ m, (List.replicate m (g z)).flatten = encL g (List.replicate m z)
  | 0 => rfl
  | m + 1 => by rw [List.replicate_succ, List.flatten_cons, List.replicate_succ, encL_cons, rep_encL g z m]
theorem st_clear {J : PF} (hJ : J = stdJ) {R : Type} {r : R} {K : Res → Prop} {α : Type} {g : α → List D} {k : Nat} (hk : ∀ a, (g a).length = k) {cs : List D} {n : Nat} {L : List α} (hL : IsL g cs n L) {z : α} {zd : List D} (hz : J = stdJ → zd = g z) (a : Nat) {off len : Nat} (hoff : J = stdJ → off = a * k) (hlen : a + len ≤ L.length) {id : Nat} {e : TypeId} {f : List α → Option R}
    (nx : ∀ cs' L', IsL g cs' n L' → f L' = some r → K ⟨.tup [], [(id, .row cs' k e)], 0, True⟩) (h : Let (overL L a (List.replicate len z)) f = some r) :
    OpP (some ⟨.tup [], [(id, .row (J .over cs off (J .repL len zd)) k e)], 0, J .leN (J .add off (J .mulNat len k)) (J .len cs)⟩) K := by
  have ho := hoff hJ
  have hz' := hz hJ
  clear hz hoff
  subst hJ hz' ho
  have hov : stdJ .over cs (a * k) (stdJ .repL len (g z)) = encL g (overL L a (List.replicate len z)) := by
    show std.over cs (a * k) ((List.replicate len (g z)).flatten) = _
    rw [rep_encL, hL.cs]
    exact enc_over hk L (List.replicate len z) a
  refine ⟨.tup [], [(id, .row (encL g (overL L a (List.replicate len z))) k e)], 0, ⟨_, by rw [hov], ?_⟩, nx _ _ ⟨rfl, ?_⟩ h⟩
  · show a * k + len * k ≤ cs.length
    rw [hL.cs, encL_len hk, ← Nat.add_mul]; exact Nat.mul_le_mul_right _ hlen
  · rw [hL.n, overL_len (by rw [List.length_replicate]; exact hlen)]

/-- An array, others laid over its beginning. -/
def Ar.cp {n : Nat} (a : Ar n) (len : Nat) (m : List Int) : Ar n := if h : len ≤ n then ⟨copyL a.l 0 len m, by rw [copyL_len (by rw [a.h]; omega), a.h]⟩ else a

theorem sla_le {α : Type} {g : α → List D} {k : Nat} (hk : ∀ a, (g a).length = k) (hk0 : 0 < k) {d c1 : List D} {q len : Nat} {L l1 : List α} (hd : d = encL g L) (hl : IsL g c1 len l1) (hq : c1 = d.take q) : len ≤ L.length ∧ d.take (len * k) = c1 := by
  have h1 : c1.length = len * k := by rw [hl.cs, encL_len hk, hl.n]
  have h2 : d.length = L.length * k := by rw [hd, encL_len hk]
  have h3 : c1.length ≤ d.length := by rw [hq]; exact List.length_take_le' _ _
  refine ⟨?_, ?_⟩
  · rw [h1, h2] at h3; exact Nat.le_of_mul_le_mul_right h3 hk0
  · rw [← h1, hq, List.length_take]
    apply List.ext_getElem?
    intro i
    simp only [List.getElem?_take]
    split <;> split <;> first | rfl | omega | skip
    · rename_i ha hb
      rw [List.getElem?_eq_none (by omega)]

theorem cpA_facts {J : PF} (hJ : J = stdJ) {kk : IntKind} {n : Nat} {A A' : Ar n} {d d' DS c1 : List D} (hd : d = encL (eI kk) A.l) {q len : Nat} {l1 : List Int} (hl1 : IsL (eI kk) c1 len l1) (hq : c1 = d.take q) {m : Nat} {M : List Int} (hM : J = stdJ → DS = encL (eI kk) M) (hm : m = M.length)
    (hA : A' = Ar.cp A l1.length M) (hd' : d' = encL (eI kk) A'.l) {v : Int} (hv : v = copyN l1.length M) :
    J .over d 0 (J .take DS (J .mulNat (J .minN m len) 1)) = d' ∧ J .ofNat (J .minN m len) = v ∧ J .leN (J .mulNat len 1) n := by
  have hM' := hM hJ
  clear hM
  subst hJ
  have hle := (sla_le (eI_len kk) (by decide) hd hl1 hq).1
  rw [A.h] at hle
  have hln : l1.length = len := hl1.n.symm
  refine ⟨?_, ?_, by show len * 1 ≤ n; omega⟩
  · rw [hd', hA, hln]
    unfold Ar.cp
    rw [dif_pos hle, hM', hd]
    show std.over (encL (eI kk) A.l) 0 ((encL (eI kk) M).take (Nat.min m len * 1)) = _
    rw [encL_take (eI_len kk), hm]
    have := enc_over (eI_len kk) A.l (M.take (Nat.min M.length len)) 0
    rw [Nat.zero_mul] at this
    exact this
  · rw [hv, hln, hm]; rfl
theorem srcA {J : PF} (hJ : J = stdJ) {kk : IntKind} {n : Nat} {A : Ar n} {d c1 : List D} (hd : d = encL (eI kk) A.l) {q len : Nat} {l1 : List Int} (hl1 : IsL (eI kk) c1 len l1) (hq : c1 = d.take q) : J .take d (J .mulNat len 1) = encL (eI kk) l1 := by
  subst hJ
  show d.take (len * 1) = _
  rw [(sla_le (eI_len kk) (by decide) hd hl1 hq).2, hl1.cs]
theorem srcW {J : PF} (hJ : J = stdJ) {kk : IntKind} {n : Nat} {A : Ar n} {d : List D} (hd : d = encL (eI kk) A.l) : J .take d (J .mulNat n 1) = encL (eI kk) A.l := by
  subst hJ
  show d.take (n * 1) = _
  rw [hd, encL_take (eI_len kk), List.take_of_length_le (by rw [A.h]; exact Nat.le_refl _)]

/-- Are a map's keys, each another one? -/
def gNod {α β : Type} (f : α → List D) : List (α × β) → Bool
  | [] => true
  | p :: t => t.all (fun q => !sameL (f p.1) (f q.1)) && gNod f t
/-- A map without the entries of which a function says so. -/
def mFilt {α β : Type} (g : α → β → Option Bool) : List (α × β) → Option (List (α × β))
  | [] => some []
  | p :: t => Bnd (g p.1 p.2) fun b => Bnd (mFilt g t) fun r => some (if b then r else p :: r)
def gFilt? {α β : Type} (f : α → List D) (g : α → β → Option Bool) (m : List (α × β)) : Option (List (α × β)) := if gNod f m then mFilt g m else none

theorem mFilt_eq {α β : Type} {g : α → β → Option Bool} : ∀ {m m' : List (α × β)}, mFilt g m = some m' → (∀ p ∈ m, ∃ b, g p.1 p.2 = some b) ∧ m' = m.filter (fun p => !(g p.1 p.2).getD false)
  | [], m', h => by cases h; exact ⟨by simp, rfl⟩
  | p :: t, m', h => by
    obtain ⟨b, hb, h⟩ := bnd h
    obtain ⟨r, hr, h⟩ := bnd h
    obtain ⟨h1, h2⟩ := mFilt_eq hr
    refine ⟨fun q hq => ?_, ?_⟩
    · rcases List.mem_cons.1 hq with rfl | hq
      · exact ⟨b, hb⟩
      · exact h1 q hq
    · cases h
      rw [List.filter_cons, hb]
      cases b <;> simp [h2]

def encB {α β : Type} (f : α → List D) (g : β → List D) (l : List (Nat × α × β)) : List (Nat × List D × List D) := l.map fun p => (p.1, f p.2.1, g p.2.2)

theorem encB_of {α β : Type} {f : α → List D} {g : β → List D} : ∀ (m : List (α × β)) (l : List (Nat × List D × List D)), l.map Prod.snd = encM f g m → ∃ lt, l = encB f g lt ∧ lt.map Prod.snd = m
  | [], l, h => by
    cases l with
    | nil => exact ⟨[], rfl, rfl⟩
    | cons _ _ => cases h
  | p :: t, l, h => by
    cases l with
    | nil => cases h
    | cons q l =>
      simp only [List.map_cons, encM, List.cons.injEq] at h
      obtain ⟨lt, h1, h2⟩ := encB_of t l h.2
      refine ⟨(q.1, p) :: lt, ?_, by simp [h2]⟩
      rw [h1]
      show q :: _ = (q.1, f p.1, g p.2) :: _
      rw [← h.1]; rfl

/-- The entries that are left. -/
def leftB {α β : Type} (pr : α → β → Bool) (lt : List (Nat × α × β)) (seen : List Nat) : List (Nat × α × β) := lt.filter fun p => !(seen.contains p.1 && pr p.2.1 p.2.2)

theorem leftB_nil {α β : Type} {pr : α → β → Bool} (lt : List (Nat × α × β)) : leftB pr lt [] = lt := by
  simp [leftB]
theorem leftB_keep {α β : Type} {pr : α → β → Bool} {lt : List (Nat × α × β)} (hnd : (lt.map Prod.fst).Nodup) {seen : List Nat} {b : Nat} {k : α} {v : β} (hm : (b, k, v) ∈ leftB pr lt seen) (hp : pr k v = false) : leftB pr lt (seen ++ [b]) = leftB pr lt seen := by
  have hmem : (b, k, v) ∈ lt := (List.mem_filter.1 hm).1
  unfold leftB
  apply List.filter_congr
  intro q hq
  by_cases hb : q.1 = b
  · have : q = (b, k, v) := by
      obtain ⟨i, hi, e1⟩ := List.getElem_of_mem hq
      obtain ⟨j, hj, e2⟩ := List.getElem_of_mem hmem
      have := nd_inj hnd (i := i) (j := j) (by simpa using hi) (by simpa using hj) (by simp [e1, e2, hb])
      subst this
      rw [← e1, ← e2]
    subst this
    simp [hp]
  · simp [hb]
theorem sameL_comm : ∀ (a b : List D), sameL a b = sameL b a
  | [], [] => rfl
  | [], _ :: _ => rfl
  | _ :: _, [] => rfl
  | x :: s, y :: t => by
    have h : x.same y = y.same x := by
      cases x <;> cases y <;> simp only [D.same]
      · rename_i j a k b
        by_cases h : j = k
        · subst h; simp only [decide_true, Bool.true_and]; rw [Bool.eq_iff_iff, beq_iff_eq, beq_iff_eq]; exact ⟨Eq.symm, Eq.symm⟩
        · simp [h, Ne.symm h]
      · rename_i a b; cases a <;> cases b <;> rfl
    show (x.same y && sameL s t) = (y.same x && sameL t s)
    rw [h, sameL_comm s t]
theorem mdelB_enc {α β : Type} {f : α → List D} {g : β → List D} (hs : ∀ a, sameL (f a) (f a) = true) : ∀ (l : List (Nat × α × β)), (l.map Prod.fst).Nodup → gNod f (l.map Prod.snd) = true → ∀ {b k v}, (b, k, v) ∈ l → mdelB (encB f g l) (f k) = encB f g (l.filter fun q => !(q.1 == b))
  | [], _, _, b, k, v, h => by cases h
  | p :: t, hnd, hk, b, k, v, h => by
    simp only [List.map_cons, List.nodup_cons] at hnd
    simp only [List.map_cons, gNod, Bool.and_eq_true, List.all_eq_true, Bool.not_eq_true'] at hk
    show (if sameL (f k) (f p.2.1) = true then encB f g t else (p.1, f p.2.1, g p.2.2) :: mdelB (encB f g t) (f k)) = _
    rcases List.mem_cons.1 h with rfl | h
    · rw [if_pos (hs k)]
      rw [List.filter_cons]
      simp only [beq_self_eq_true, Bool.not_true, Bool.false_eq_true, if_false]
      congr 1
      symm
      apply List.filter_eq_self.2
      intro q hq
      have : q.1 ≠ b := by rintro rfl; exact hnd.1 (List.mem_map.2 ⟨q, hq, rfl⟩)
      simpa using this
    · have h1 : sameL (f p.2.1) (f k) = false := hk.1 (k, v) (List.mem_map.2 ⟨_, h, rfl⟩)
      have h2 : sameL (f k) (f p.2.1) = false := by
        cases hc : sameL (f k) (f p.2.1) with
        | false => rfl
        | true => rw [sameL_comm, hc] at h1; cases h1
      have hne : p.1 ≠ b := by rintro rfl; exact hnd.1 (List.mem_map.2 ⟨_, h, rfl⟩)
      rw [h2, List.filter_cons]
      simp only [Bool.false_eq_true, if_false]
      rw [if_pos (by simpa using hne), mdelB_enc hs t hnd.2 hk.2 h]
      rfl
theorem leftB_drop {α β : Type} {pr : α → β → Bool} {lt : List (Nat × α × β)} (hnd : (lt.map Prod.fst).Nodup) {seen : List Nat} {b : Nat} {k : α} {v : β} (hm : (b, k, v) ∈ leftB pr lt seen) (hp : pr k v = true) : leftB pr lt (seen ++ [b]) = (leftB pr lt seen).filter fun q => !(q.1 == b) := by
  have hmem : (b, k, v) ∈ lt := (List.mem_filter.1 hm).1
  unfold leftB
  rw [List.filter_filter]
  apply List.filter_congr
  intro q hq
  by_cases hb : q.1 = b
  · have : q = (b, k, v) := by
      obtain ⟨i, hi, e1⟩ := List.getElem_of_mem hq
      obtain ⟨j, hj, e2⟩ := List.getElem_of_mem hmem
      have := nd_inj hnd (i := i) (j := j) (by simpa using hi) (by simpa using hj) (by simp [e1, e2, hb])
      subst this
      rw [← e1, ← e2]
    subst this
    simp [hp]
  · simp [hb]
theorem leftB_end {α β : Type} {pr : α → β → Bool} {lt : List (Nat × α × β)} {seen : List Nat} (h : ∀ p ∈ leftB pr lt seen, p.1 ∈ seen) : (leftB pr lt seen).map Prod.snd = (lt.map Prod.snd).filter fun p => !pr p.1 p.2 := by
  have : leftB pr lt seen = lt.filter fun p => !pr p.2.1 p.2.2 := by
    unfold leftB
    apply List.filter_congr
    intro q hq
    by_cases hc : seen.contains q.1 = true
    · rw [hc]; simp
    · have hc' : seen.contains q.1 = false := by simpa using hc
      rw [hc']
      simp only [Bool.false_and, Bool.not_false]
      have hin : q ∈ leftB pr lt seen := List.mem_filter.2 ⟨hq, by rw [hc']; rfl⟩
      have := h q hin
      simp [this] at hc'
  rw [this, List.filter_map]
  rfl
theorem sub_nd {α β : Type} {f : α → List D} : ∀ {l l' : List (α × β)}, l'.Sublist l → gNod f l = true → gNod f l' = true
  | _, _, .slnil, h => h
  | _, _, .cons a h', h => by
    simp only [gNod, Bool.and_eq_true] at h
    exact sub_nd h' h.2
  | _, _, .cons_cons a h', h => by
    simp only [gNod, Bool.and_eq_true, List.all_eq_true] at h ⊢
    exact ⟨fun q hq => h.1 q (h'.subset hq), sub_nd h' h.2⟩
theorem rdV_mat {agg : Bool} {ls : List Leaf} {ds : List D} {l : List V} {v : V} (h : Mat ls ds l) (hs : leavesSize ls = ds.length) (ha : asVal agg l = some v) : RdV agg ds v := by
  obtain ⟨s, h1, h2⟩ := mat_rd (cells := ds) (o := 0) h 0 (fun q hq => by simp)
  exact ⟨ls, l, s, hs, h1, h2, ha⟩

theorem left_mu {α : Type} (l : List (Nat × α)) (seen : List Nat) (b : Nat) : (l.filter fun q => !(q.1 == b)).filter (fun p => !(seen ++ [b]).contains p.1) = (l.filter fun p => !seen.contains p.1).filter fun q => !(q.1 == b) := by
  rw [List.filter_filter, List.filter_filter]
  apply List.filter_congr
  intro q _
  by_cases h : q.1 = b <;> simp [h, Bool.and_comm]
theorem left_mu2 {α : Type} (l : List (Nat × α)) (seen : List Nat) (b : Nat) : l.filter (fun p => !(seen ++ [b]).contains p.1) = (l.filter fun p => !seen.contains p.1).filter fun q => !(q.1 == b) := by
  rw [List.filter_filter]
  apply List.filter_congr
  intro q _
  by_cases h : q.1 = b <;> simp [h, Bool.and_comm]
theorem left_lt {α : Type} {l : List (Nat × α)} {x : Nat × α} (h : x ∈ l) : (l.filter fun q => !(q.1 == x.1)).length < l.length := by
  induction l with
  | nil => cases h
  | cons a t ih =>
    rw [List.filter_cons]
    rcases List.mem_cons.1 h with rfl | h
    · simp only [beq_self_eq_true, Bool.not_true, Bool.false_eq_true, if_false, List.length_cons]
      exact Nat.lt_succ_of_le (List.length_filter_le _ _)
    · have := ih h
      split
      · simp only [List.length_cons]; omega
      · simp only [List.length_cons]; omega
theorem nd_sub {α β : Type} {pr : α → β → Bool} {lt : List (Nat × α × β)} {seen : List Nat} (h : (lt.map Prod.fst).Nodup) : ((leftB pr lt seen).map Prod.fst).Nodup :=
  h.sublist ((List.filter_sublist).map _)
end Go.AX

namespace Go.AX
set_option autoImplicit false
set_option linter.unusedVariables false
section
variable {P : Program} (w : World)
theorem run_equalIn_mapnil (d : Nat) (t k e : TypeId) (p : Option Nat) (h : P.underlying t = some (.map k e)) : (Op.equalIn (d + 1) t (.map p) (.map none)).run P w = .ok p.isNone w := by
  cases p <;> simp [Op.equalIn, run_underlying h]
theorem run_eql_mapnil (t k e : TypeId) (p : Option Nat) (h : P.underlying t = some (.map k e)) : (binOp .eql t (.map p) (.map none)).run P w = .ok (.bool p.isNone) w := by
  simp only [binOp]
  simp [show Op.equal t (.map p) (.map none) = Op.equalIn (9999 + 1) t (.map p) (.map none) from rfl, run_equalIn_mapnil w 9999 t k e p h]
theorem run_assert_map (t xT k e : TypeId) (v : Value) (h : P.underlying t = some (.map k e)) : (Instr.typeAssert (.iface t v) xT t false).run P w = .ok v w := by
  simp [Instr.typeAssert, run_underlying h, go_sem, Result.andThen]
theorem run_clone_map {r : Nat} {es : Array MapEntry} {clock : Nat} (t : TypeId) (hb : w.heap[r]? = some (.map es clock)) :
    (Extern.MapsClone.clone #[.iface t (.map (some r))]).run P w = .ok (.iface t (.map (some w.heap.size))) (w.alloc (.map es clock)) := by
  have e : Extern.MapsClone.clone #[.iface t (.map (some r))] = (getObj r >>= fun o => match o with
      | .map entries clock => (newObj (.map entries clock) >>= fun n => pure (.iface t (.map (some n))))
      | _ => stuck "maps.clone: a map expected") := rfl
  rw [e]
  simp [MapKept.run_getObj_map hb, Result.andThen, go_sem]
end
theorem specM_clone {P : Program} {g : FuncId} (hent : Enters P g) (h : ∀ (b : Nat) (es : Array MapEntry) (ck : Nat) (w : World), w.heap[b]? = some (.map es ck) → Calls P g #[.map (some b)] w fun e w' => e = .returned (.map (some w.heap.size)) ∧ w' = w.alloc (.map es ck))
    (ka va : Bool) (l : List (List D × List D)) : SpecM P g 1 [(0, .mp ka va l)] [.map 0] ⟨.map 1, [(0, .mp ka va l), (1, .mp ka va l)], 1, True⟩ := by
  refine ⟨hent, fun X w xs hW hX hargs => ?_⟩
  obtain ⟨v, hxs, hv⟩ := repVs_one hargs
  have hxs' : xs = #[v] := Array.toList_inj.1 hxs
  subst hxs'
  obtain ⟨b, es, ck, h1, rfl, h3, hR⟩ := mpBlk (ka := ka) (va := va) (es := l) hW hv rfl
  refine (h b es ck w h3).mono ?_
  rintro e w' ⟨rfl, rfl⟩
  have hlt := (Array.getElem?_eq_some_iff.1 h3).1
  have hD := did_newObj hW (o := .map es ck) (blk := .mp ka va l) (val := .map 1) (v := .map (some w.heap.size)) (s := True) ⟨w.heap.size, es, ck, Emb.add_new, heap_alloc_new w _, hR⟩ (by simp only [repV]; exact ⟨_, Emb.add_new, rfl⟩)
  have hM := Did.more (id := 0) (y := .mp ka va l) (blk := .mp ka va l) hD rfl rfl rfl ⟨b, es, ck, by rw [Emb.add_ne (by decide)]; exact h1, (Go.MapKept.heap_alloc w _).2 b hlt |>.trans h3, hR⟩
  refine ⟨.map (some w.heap.size), X.add 1 (some w.heap.size) 0, rfl, ?_⟩
  obtain ⟨a1, a2, a3, a4, a5, a6, a7, a8⟩ := hM
  have lk : ∀ (t : List (Nat × Blk)) i, look ([(0, Blk.mp ka va l), (1, .mp ka va l)] ++ t) i = look (([(1, Blk.mp ka va l)] ++ [(0, .mp ka va l)]) ++ t) i := by
    intro t i
    simp only [List.cons_append, List.nil_append, look_cons]
    by_cases h0 : 0 = i
    · subst h0; simp
    · simp [h0]
  refine ⟨a1, a2, a3, ?_, ?_, ?_, ?_, a8⟩
  · intro i y b' g1 g2 g3
    exact a4 i y b' (by rw [← lk]; exact g1) g2 g3
  · intro i j b' x y g1 g2 g3 g4 g5 g6
    exact a5 i j b' x y (by rw [← lk]; exact g1) g2 (by rw [← lk]; exact g3) g4 g5 g6
  · obtain ⟨S, s1, s2⟩ := a6
    refine ⟨S, s1, fun k hk => ?_⟩
    obtain ⟨i, y, g1, g2, g3, g4⟩ := s2 k hk
    refine ⟨i, y, g1, g2, g3, ?_⟩
    have := lk [] i
    rw [List.append_nil, List.append_nil] at this
    rw [this]; exact g4
  · intro i b' g1
    refine a7 i b' ?_
    have := lk [] i
    rw [List.append_nil, List.append_nil] at this
    rw [← this]; exact g1
theorem takeA (k : IntKind) {n : Nat} (a : Ar n) : (encL (eI k) a.l).take n = encL (eI k) a.l :=
  List.take_of_length_le (Nat.le_of_eq (eA_len k a))
theorem noLnil : ∀ d ∈ ([] : List D), d.noL := by intro d hd; cases hd
theorem noLcons {x : D} {l : List D} (hx : x.noL) (h : ∀ d ∈ l, d.noL) : ∀ d ∈ x :: l, d.noL := by
  intro d hd; cases hd with
  | head => exact hx
  | tail _ h2 => exact h d h2
theorem noLapp {a b : List D} (ha : ∀ d ∈ a, d.noL) (hb : ∀ d ∈ b, d.noL) : ∀ d ∈ a ++ b, d.noL := by
  intro d hd; rcases List.mem_append.1 hd with h | h
  · exact ha d h
  · exact hb d h
/-- Rows that were handed over keep their length. -/
theorem set_ar {J : PF} (hJ : J = stdJ) {n : Nat} {a : Ar n} {ds : List D} {k : IntKind} (h : ds = encL (eI k) a.l) (i : Nat) (v : Int) : J .set ds i (.int k v) = encL (eI k) (Ar.put a (i : Int) v).l := by
  subst hJ
  rw [j_set rfl, h, encI_map, encI_map]
  unfold Ar.put
  simp [List.map_set]
theorem st_nilp {n : Nat} {K : Res → Prop} {neg : Bool} (nx : K ⟨.d (.bool (!neg)), [], 0, True⟩) : MpP (.nilp neg) n K := ⟨_, rfl, nx⟩
def lenq {α β : Type} (a : List α) (b : List β) : Option Unit := bif a.length == b.length then some () else none
theorem lenq_n {α β : Type} {f : α → List D} {g : β → List D} {a : List α} {b : List β} {u : Unit} (h : lenq a b = some u) {c d : List D} {n m : Nat} (ha : IsL f c n a) (hb : IsL g d m b) : m = n := by
  have : a.length = b.length := by
    unfold lenq at h
    cases hq : a.length == b.length with
    | true => exact of_decide_eq_true hq
    | false => rw [hq] at h; cases h
  rw [ha.n, hb.n, this]
/-- A whole element of a row is read. -/
theorem st_ldW {J : PF} (hJ : J = stdJ) {agg : Bool} {ls : List Leaf} {K : V → Prop} {α : Type} {g : α → List D} {k : Nat} (hk : ∀ a, (g a).length = k) {cs : List D} {n : Nat} {L : List α} (hL : IsL g cs n L)
    {i : Int} {y : α} (hy : at? L i = some y) {o off : Nat} (ho : o = i.toNat * k) (hoff : J = stdJ → off = o + 0) (ds : List D) (he : ds = g y) {vs : List V} {v : V}
    (hm : Mat ls ds vs) (hv : asVal agg vs = some v) (nx : K v) : LdP (mkI J) agg ls cs off K :=
  st_ld hJ hk hL hy ho 0 hoff ds (by rw [he, hk]; omega) (by rw [he, List.drop_zero, List.take_length]) hm hv nx
end Go.AX

namespace Go.AX
set_option autoImplicit false
set_option linter.unusedVariables false

@[simp] theorem let_eq {α β : Type} (e : α) (f : α → Option β) : Let e f = f e := rfl
@[simp] theorem bnd_some {α β : Type} (x : α) (f : α → Option β) : Bnd (some x) f = f x := rfl
@[simp] theorem bnd_none {α β : Type} (f : α → Option β) : Bnd none f = none := rfl
@[simp] theorem jn_eq {α β : Type} (j : α → Option β) (k : (α → Option β) → Option β) : Jn j k = k j := rfl
@[simp] theorem ceq_eq (a b : Int) : cmpI .eql a b = decide (a = b) := by simp [cmpI]; rfl
@[simp] theorem cne_eq (a b : Int) : cmpI .neq a b = decide (a ≠ b) := by simp [cmpI]; rfl
@[simp] theorem clt_eq (a b : Int) : cmpI .lss a b = decide (a < b) := rfl
@[simp] theorem cle_eq (a b : Int) : cmpI .leq a b = decide (a ≤ b) := rfl
@[simp] theorem cgt_eq (a b : Int) : cmpI .gtr a b = decide (b < a) := rfl
@[simp] theorem cge_eq (a b : Int) : cmpI .geq a b = decide (b ≤ a) := rfl
theorem add_ok {a b : Int} (h : -9223372036854775808 ≤ a + b ∧ a + b < 9223372036854775808) : binI .add .i64 a b = a + b := by
  show IntKind.wrap .i64 (a + b) = _; rw [IntKind.wrap_i64]; omega
theorem sub_ok {a b : Int} (h : -9223372036854775808 ≤ a - b ∧ a - b < 9223372036854775808) : binI .sub .i64 a b = a - b := by
  show IntKind.wrap .i64 (a - b) = _; rw [IntKind.wrap_i64]; omega
theorem mul_ok {a b : Int} (h : -9223372036854775808 ≤ a * b ∧ a * b < 9223372036854775808) : binI .mul .i64 a b = a * b := by
  show IntKind.wrap .i64 (a * b) = _; rw [IntKind.wrap_i64]; generalize a * b = c at *; omega
theorem wf_of {k : IntKind} {n : Int} (h : (Lit.int k n).wf = true) : k.min ≤ n ∧ n ≤ k.max := by
  simpa [Lit.wf] using h
theorem wf_i64 {n : Int} (h : (Lit.int .i64 n).wf = true) : -9223372036854775808 ≤ n ∧ n < 9223372036854775808 := by
  have := wf_of h
  have e1 : IntKind.min .i64 = -9223372036854775808 := rfl
  have e2 : IntKind.max .i64 = 9223372036854775807 := rfl
  omega
theorem wf_u8 {n : Int} (h : (Lit.int .u8 n).wf = true) : 0 ≤ n ∧ n < 256 := by
  have := wf_of h
  have e1 : IntKind.min .u8 = 0 := rfl
  have e2 : IntKind.max .u8 = 255 := rfl
  omega
theorem at?_nat {α : Type} (l : List α) (i : Nat) : at? l (i : Int) = l[i]? := by simp [at?]
theorem at?_ok {α : Type} {l : List α} {i : Int} (h : 0 ≤ i) {y : α} (hy : l[i.toNat]? = some y) : at? l i = some y := by simp [at?, h, hy]
theorem app_ok {α : Type} {b : Nat} {l m : List α} (h : (l.length + m.length) * b ≤ 140737488355328 ∧ l.length + m.length ≤ 4611686018427387904) : app? b l m = some (l ++ m) := by simp [app?, h]

/-- An element (0 beyond the end). -/
def gt (l : List Int) (i : Nat) : Int := l.getD i 0
theorem gt_eq {l : List Int} {i : Nat} (h : i < l.length) : gt l i = l[i] := by simp [gt, List.getD_eq_getElem?_getD, h]
theorem at?_get {l : List Int} {i : Nat} (h : i < l.length) : at? l (i : Int) = some (gt l i) := by
  rw [at?_nat, List.getElem?_eq_getElem h, gt_eq h]
theorem at?_getI {l : List Int} {i : Int} (h : 0 ≤ i ∧ i < (l.length : Int)) : at? l i = some (gt l i.toNat) := by
  have h2 : i.toNat < l.length := by omega
  refine at?_ok h.1 ?_
  rw [List.getElem?_eq_getElem h2, gt_eq h2]
@[simp] theorem cond_dec {α : Type} (p : Prop) [Decidable p] (a b : α) : (bif decide p then a else b) = if p then a else b := by
  by_cases h : p <;> simp [h]

theorem loopN_run {σ ρ : Type} {step : σ → Option (Sum σ ρ)} (f : Nat → σ) {r : ρ} : ∀ (n k N : Nat), n < N → (∀ i, k ≤ i → i < k + n → step (f i) = some (.inl (f (i + 1)))) → step (f (k + n)) = some (.inr r) → loopN step N (f k) = some r
  | 0, k, N + 1, hN, hs, he => by
    simp only [loopN]; rw [Nat.add_zero] at he; rw [he]
  | n + 1, k, N + 1, hN, hs, he => by
    simp only [loopN]; rw [hs k (Nat.le_refl _) (by omega)]
    exact loopN_run f n (k + 1) N (by omega) (fun i h1 h2 => hs i (by omega) (by omega)) (by rw [show k + 1 + n = k + (n + 1) by omega]; exact he)
/-- A loop whose states are told. -/
theorem loop_run {σ ρ : Type} {step : σ → Option (Sum σ ρ)} (f : Nat → σ) (n : Nat) {r : ρ} (hn : n < 1099511627776) (hs : ∀ i, i < n → step (f i) = some (.inl (f (i + 1)))) (he : step (f n) = some (.inr r)) {s0 : σ} (h0 : s0 = f 0) : loop step s0 = some r := by
  subst h0
  exact loopN_run f n 0 FUEL hn (fun i _ h => hs i (by omega)) (by rw [Nat.zero_add]; exact he)
theorem loopN_inv {σ ρ : Type} {step : σ → Option (Sum σ ρ)} (I : σ → Prop) (μ : σ → Nat) (Q : ρ → Prop) (h : ∀ s, I s → (∃ s', step s = some (.inl s') ∧ I s' ∧ μ s' < μ s) ∨ ∃ r, step s = some (.inr r) ∧ Q r) : ∀ (N : Nat) (s : σ), I s → μ s < N → ∃ r, loopN step N s = some r ∧ Q r
  | 0, s, _, hN => by omega
  | N + 1, s, hs, hN => by
    rcases h s hs with ⟨s', h1, h2, h3⟩ | ⟨r, h1, h2⟩
    · obtain ⟨r, h4, h5⟩ := loopN_inv I μ Q h N s' h2 (by omega)
      exact ⟨r, by simp only [loopN, h1]; exact h4, h5⟩
    · exact ⟨r, by simp only [loopN, h1], h2⟩
/-- A loop, by an invariant. -/
theorem loop_inv {σ ρ : Type} {step : σ → Option (Sum σ ρ)} {s0 : σ} (I : σ → Prop) (μ : σ → Nat) (Q : ρ → Prop) (h0 : I s0) (hμ : μ s0 < 1099511627776) (h : ∀ s, I s → (∃ s', step s = some (.inl s') ∧ I s' ∧ μ s' < μ s) ∨ ∃ r, step s = some (.inr r) ∧ Q r) : ∃ r, loop step s0 = some r ∧ Q r :=
  loopN_inv I μ Q h FUEL s0 h0 hμ
theorem bnd_run {σ ρ β : Type} {step : σ → Option (Sum σ ρ)} {s0 : σ} {k : ρ → Option β} {x : Option β} (f : Nat → σ) (n : Nat) (r : ρ) (hn : n < 1099511627776) (h0 : s0 = f 0) (hs : ∀ i, i < n → step (f i) = some (.inl (f (i + 1)))) (he : step (f n) = some (.inr r)) (hk : k r = x) : Bnd (loop step s0) k = x := by
  rw [loop_run f n hn hs he h0]; exact hk
theorem bnd_inv {σ ρ β : Type} {step : σ → Option (Sum σ ρ)} {s0 : σ} {k : ρ → Option β} {G : Option β → Prop} (I : σ → Prop) (μ : σ → Nat) (Q : ρ → Prop) (h0 : I s0) (hμ : μ s0 < 1099511627776) (h : ∀ s, I s → (∃ s', step s = some (.inl s') ∧ I s' ∧ μ s' < μ s) ∨ ∃ r, step s = some (.inr r) ∧ Q r) (hk : ∀ r, Q r → G (k r)) : G (Bnd (loop step s0) k) := by
  obtain ⟨r, h1, h2⟩ := loop_inv I μ Q h0 hμ h
  rw [h1]; exact hk r h2

/-- A round of a loop that keeps an invariant. -/
def Rnd {σ ρ : Type} (I : σ → Prop) (μ : σ → Nat) (m : Nat) (Q : ρ → Prop) (x : Option (Sum σ ρ)) : Prop := (∃ s', x = some (.inl s') ∧ I s' ∧ μ s' < m) ∨ ∃ r, x = some (.inr r) ∧ Q r
theorem rnd_l {σ ρ : Type} {I : σ → Prop} {μ : σ → Nat} {m : Nat} {Q : ρ → Prop} {s : σ} (h1 : I s) (h2 : μ s < m) : Rnd I μ m Q (some (.inl s)) := .inl ⟨s, rfl, h1, h2⟩
theorem rnd_r {σ ρ : Type} {I : σ → Prop} {μ : σ → Nat} {m : Nat} {Q : ρ → Prop} {r : ρ} (h1 : Q r) : Rnd I μ m Q (some (.inr r)) := .inr ⟨r, rfl, h1⟩
theorem rnd_if {σ ρ : Type} {I : σ → Prop} {μ : σ → Nat} {m : Nat} {Q : ρ → Prop} {c : Prop} [Decidable c] {a b : Option (Sum σ ρ)} (h1 : c → Rnd I μ m Q a) (h2 : ¬ c → Rnd I μ m Q b) : Rnd I μ m Q (if c then a else b) := by
  by_cases h : c
  · rw [if_pos h]; exact h1 h
  · rw [if_neg h]; exact h2 h
theorem rnd_bif {σ ρ : Type} {I : σ → Prop} {μ : σ → Nat} {m : Nat} {Q : ρ → Prop} {c : Bool} {a b : Option (Sum σ ρ)} (h1 : c = true → Rnd I μ m Q a) (h2 : c = false → Rnd I μ m Q b) : Rnd I μ m Q (bif c then a else b) := by
  cases c
  · exact h2 rfl
  · exact h1 rfl
/-- A loop and what follows it, by an invariant. -/
theorem bnd_rnd {σ ρ β : Type} {step : σ → Option (Sum σ ρ)} {s0 : σ} {k : ρ → Option β} (G : Option β → Prop) (I : σ → Prop) (μ : σ → Nat) (Q : ρ → Prop) (h0 : I s0) (hμ : μ s0 < 1099511627776) (h : ∀ s, I s → Rnd I μ (μ s) Q (step s)) (hk : ∀ r, Q r → G (k r)) : G (Bnd (loop step s0) k) :=
  bnd_inv I μ Q h0 hμ h hk
end Go.AX
