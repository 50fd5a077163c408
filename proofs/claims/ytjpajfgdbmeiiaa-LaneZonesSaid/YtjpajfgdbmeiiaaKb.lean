/- The abstract executor: aggregates compared. The abstract executor: cells laid over a row's. The abstract executor: whatever operation there is. The abstract executor: regions, code, calls. The abstract executor: it is sound, where regions run in order. The abstract executor: a state seen anew: blocks renamed, those that are let go frozen. The abstract executor: loops, code. The abstract executor: what a function comes to. The abstract executor: calls. The abstract executor: regions that draw their order. The abstract executor: regions that draw their order, run. The abstract executor: regions that draw their order are sound. The abstract executor: arithmetic, told by a function that is a variable. -/
import Derived.Laws.CopyRow
import Derived.Lib.SliceRun
import Derived.Orders
import Derived.IntWalk
import Derived.Test.YtjpajfgdbmeiiaaKa
namespace Go.AX
set_option autoImplicit false
set_option linter.unusedVariables false

def eqVals : List (Option IntKind) → List Value → List Value → Option Bool
  | [], [], [] => some true
  | some q :: ks, .int j a :: s, .int k b :: t => if j = q ∧ k = q then (eqVals ks s t).map (fun r => (a == b) && r) else none
  | none :: ks, .bool a :: s, .bool b :: t => (eqVals ks s t).map (fun r => (a == b) && r)
  | _, _, _ => none

theorem eqVals_cons {q : Option IntKind} {ks : List (Option IntKind)} {x y : Value} {s t : List Value} {r : Bool} (h : eqVals (q :: ks) (x :: s) (y :: t) = some r) :
    ∃ r1 r2, eqVals [q] [x] [y] = some r1 ∧ eqVals ks s t = some r2 ∧ r = (r1 && r2) ∧ ((∃ k a b, q = some k ∧ x = .int k a ∧ y = .int k b ∧ r1 = (a == b)) ∨ (∃ a b, q = none ∧ x = .bool a ∧ y = .bool b ∧ r1 = (a == b))) := by
  unfold eqVals at h
  split at h
  · rename_i e _ _; cases e
  · rename_i q' ks' j a s' k b t' e1 e2 e3
    cases e1; cases e2; cases e3
    split at h
    · rename_i e
      obtain ⟨rfl, rfl⟩ := e
      simp only [Option.map_eq_some_iff] at h
      obtain ⟨p, h1, h2⟩ := h
      exact ⟨a == b, p, by simp [eqVals], h1, h2.symm, .inl ⟨_, a, b, rfl, rfl, rfl, rfl⟩⟩
    · cases h
  · rename_i ks' a s' b t' e1 e2 e3
    cases e1; cases e2; cases e3
    simp only [Option.map_eq_some_iff] at h
    obtain ⟨p, h1, h2⟩ := h
    exact ⟨a == b, p, by simp [eqVals], h1, h2.symm, .inr ⟨a, b, rfl, rfl, rfl, rfl⟩⟩
  · cases h

theorem eqVals_join {q : Option IntKind} {ks : List (Option IntKind)} {x y : Value} {s t : List Value} {r1 r2 : Bool} (h1 : eqVals [q] [x] [y] = some r1) (h2 : eqVals ks s t = some r2) : eqVals (q :: ks) (x :: s) (y :: t) = some (r1 && r2) := by
  obtain ⟨p1, p2, _, h4, h5, h6⟩ := eqVals_cons h1
  simp only [eqVals, Option.some.injEq] at h4
  subst h4
  rcases h6 with ⟨k, a, b, rfl, rfl, rfl, rfl⟩ | ⟨a, b, rfl, rfl, rfl, rfl⟩
  · simp only [eqVals, and_self, if_true, h2, Option.map_some]
    simp only [Bool.and_true] at h5
    rw [h5]
  · simp only [eqVals, h2, Option.map_some]
    simp only [Bool.and_true] at h5
    rw [h5]

theorem eqVals_append : ∀ (k1 k2 : List (Option IntKind)) (x1 y1 x2 y2 : List Value) (r : Bool), k1.length = x1.length → x1.length = y1.length → eqVals (k1 ++ k2) (x1 ++ x2) (y1 ++ y2) = some r → ∃ r1 r2, eqVals k1 x1 y1 = some r1 ∧ eqVals k2 x2 y2 = some r2 ∧ r = (r1 && r2)
  | [], k2, [], [], x2, y2, r, _, _, h => ⟨true, r, rfl, h, by simp⟩
  | [], _, [], _ :: _, _, _, _, _, hl, _ => by simp at hl
  | [], _, _ :: _, _, _, _, _, hl, _, _ => by simp at hl
  | _ :: _, _, [], _, _, _, _, hl, _, _ => by simp at hl
  | _ :: _, _, _ :: _, [], _, _, _, _, hl, _ => by simp at hl
  | q :: k1, k2, a :: x1, b :: y1, x2, y2, r, hk, hl, h => by
    simp only [List.cons_append] at h
    obtain ⟨r1, r2, h1, h2, h3, _⟩ := eqVals_cons h
    obtain ⟨r3, r4, h4, h5, h6⟩ := eqVals_append k1 k2 x1 y1 x2 y2 r2 (by simpa using hk) (by simpa using hl) h2
    exact ⟨r1 && r3, r4, eqVals_join h1 h4, h5, by rw [h3, h6, Bool.and_assoc]⟩

theorem conj_std : ∀ l : List Bool, conj std l = l.all id
  | [] => rfl
  | [b] => by simp [conj]
  | b :: c :: t => by
    simp only [conj]
    rw [conj_std (c :: t)]
    rfl

theorem eqList_vals {E : Emb} : ∀ (ks : List (Option IntKind)) (l m : List V) (r : List Bool), eqList std ks l m = some r → ∀ xs ys, repC E l xs → repC E m ys → eqVals ks xs ys = some (r.all id) := by
  have hd : ∀ (d : D) (t : List V) (xs : List Value), repC E (.d d :: t) xs → ∃ u us, xs = u :: us ∧ repD E.H d u ∧ repC E t us := by
    intro d t xs h
    simp only [repC] at h
    rcases h with ⟨n, l, a, b, e, _⟩ | ⟨u, us, rfl, h2, h3, h4⟩
    · cases e
    · exact ⟨u, us, rfl, by simpa only [repV] using h3, h4⟩
  intro ks
  induction ks with
  | nil =>
    intro l m r h xs ys hx hy
    cases l with
    | nil =>
      cases m with
      | nil => cases h; simp only [repC] at hx hy; subst hx hy; rfl
      | cons => cases h
    | cons x s =>
      simp only [eqList] at h
      cases h
  | cons q ks ih =>
    intro l m r h xs ys hx hy
    cases l with
    | nil => cases q <;> simp only [eqList] at h <;> cases h
    | cons x s =>
      cases m with
      | nil => cases q <;> simp only [eqList] at h <;> cases h
      | cons y t =>
        cases x <;> first | (cases q <;> simp only [eqList] at h <;> cases h; done) | skip
        rename_i dx
        cases y <;> first | (cases q <;> simp only [eqList] at h <;> cases h; done) | skip
        rename_i dy
        obtain ⟨u, us, rfl, h1, h2⟩ := hd _ _ _ hx
        obtain ⟨v, vs, rfl, h3, h4⟩ := hd _ _ _ hy
        cases q with
        | none =>
          cases dx <;> first | (simp only [eqList] at h; cases h; done) | skip
          cases dy <;> first | (simp only [eqList] at h; cases h; done) | skip
          simp only [eqList] at h
          split at h
          · rename_i p hp
            cases h
            simp only [repD] at h1 h3
            subst h1 h3
            simp [eqVals, ih _ _ p hp us vs h2 h4, std]
          · cases h
        | some q =>
          cases dx <;> first | (simp only [eqList] at h; cases h; done) | skip
          cases dy <;> first | (simp only [eqList] at h; cases h; done) | skip
          simp only [eqList, cond_eq_ite, Bool.and_eq_true, decide_eq_true_eq] at h
          split at h
          · rename_i e
            obtain ⟨rfl, rfl⟩ := e
            split at h
            · rename_i p hp
              cases h
              simp only [repD] at h1 h3
              subst h1 h3
              simp [eqVals, ih _ _ p hp us vs h2 h4, std, cmpI]
            · cases h
          · cases h

def offsOk (P : Program) : List Field → Nat → Nat → Bool
  | [], o, n => Nat.beq o n
  | f :: fs, o, n => Nat.beq f.offset o && offsOk P fs (o + P.cellsOf f.type) n

def joinK (f : Field → Option (List (Option IntKind))) : List Field → Option (List (Option IntKind))
  | [] => some []
  | g :: gs => match f g, joinK f gs with
    | some a, some b => some (a ++ b)
    | _, _ => none

def repK (l : List (Option IntKind)) : Nat → List (Option IntKind)
  | 0 => []
  | n + 1 => l ++ repK l n

def eqTy (P : Program) : Nat → TypeId → Option (List (Option IntKind))
  | 0, _ => none
  | d + 1, t => bif (P.info? t).isSome then (match P.underlying t with
    | some (.int k) => bif Nat.beq (P.cellsOf t) 1 then some [some k] else none
    | some .bool => bif Nat.beq (P.cellsOf t) 1 then some [none] else none
    | some (.struct fs) => bif (!P.stoodInHeld t && offsOk P fs.toList 0 (P.cellsOf t) && fs.toList.all fun f => f.name != "_") then joinK (fun f => eqTy P d f.type) fs.toList else none
    | some (.array n e) => (match eqTy P d e with
      | some l => bif Nat.beq (P.cellsOf t) (n * P.cellsOf e) then some (repK l n) else none
      | none => none)
    | _ => none) else none

section
variable {P : Program}

def wrapV (P : Program) (t : TypeId) (xs : List Value) : Value :=
  match P.underlying t with
  | some (.struct _) | some (.array _ _) => .agg xs.toArray
  | _ => xs.headD undef

theorem run_sizeOf' {w : World} {t : TypeId} (hi : (P.info? t).isSome = true) : (Go.sizeOf t).run P w = .ok (P.cellsOf t) w := by
  cases h : P.info? t with
  | none => rw [h] at hi; cases hi
  | some i => simp [Go.sizeOf, typeInfo, h, Program.cellsOf]

theorem run_part {w : World} {t : TypeId} {d : TypeDesc} (hi : (P.info? t).isSome = true) (hu : P.underlying t = some d) (cs : Array Value) (off : Nat) (h : off + P.cellsOf t ≤ cs.size) (h0 : 0 < P.cellsOf t ∨ isAggD d = true) :
    (part t cs off).run P w = .ok (wrapV P t ((cs.toList.drop off).take (P.cellsOf t))) w := by
  have agg : isAggD d = true → (part t cs off).run P w = .ok (.agg ((cs.toList.drop off).take (P.cellsOf t)).toArray) w := by
    intro hd
    have e : (Go.isAgg t).run P w = .ok true w := by
      simp only [Go.isAgg, Sem.run_bind, run_underlying hu, Result.andThen_ok]
      cases d <;> first | rfl | cases hd
    simp only [part, Sem.run_bind, e, Result.andThen_ok, if_true, run_sizeOf' hi, Sem.run_pure]
    congr 2
    apply Array.toList_inj.1
    simp
  have one : isAggD d = false → 0 < P.cellsOf t → (part t cs off).run P w = .ok (((cs.toList.drop off).take (P.cellsOf t)).headD undef) w := by
    intro hd hp
    have e : (Go.isAgg t).run P w = .ok false w := by
      simp only [Go.isAgg, Sem.run_bind, run_underlying hu, Result.andThen_ok]
      cases d <;> first | rfl | cases hd
    have hlt : off < cs.size := by omega
    have h1 : cs[off]? = some cs[off] := by simp [hlt]
    simp only [part, Sem.run_bind, e, Result.andThen_ok, Bool.false_eq_true, if_false, h1, Sem.run_pure]
    congr 1
    rw [List.headD_eq_head?_getD, List.head?_take, if_neg (by omega), List.head?_drop]
    simp [hlt]
  unfold wrapV
  rw [hu]
  cases d
  case struct fs => exact agg rfl
  case array n e => exact agg rfl
  all_goals exact one rfl (h0.resolve_right (by simp [isAggD]))

theorem offsOk_le : ∀ (gs : List Field) (o n : Nat), offsOk P gs o n = true → o ≤ n
  | [], o, n, h => by have := Nat.eq_of_beq_eq_true h; omega
  | g :: gs, o, n, h => by
    simp only [offsOk, Bool.and_eq_true] at h
    have := offsOk_le gs _ n h.2
    omega

theorem eqTy_info {d : Nat} {t : TypeId} {ks : List (Option IntKind)} (h : eqTy P d t = some ks) : (P.info? t).isSome = true ∧ ∃ dd, P.underlying t = some dd ∧ (0 < P.cellsOf t ∨ isAggD dd = true) := by
  cases d with
  | zero => cases h
  | succ d =>
    simp only [eqTy, cond_eq_ite] at h
    split at h
    · rename_i hi
      refine ⟨hi, ?_⟩
      split at h
      · rename_i hu'
        split at h
        · rename_i h1; exact ⟨_, hu', .inl (by have := Nat.eq_of_beq_eq_true h1; omega)⟩
        · cases h
      · rename_i hu'
        split at h
        · rename_i h1; exact ⟨_, hu', .inl (by have := Nat.eq_of_beq_eq_true h1; omega)⟩
        · cases h
      · rename_i hu'; exact ⟨_, hu', .inr rfl⟩
      · rename_i hu'; exact ⟨_, hu', .inr rfl⟩
      · cases h
    · cases h

theorem eqVals_len : ∀ (ks : List (Option IntKind)) (xs ys : List Value) (r : Bool), eqVals ks xs ys = some r → ks.length = xs.length ∧ xs.length = ys.length
  | [], [], [], r, h => ⟨rfl, rfl⟩
  | [], [], _ :: _, r, h => by simp only [eqVals] at h; cases h
  | [], _ :: _, _, r, h => by simp only [eqVals] at h; cases h
  | q :: ks, [], ys, r, h => by cases q <;> cases ys <;> cases h
  | q :: ks, x :: s, [], r, h => by cases q <;> cases x <;> cases h
  | q :: ks, x :: s, y :: t, r, h => by
    obtain ⟨r1, r2, h1, h2, _⟩ := eqVals_cons h
    obtain ⟨h3, h4⟩ := eqVals_len ks s t r2 h2
    simp [h3, h4]

theorem eqTy_len : ∀ (d : Nat) (t : TypeId) (ks : List (Option IntKind)), eqTy P d t = some ks → ks.length = P.cellsOf t
  | 0, t, ks, h => by cases h
  | d + 1, t, ks, h => by
    simp only [eqTy, cond_eq_ite] at h
    split at h
    · split at h
      · split at h
        · rename_i h1; cases h; exact (Nat.eq_of_beq_eq_true h1).symm
        · cases h
      · split at h
        · rename_i h1; cases h; exact (Nat.eq_of_beq_eq_true h1).symm
        · cases h
      · split at h
        · rename_i fs hu hc
          simp only [Bool.and_eq_true] at hc
          have key : ∀ (gs : List Field) (o : Nat) (ks : List (Option IntKind)), joinK (fun f => eqTy P d f.type) gs = some ks → offsOk P gs o (P.cellsOf t) = true → o + ks.length = P.cellsOf t := by
            intro gs
            induction gs with
            | nil => intro o ks h1 h2; cases h1; exact Nat.eq_of_beq_eq_true h2
            | cons g gs ih =>
              intro o ks h1 h2
              simp only [joinK] at h1
              simp only [offsOk, Bool.and_eq_true] at h2
              split at h1
              · rename_i a b h3 h4
                cases h1
                have := ih _ _ h4 h2.2
                have h5 := eqTy_len d _ _ h3
                rw [List.length_append]; omega
              · cases h1
          have := key _ 0 ks h hc.1.2
          omega
        · cases h
      · rename_i n e hu
        split at h
        · rename_i l hl
          split at h
          · rename_i h1
            cases h
            rw [Nat.eq_of_beq_eq_true h1, ← eqTy_len d e l hl]
            clear h1 hu
            induction n with
            | zero => simp [repK]
            | succ n ih => simp only [repK, List.length_append, ih, Nat.add_mul]; omega
          · cases h
        · cases h
      · cases h
    · cases h

theorem eq_run : ∀ (d : Nat) (t : TypeId) (ks : List (Option IntKind)), eqTy P d t = some ks → ∀ (xs ys : List Value) (r : Bool), eqVals ks xs ys = some r → ∀ (D : Nat) (w : World), d ≤ D →
    (Op.equalIn D t (wrapV P t xs) (wrapV P t ys)).run P w = .ok r w
  | 0, t, ks, h => by cases h
  | d + 1, t, ks, h => by
    intro xs ys r hr D w hD
    obtain ⟨D, rfl⟩ : ∃ q, D = q + 1 := ⟨D - 1, by omega⟩
    have hlen := eqTy_len _ _ _ h
    obtain ⟨hl1, hl2⟩ := eqVals_len _ _ _ _ hr
    simp only [eqTy, cond_eq_ite] at h
    split at h
    case isFalse => cases h
    rename_i hi
    split at h
    · rename_i k hu
      split at h
      case isFalse => cases h
      cases h
      obtain ⟨x, rfl⟩ := List.length_eq_one_iff.1 hl1.symm
      obtain ⟨y, rfl⟩ := List.length_eq_one_iff.1 (hl2.symm.trans hl1.symm)
      have e : ∀ z, wrapV P t [z] = z := by intro z; unfold wrapV; rw [hu]; rfl
      rw [e, e]
      obtain ⟨r1, r2, _, h2, h3, h4⟩ := eqVals_cons hr
      cases h2
      rcases h4 with ⟨k', a, b, _, rfl, rfl, rfl⟩ | ⟨a, b, e, _⟩
      · rw [run_equalIn_int w D t _ _ a b hu, h3, Bool.and_true]
      · cases e
    · rename_i hu
      split at h
      case isFalse => cases h
      cases h
      obtain ⟨x, rfl⟩ := List.length_eq_one_iff.1 hl1.symm
      obtain ⟨y, rfl⟩ := List.length_eq_one_iff.1 (hl2.symm.trans hl1.symm)
      have e : ∀ z, wrapV P t [z] = z := by intro z; unfold wrapV; rw [hu]; rfl
      rw [e, e]
      obtain ⟨r1, r2, _, h2, h3, h4⟩ := eqVals_cons hr
      cases h2
      rcases h4 with ⟨k', a, b, e, _⟩ | ⟨a, b, _, rfl, rfl, rfl⟩
      · cases e
      · rw [run_equalIn_bool w D t a b hu, h3, Bool.and_true]
    · rename_i fs hu
      split at h
      case isFalse => cases h
      rename_i hc
      simp only [Bool.and_eq_true, Bool.not_eq_true', List.all_eq_true, bne_iff_ne, ne_eq] at hc
      obtain ⟨⟨hp, ho⟩, hf⟩ := hc
      have e : ∀ z, wrapV P t z = .agg z.toArray := by intro z; unfold wrapV; rw [hu]
      rw [e, e]
      have hfo : P.fieldsOf t = fs := by unfold Program.fieldsOf; rw [hu]
      rw [run_equalIn_struct w D t _ _ (by rw [hu, hfo]) hp, hfo]
      have key : ∀ (gs : List Field) (o : Nat) (ks : List (Option IntKind)) (r : Bool), (∀ f ∈ gs, f ∈ fs.toList) → joinK (fun f => eqTy P d f.type) gs = some ks → offsOk P gs o (P.cellsOf t) = true → eqVals ks (xs.drop o) (ys.drop o) = some r → (Op.eqFields D xs.toArray ys.toArray gs).run P w = .ok r w := by
        intro gs
        induction gs with
        | nil =>
          intro o ks r _ hk ho hr
          cases hk
          have := Nat.eq_of_beq_eq_true ho
          rw [List.drop_of_length_le (by omega), List.drop_of_length_le (by omega)] at hr
          cases hr
          simp [Op.eqFields]
        | cons g gs ih =>
          intro o ks r hm hk ho hr
          simp only [joinK] at hk
          split at hk
          case h_2 => cases hk
          rename_i ka kb hka hkb
          cases hk
          simp only [offsOk, Bool.and_eq_true] at ho
          have ho1 := Nat.eq_of_beq_eq_true ho.1
          have hname := hf g (hm g List.mem_cons_self)
          have hkl := eqTy_len _ _ _ hka
          have hle := offsOk_le _ _ _ ho.2
          obtain ⟨ha1, ha2⟩ := eqVals_len _ _ _ _ hr
          rw [List.length_append, List.length_drop] at ha1
          rw [List.length_drop, List.length_drop] at ha2
          have hlx : ((xs.drop o).take (P.cellsOf g.type)).length = P.cellsOf g.type := by rw [List.length_take, List.length_drop]; omega
          have hly : ((ys.drop o).take (P.cellsOf g.type)).length = P.cellsOf g.type := by rw [List.length_take, List.length_drop]; omega
          rw [← List.take_append_drop (P.cellsOf g.type) (xs.drop o), ← List.take_append_drop (P.cellsOf g.type) (ys.drop o)] at hr
          obtain ⟨r1, r2, h1, h2, h3⟩ := eqVals_append _ _ _ _ _ _ _ (by rw [hlx, hkl]) (by rw [hlx, hly]) hr
          rw [List.drop_drop, List.drop_drop] at h2
          have hrec := eq_run d g.type _ hka _ _ r1 h1 D w (by omega)
          have hrest := ih _ _ r2 (fun f hf' => hm f (List.mem_cons_of_mem _ hf')) hkb ho.2 h2
          obtain ⟨hi', dd, hu', h0⟩ := eqTy_info hka
          have p1 := run_part (P := P) (w := w) hi' hu' xs.toArray g.offset (by simp; omega) h0
          have p2 := run_part (P := P) (w := w) hi' hu' ys.toArray g.offset (by simp; omega) h0
          simp only [ho1] at p1 p2
          simp only [Op.eqFields, ne_eq, hname, not_false_eq_true, if_true, Sem.run_bind, ho1, p1, p2, Result.andThen_ok, hrec]
          rw [h3]
          cases r1
          · simp
          · simp [hrest]
      exact key fs.toList 0 ks r (fun f hf => hf) h ho (by simpa using hr)
    · rename_i n e hu
      split at h
      case h_2 => cases h
      rename_i l hl
      split at h
      case isFalse => cases h
      cases h
      have e' : ∀ z, wrapV P t z = .agg z.toArray := by intro z; unfold wrapV; rw [hu]
      rw [e', e']
      have hkl := eqTy_len _ _ _ hl
      obtain ⟨hi', dd, hu', h0⟩ := eqTy_info hl
      have hsz := eqTy_len _ _ _ hl
      have hkr : ∀ q, (repK l q).length = q * P.cellsOf e := by
        intro q
        induction q with
        | zero => simp [repK]
        | succ q ih => simp only [repK, List.length_append, ih, Nat.add_mul, hsz]; omega
      have hxl : xs.length = n * P.cellsOf e := by rw [← hl1, hkr]
      have hyl : ys.length = n * P.cellsOf e := by rw [← hl2, hxl]
      have loop : ∀ (q i : Nat) (r : Bool), i + q = n → eqVals (repK l q) (xs.drop (i * P.cellsOf e)) (ys.drop (i * P.cellsOf e)) = some r →
          (do
            let s ← forIn (List.range' i q) ((none, ()) : Option Bool × PUnit) fun i r => do
              let a ← part e xs.toArray (i * P.cellsOf e)
              let b ← part e ys.toArray (i * P.cellsOf e)
              let eq ← Op.equalIn D e a b
              if (!eq) = true then pure (ForInStep.done (some false, ())) else pure (ForInStep.yield (none, ()))
            match s.fst with
            | some a => pure a
            | none => pure true : Sem Bool).run P w = .ok r w := by
        intro q
        induction q with
        | zero =>
          intro i r hi' hr
          simp only [repK] at hr
          obtain ⟨h1, h2⟩ := eqVals_len _ _ _ _ hr
          have h3 : xs.drop (i * P.cellsOf e) = [] := List.eq_nil_of_length_eq_zero h1.symm
          have h4 : ys.drop (i * P.cellsOf e) = [] := List.eq_nil_of_length_eq_zero (by rw [← h2, h3]; rfl)
          rw [h3, h4] at hr
          cases hr
          simp
        | succ q ih =>
          intro i r hi2 hr
          simp only [repK] at hr
          have hle : i * P.cellsOf e + P.cellsOf e ≤ n * P.cellsOf e := by
            rw [← hi2, ← Nat.succ_mul]; exact Nat.mul_le_mul_right _ (by omega)
          have hlx : ((xs.drop (i * P.cellsOf e)).take (P.cellsOf e)).length = P.cellsOf e := by rw [List.length_take, List.length_drop]; omega
          have hly : ((ys.drop (i * P.cellsOf e)).take (P.cellsOf e)).length = P.cellsOf e := by rw [List.length_take, List.length_drop]; omega
          rw [← List.take_append_drop (P.cellsOf e) (xs.drop (i * P.cellsOf e)), ← List.take_append_drop (P.cellsOf e) (ys.drop (i * P.cellsOf e))] at hr
          obtain ⟨r1, r2, h1, h2, h3⟩ := eqVals_append _ _ _ _ _ _ _ (by rw [hlx, hsz]) (by rw [hlx, hly]) hr
          rw [List.drop_drop, List.drop_drop, ← Nat.succ_mul] at h2
          have hrec := eq_run d e _ hl _ _ r1 h1 D w (by omega)
          have hrest := ih (i + 1) r2 (by omega) h2
          have p1 := run_part (P := P) (w := w) hi' hu' xs.toArray (i * P.cellsOf e) (by simp; omega) h0
          have p2 := run_part (P := P) (w := w) hi' hu' ys.toArray (i * P.cellsOf e) (by simp; omega) h0
          simp only [List.range'_succ, List.forIn_cons, Sem.run_bind, p1, p2, Result.andThen_ok, hrec] at hrest ⊢
          rw [h3]
          cases r1
          · simp
          · simpa using hrest
      have := loop n 0 r (by omega) (by simpa using hr)
      simp only [Op.equalIn, Sem.run_bind, run_underlying hu, Result.andThen_ok, run_sizeOf' hi'] at this ⊢
      rw [Std.Legacy.Range.forIn_eq_forIn_range']
      simp only [Std.Legacy.Range.size, Nat.sub_zero, Nat.add_sub_cancel, Nat.div_one]
      refine Eq.trans ?_ this
      congr 1
      funext a w'
      obtain ⟨o, u⟩ := a
      cases o <;> rfl
    · cases h
end
end Go.AX

namespace Go.AX
set_option autoImplicit false
set_option linter.unusedVariables false
set_option linter.unusedSimpArgs false

section
variable {P : Program} {w0 : World} {M : Nat → Prop} {E : Emb} {aw : List (Nat × Blk)} {n : Nat} {w : World}

theorem run_copy_k {dT e ty : TypeId} {te : TI} (hu : P.underlying dT = some (.slice e)) (hE : TIok P e te) (sT : TypeId) (g o dLen dCap : Nat) (a : Option Addr) (sLen sCap : Nat) (cur : Array Value) (t : TypeId) (cs : List Value)
    (hg : w.heap[g]? = some (.cells cur t (0, 0))) (hn : cs.length = Nat.min sLen dLen * te.size) (hsrc : Nat.min sLen dLen = 0 ∨ ∃ q, a = some q ∧ ∀ j v, cs[j]? = some v → w.cell? (q.add j) = some v) (hfit : o + cs.length ≤ cur.size) (h1 : ∀ v ∈ cs, v.oneCell' = true) :
    (Builtin.copy_ #[dT, sT] ty #[.slice (some ⟨g, o, none⟩) dLen dCap, .slice a sLen sCap]).run P w =
      .ok (goInt (Nat.min sLen dLen)) (w.setRow g (cur.toList.take o ++ cs ++ cur.toList.drop (o + cs.length)).toArray) := by
  obtain ⟨i, z, dd, hi, hsz, _⟩ := hE.info
  have hst := run_storeCells_at P g o t cs 0 cur w hg (by simpa using hfit) h1
  simp only [Nat.add_zero] at hst
  rcases hsrc with h0 | ⟨q, rfl, hq⟩
  · have hc : cs = [] := List.eq_nil_of_length_eq_zero (by rw [hn, h0]; simp)
    subst hc
    have hl : ∀ (x : Addr), (loadCells x 0).run P w = .ok #[] w := fun x => by simpa using run_loadCells_list (P := P) w x [] (by simp)
    cases a with
    | none => simp [Builtin.copy_, run_underlying hu, Builtin.lenOf, Builtin.firstCells, sizeOf, typeInfo, hi, h0]; simp at hst; rw [hst]; rfl
    | some q => simp [Builtin.copy_, run_underlying hu, Builtin.lenOf, Builtin.firstCells, sizeOf, typeInfo, hi, h0, hl]; simp at hst; rw [hst]; rfl
  · have hl := run_loadCells_list (P := P) w q cs hq
    rw [hn] at hl
    simp [Builtin.copy_, run_underlying hu, Builtin.lenOf, Builtin.firstCells, sizeOf, typeInfo, hi, hsz, hl, hst]

theorem did_put (hW : WR w0 M E aw n w) {id : Nat} {row : Option Nat} {w' : World} {blk y : Blk} {val : V} {v : Value} {s : Prop} (h2 : w.grownBy w' row) (h3 : ∀ b, row = some b → E.ρ id = some (some b)) (h5 : BlkOK E id w' blk) (hy : look aw id = some y) (hyl : y.live = true) (hv : repV E val v) :
    Did aw E n w ⟨val, [(id, blk)], 0, s⟩ E w' v := by
  refine ⟨.refl E, fun b o h => .inl h, fun i x h => .inl h, ?_, ⟨_, GrownS.of h2, fun k hk => ?_⟩, ?_, hv⟩
  · intro i j b' x z h1 h2 h3 h4 h5 h6
    have f : ∀ i x, look ([(id, blk)] ++ aw) i = some x → x.live = true → ∃ x', look aw i = some x' ∧ x'.live = true := by
      intro i x h1 h2
      simp only [List.cons_append, List.nil_append, look_cons] at h1
      split at h1
      · rename_i e; subst e; exact ⟨y, hy, hyl⟩
      · exact ⟨x, h1, h2⟩
    obtain ⟨x1, h7, h8⟩ := f i x h1 h2
    obtain ⟨x2, h9, h10⟩ := f j z h3 h4
    exact hW.inj i j b' x1 x2 h7 h8 h9 h10 h5 h6
  · exact ⟨id, y, h3 k hk, hy, hyl, by simp [look_cons]⟩
  · intro i b hb
    rw [look_cons] at hb
    split at hb
    · rename_i e; cases hb; subst e; exact h5
    · cases hb

theorem repDs_over {H : Nat → Option Obj} {l ds : List D} {vs us : List Value} (h : repDs H l vs) (hd : repDs H ds us) (hl : ds.length = us.length) {o : Nat} (ho : o + us.length ≤ l.length) : repDs H (std.over l o ds) (vs.take o ++ us ++ vs.drop (o + us.length)) := by
  have hle := repDs_len _ _ h
  show repDs H (l.take o ++ ds ++ l.drop (o + ds.length)) _
  rw [hl]
  exact repDs_app (repDs_app (repDs_take h o) (by rw [List.length_take, List.length_take]; omega) hd) (by rw [List.length_append, List.length_append, List.length_take, List.length_take]; omega) (repDs_drop h _)

theorem op_copy (hW : WR w0 M E aw n w) {o : Oper} {a : Act} {t e : TypeId} {te : TI} {x y : Operand} (ht : P.underlying t = some (.slice e)) (hE : TIok P e te)
    (ho : o.op = .call ⟨.builtin .copy, #[x, y], #[t, t]⟩) {v u : V} (hv : repV E v (a.eval x)) (hu : repV E u (a.eval y)) {bs : List Blk} (hbs : blks aw (ids [v, u]) = some bs)
    {r : Res} (h : rCopy std te.size v u bs = some r) (hs : r.side) : OpDid P o a aw E n w r := by
  have run : ∀ r w', (Builtin.copy_ #[t, t] o.type #[a.eval x, a.eval y]).run P w = .ok r w' → (execOp a.eval o).run P w = .ok (.value r) w' := by
    intro r w' hr
    rw [exec_builtin ho]
    simp only [builtin, List.map_toArray, List.map_cons, List.map_nil, Sem.run_bind, hr, Result.andThen_ok, Sem.run_pure]
  -- what is read
  have src : ∀ (ds : List D) (m : Nat) (p : Prop), seen std te.size u (lastB bs) = some (ds, m, p) → p → ∀ len, ∃ xa c cs, a.eval y = .slice xa m c ∧ cs.length = Nat.min m len * te.size ∧ repDs E.H (ds.take (Nat.min m len * te.size)) cs ∧ (ds.take (Nat.min m len * te.size)).length = cs.length ∧
      (∀ x ∈ cs, x.oneCell' = true) ∧ (Nat.min m len = 0 ∨ ∃ q, xa = some q ∧ ∀ j u, cs[j]? = some u → w.cell? (q.add j) = some u) := by
    intro ds m p hseen hp len
    obtain ⟨xa, c, news, h1, h2, h3, h4, h5⟩ := seen_rep hW hu (blks_last hbs) hseen hp
    have hmin : Nat.min m len ≤ m := Nat.min_le_left _ _
    have hmk : Nat.min m len * te.size ≤ m * te.size := Nat.mul_le_mul_right _ hmin
    refine ⟨xa, c, news.take (Nat.min m len * te.size), h1, by rw [List.length_take]; omega, repDs_take h3 _, by rw [List.length_take, List.length_take]; omega, fun x hx => repDs_one h3 (by omega) x (List.mem_of_mem_take hx), ?_⟩
    rcases h5 with h5 | ⟨q, h6, h7⟩
    · left; rw [h5]; simp
    · exact .inr ⟨q, h6, fun j u hj => h7 j u (by rw [List.getElem?_take] at hj; split at hj; exact hj; cases hj)⟩
  have first : ∀ {i : Nat} {b : Blk} {bs' : List Blk}, v.id? = some i → bs = b :: bs' → look aw i = some b := by
    intro i b bs' hi hb
    subst hb
    simp only [ids, hi] at hbs
    simp only [blks] at hbs
    split at hbs
    · rename_i b r' h1 h2; cases hbs; exact h1
    · cases hbs
  unfold rCopy at h
  split at h
  · rename_i id len k' l k2 e2 bs'
    simp only [cond_eq_ite, Bool.and_eq_true] at h
    split at h
    · rename_i hk
      have hk1 := Nat.eq_of_beq_eq_true hk.1
      have hk2 := Nat.eq_of_beq_eq_true hk.2
      subst hk1 hk2
      split at h
      · rename_i ds m p hseen
        cases h
        obtain ⟨hp, hb0⟩ := hs
        have hb0 : len * te.size ≤ l.length := hb0
        have hlook := first rfl rfl
        obtain ⟨xa, c, cs, h1, h2, h3, h4, h5, h6⟩ := src ds m p hseen hp len
        have hmin : Nat.min m len ≤ len := Nat.min_le_right _ _
        have hmk : Nat.min m len * te.size ≤ len * te.size := Nat.mul_le_mul_right _ hmin
        simp only [repV] at hv
        have hbk := hW.blk _ _ hlook
        rcases hv with ⟨g1, rfl, hx⟩ | ⟨b, cap, g1, hx, hlc, hcm, hκ⟩
        · have hl0 : l = [] := by
            rcases hbk with ⟨_, h2⟩ | ⟨b', c, h2, _⟩
            · exact h2
            · rw [g1] at h2; cases h2
          subst hl0
          obtain ⟨i, z, dd, hi, hsz, _⟩ := hE.info
          have hmin0 : Nat.min m 0 = 0 := by simp
          have hrun : (Builtin.copy_ #[t, t] o.type #[a.eval x, a.eval y]).run P w = .ok (goInt 0) w := by
            rw [hx, h1]
            have hl : ∀ (x : Addr), (loadCells x 0).run P w = .ok #[] w := fun x => by simpa using run_loadCells_list (P := P) w x [] (by simp)
            cases xa <;> simp [Builtin.copy_, run_underlying ht, Builtin.lenOf, Builtin.firstCells, sizeOf, typeInfo, hi, hl]
          refine OpDid.value (run _ _ hrun) (did_put hW (row := none) (grownBy_refl w none) (fun b hb => by cases hb) ?_ hlook rfl ?_)
          · refine .inl ⟨g1, ?_⟩
            show List.take 0 [] ++ List.take (Nat.min m 0 * te.size) ds ++ List.drop _ [] = []
            rw [hmin0]; simp
          · show repV E (.d (.int .i64 ((Nat.min m 0 : Nat) : Int))) _
            rw [hmin0]; simp only [repV, repD]; rfl
        · rcases hbk with ⟨g2, _⟩ | ⟨b', cc, g2, g3, g4, g5, g6⟩
          · rw [g1] at g2; cases g2
          rw [g1] at g2; cases g2
          have hll := repDs_len _ _ g6
          have hrun := run_copy_k (ty := o.type) ht hE t b 0 len cap xa m c cc e2 cs g3 h2 h6 (by rw [h2]; simp only [Array.length_toList] at hll; omega) h5
          rw [← hx, ← h1] at hrun
          have hov := repDs_over g6 h3 h4 (o := 0) (by rw [h2]; omega)
          refine OpDid.value (run _ _ hrun) (did_put hW (grownBy_setRow _ _ _) (fun b hb => by cases hb; exact g1) (.inr ⟨b, _, g1, setRow_heap w b cc _ e2 _ g3, ?_, ?_, hov⟩) hlook rfl ?_)
          · rw [← g4]
            simp only [List.size_toArray, List.length_append, List.length_take, List.length_drop, h2, Array.length_toList] at hll ⊢
            omega
          · intro z hz
            simp only [List.mem_append] at hz
            rcases hz with (hz | hz) | hz
            · exact g5 z (List.mem_of_mem_take hz)
            · exact h5 z hz
            · exact g5 z (List.mem_of_mem_drop hz)
          · simp only [repV, repD]; rfl
      · cases h
    · cases h
  · rename_i id off len k' l k2 e2 bs'
    simp only [cond_eq_ite, Bool.and_eq_true] at h
    split at h
    · rename_i hk
      have hk1 := Nat.eq_of_beq_eq_true hk.1
      have hk2 := Nat.eq_of_beq_eq_true hk.2
      subst hk1 hk2
      split at h
      · rename_i ds m p hseen
        cases h
        obtain ⟨hp, hb0⟩ := hs
        have hb0 : off + len * te.size ≤ l.length := hb0
        have hlook := first rfl rfl
        obtain ⟨xa, c, cs, h1, h2, h3, h4, h5, h6⟩ := src ds m p hseen hp len
        have hmin : Nat.min m len ≤ len := Nat.min_le_right _ _
        have hmk : Nat.min m len * te.size ≤ len * te.size := Nat.mul_le_mul_right _ hmin
        simp only [repV] at hv
        have hbk := hW.blk _ _ hlook
        obtain ⟨b, cap, o', g1, hx, hlc, hoo⟩ := hv
        rcases hbk with ⟨g2, _⟩ | ⟨b', cc, g2, g3, g4, g5, g6⟩
        · rw [g1] at g2; cases g2
        rw [g1] at g2; cases g2
        have hll := repDs_len _ _ g6
        by_cases hlen0 : len = 0
        · subst hlen0
          obtain ⟨i, z, dd, hi, hsz, _⟩ := hE.info
          have hmin0 : Nat.min m 0 = 0 := by simp
          have hst : (storeCells ⟨b, o', none⟩ [] 0).run P w = .ok () w := rfl
          have hrun : (Builtin.copy_ #[t, t] o.type #[a.eval x, a.eval y]).run P w = .ok (goInt 0) w := by
            rw [hx, h1]
            have hl : ∀ (x : Addr), (loadCells x 0).run P w = .ok #[] w := fun x => by simpa using run_loadCells_list (P := P) w x [] (by simp)
            cases xa <;> simp [Builtin.copy_, run_underlying ht, Builtin.lenOf, Builtin.firstCells, sizeOf, typeInfo, hi, hl, hst]
          refine OpDid.value (run _ _ hrun) (did_put hW (row := none) (grownBy_refl w none) (fun b hb => by cases hb) (.inr ⟨b, cc, g1, g3, g4, g5, ?_⟩) hlook rfl ?_)
          · show repDs E.H (List.take off l ++ List.take (Nat.min m 0 * te.size) ds ++ List.drop (off + (List.take (Nat.min m 0 * te.size) ds).length) l) _
            rw [hmin0]; simpa using g6
          · show repV E (.d (.int .i64 ((Nat.min m 0 : Nat) : Int))) _
            rw [hmin0]; simp only [repV, repD]; rfl
        · have := hoo hlen0
          subst this
          have hrun := run_copy_k (ty := o.type) ht hE t b o' len cap xa m c cc e2 cs g3 h2 h6 (by rw [h2]; simp only [Array.length_toList] at hll; omega) h5
          rw [← hx, ← h1] at hrun
          have hov := repDs_over g6 h3 h4 (o := o') (by rw [h2]; omega)
          refine OpDid.value (run _ _ hrun) (did_put hW (grownBy_setRow _ _ _) (fun b hb => by cases hb; exact g1) (.inr ⟨b, _, g1, setRow_heap w b cc _ e2 _ g3, ?_, ?_, hov⟩) hlook rfl ?_)
          · rw [← g4]
            simp only [List.size_toArray, List.length_append, List.length_take, List.length_drop, h2, Array.length_toList] at hll ⊢
            omega
          · intro z hz
            simp only [List.mem_append] at hz
            rcases hz with (hz | hz) | hz
            · exact g5 z (List.mem_of_mem_take hz)
            · exact h5 z hz
            · exact g5 z (List.mem_of_mem_drop hz)
          · simp only [repV, repD]; rfl
      · cases h
    · cases h
  · rename_i id s m' k' len l bs'
    simp only [cond_eq_ite] at h
    split at h
    · rename_i hk
      have hk1 := Nat.eq_of_beq_eq_true hk
      subst hk1
      split at h
      · rename_i q d hcut
        split at h
        · rename_i ds m p hseen
          split at h
          · rename_i l' hl'
            cases h
            obtain ⟨hp, hb0⟩ := hs
            have hb0 : len * te.size ≤ q := hb0
            have hlook := first rfl rfl
            obtain ⟨xa, c, cs, h1, h2, h3, h4, h5, h6⟩ := src ds m p hseen hp len
            have hmin : Nat.min m len ≤ len := Nat.min_le_right _ _
            have hmk : Nat.min m len * te.size ≤ len * te.size := Nat.mul_le_mul_right _ hmin
            simp only [repV] at hv
            obtain ⟨b, cap, o', g1, hx, hlm, hoo, hlc⟩ := hv
            obtain ⟨b', cc, e', g2, g3, g6⟩ := hW.blk _ _ hlook
            rw [g1] at g2; cases g2
            obtain ⟨c1, c2⟩ := cut_rep _ _ _ _ hcut _ g6
            simp only [repC] at c2
            rcases c2 with ⟨q', d', xs, ys, e1, e2, e3, e4, e5, e6⟩ | ⟨uu, us, _, _, e3, _⟩
            case inr => simp only [repV] at e3
            cases e1
            subst e6
            rw [List.append_nil] at e2
            have hsub : Nat.mul m' te.size = q := by
              have := congrArg List.length e2
              rw [List.length_take, List.length_drop, e3] at this
              omega
            by_cases hlen0 : len = 0
            · subst hlen0
              obtain ⟨i, z, dd, hi, hsz, _⟩ := hE.info
              have hmin0 : Nat.min m 0 = 0 := by simp
              have hst : (storeCells ⟨b, o', none⟩ [] 0).run P w = .ok () w := rfl
              have hrun : (Builtin.copy_ #[t, t] o.type #[a.eval x, a.eval y]).run P w = .ok (goInt 0) w := by
                rw [hx, h1]
                have hl : ∀ (x : Addr), (loadCells x 0).run P w = .ok #[] w := fun x => by simpa using run_loadCells_list (P := P) w x [] (by simp)
                cases xa <;> simp [Builtin.copy_, run_underlying ht, Builtin.lenOf, Builtin.firstCells, sizeOf, typeInfo, hi, hl, hst]
              have hd : std.over d 0 (std.take ds (std.mulNat (std.minN m 0) te.size)) = d := by
                show List.take 0 d ++ List.take (Nat.min m 0 * te.size) ds ++ List.drop (0 + (List.take (Nat.min m 0 * te.size) ds).length) d = d
                rw [hmin0]; simp
              obtain ⟨f1, f2⟩ := splice_rep _ _ _ _ hl' _ xs g6 (by rw [hd]; simp only [repC]; exact .inl ⟨q, d, xs, [], rfl, by simp, e3, e4, e5, rfl⟩)
              refine OpDid.value (run _ _ hrun) (did_put hW (row := none) (grownBy_refl w none) (fun b hb => by cases hb) ⟨b, cc, e', g1, g3, ?_⟩ hlook rfl ?_)
              · rw [e3, ← hsub, ← e2, List.append_assoc, ← List.drop_drop, List.take_append_drop, List.take_append_drop] at f2
                exact f2
              · show repV E (.d (.int .i64 ((Nat.min m 0 : Nat) : Int))) _
                rw [hmin0]; simp only [repV, repD]; rfl
            · have := hoo hlen0
              subst this
              have hrun := run_copy_k (ty := o.type) ht hE t b o' len cap xa m c cc e' cs g3 h2 h6 (by rw [h2]; simp only [Array.length_toList] at c1; omega) h5
              rw [← hx, ← h1] at hrun
              have hov := repDs_over e5 h3 h4 (o := 0) (by rw [h2]; omega)
              simp only [List.take_zero, List.nil_append, Nat.zero_add] at hov
              have hvl : (cs ++ xs.drop cs.length).length = q := by rw [List.length_append, List.length_drop]; omega
              have hdl : (std.over d 0 (std.take ds (std.mulNat (std.minN m len) te.size))).length = q := by
                show (List.take 0 d ++ List.take (Nat.min m len * te.size) ds ++ List.drop (0 + (List.take (Nat.min m len * te.size) ds).length) d).length = q
                simp only [List.take_zero, List.nil_append, Nat.zero_add, List.length_append, List.length_drop]
                omega
              obtain ⟨f1, f2⟩ := splice_rep _ _ _ _ hl' _ (cs ++ xs.drop cs.length) g6 (by simp only [repC]; exact .inl ⟨q, _, cs ++ xs.drop cs.length, [], rfl, by simp, hvl, hdl, hov, rfl⟩)
              refine OpDid.value (run _ _ hrun) (did_put hW (grownBy_setRow _ _ _) (fun b hb => by cases hb; exact g1) ⟨b, _, e', g1, setRow_heap w b cc _ e' _ g3, ?_⟩ hlook rfl ?_)
              · have : cc.toList.take o' ++ (cs ++ xs.drop cs.length) ++ cc.toList.drop (o' + (cs ++ xs.drop cs.length).length) = cc.toList.take o' ++ cs ++ cc.toList.drop (o' + cs.length) := by
                  rw [hvl, List.append_assoc, List.append_assoc, List.append_assoc]
                  congr 2
                  rw [← e2, hsub, List.drop_take, List.drop_drop, ← List.drop_drop (i := q) (j := o')]
                  have e7 : (cc.toList.drop o').drop q = ((cc.toList.drop (o' + cs.length))).drop (q - cs.length) := by rw [List.drop_drop, List.drop_drop]; congr 1; omega
                  rw [e7, List.take_append_drop]
                rw [← this]; simpa using f2
              · simp only [repV, repD]; rfl
          · cases h
        · cases h
      · cases h
    · cases h
  · cases h

theorem wrapSmall {m : Nat} (h : (m : Int) ≤ 4611686018427387904) : IntKind.i64.wrap (m : Int) = m := by
  have e : (2 : Int) ^ IntKind.i64.bits = 18446744073709551616 := by decide
  have e' : (2 : Int) ^ (IntKind.i64.bits - 1) = 9223372036854775808 := by decide
  unfold IntKind.wrap
  rw [e, e', Int.emod_eq_of_lt (by omega) (by omega)]
  have : ¬ ((m : Int) ≥ 9223372036854775808) := by omega
  simp [this]

theorem run_grow0 (t t' ty e : TypeId) (i : TypeInfo) (z : Value) (k : IntKind) (k' : IntKind) (ht : P.underlying t = some (.slice e)) (ht' : P.underlying t' = some (.int k)) (hi : P.info? e = some i) (hz : i.zero = some z)
    (m : Nat) (h0 : 0 < m) (h63 : (m : Int) ≤ 4611686018427387904) (h48 : m * i.bytes ≤ 140737488355328) (hs : i.size ≠ 0) :
    (Builtin.append_ #[t, t'] ty #[.slice none 0 0, .int k' m]).run P w =
      .ok (.slice (some ⟨w.heap.size, 0, none⟩) m (grownCap w m 0 e)) (w.drew.alloc (.cells (Builtin.zeroCells z.cells m ++ Builtin.zeroCells z.cells (grownCap w m 0 e - m)) e)) := by
  have hn : m ≠ 0 := by omega
  have hw : IntKind.i64.wrap (m : Int) = m := wrapSmall h63
  have h1 : ¬ ((m : Int) < 0) := by omega
  have h2 : ¬ (281474976710656 < (m : Int) * (i.bytes : Int)) := by
    intro h
    have h3 : ((m * i.bytes : Nat) : Int) ≤ 140737488355328 := by omega
    rw [Int.natCast_mul] at h3; omega
  have h63' : ¬ (9223372036854775807 < (m : Int)) := by omega
  have h48' : ¬ (281474976710656 < Builtin.nextslicecap m 0 * i.bytes) := by rw [nextslicecap_zero h0]; omega
  have hms : ¬ (m * i.size = 0) := fun h => (Nat.mul_eq_zero.1 h).elim hn hs
  simp [Builtin.append_, run_underlying ht, run_underlying ht', sizeOf, typeInfo, zeroValue, hi, hz, Builtin.lenOf, asInt, asIntOf, hw, h1, h2, hn, hs, h63', h48', Question.forced, run_firstCells_none, newRow, grownCap]
  exact fun h => (hms h).elim

theorem op_grow0 (hW : WR w0 M E aw n w) {o : Oper} {a : Act} {t t' e : TypeId} {te : TI} {k : IntKind} {x y : Operand} (ht : P.underlying t = some (.slice e)) (ht' : P.underlying t' = some (.int k)) (hE : TIok P e te) (hz : te.size ≠ 0)
    (ho : o.op = .call ⟨.builtin .append, #[x, y], #[t, t']⟩) {v u : V} (hv : repV E v (a.eval x)) (hu : repV E u (a.eval y))
    {r : Res} (h : rGrow0 std te e n v u = some r) (hs : r.side) : OpDid P o a aw E n w r := by
  obtain ⟨i, z, dd, hi, hsz, hby, hz', hzr, _, _, _, hzs, _⟩ := hE.info
  have hzr := repC_one _ _ (hzr E)
  have run : ∀ r w', (Builtin.append_ #[t, t'] o.type #[a.eval x, a.eval y]).run P w = .ok r w' → (execOp a.eval o).run P w = .ok (.value r) w' := by
    intro r w' hr
    rw [exec_builtin ho]
    simp only [builtin, List.map_toArray, List.map_cons, List.map_nil, Sem.run_bind, hr, Result.andThen_ok, Sem.run_pure]
  unfold rGrow0 at h
  split at h
  case h_2 => cases h
  rename_i k' c
  cases h
  obtain ⟨⟨h0, h1⟩, h2⟩ := hs
  have h1 : c < ((4611686018427387905 : Nat) : Int) := h1
  have h2 : c.toNat * te.bytes ≤ 140737488355328 := h2
  simp only [repV, repD] at hv hu
  have hc : c = ((c.toNat : Nat) : Int) := by omega
  rw [hc] at hu
  rcases Nat.eq_zero_or_pos c.toNat with hm | hm
  · have hr : (Builtin.append_ #[t, t'] o.type #[.slice none 0 0, .int k' ((0 : Nat) : Int)]).run P w = .ok (.slice none 0 0) w := by
      have hw : IntKind.i64.wrap 0 = 0 := rfl
      simp [Builtin.append_, run_underlying ht, run_underlying ht', hE.sizeOf, Builtin.lenOf, asInt, asIntOf, hw, typeInfo, hi]
    rw [hm] at hu
    rw [← hv, ← hu] at hr
    exact OpDid.value (run _ _ hr) (Did.fresh hW (x := none) (κ := 0) (row := none) (fun i y h => by cases h) (fun b hb => by cases hb) (grownBy_refl w none) (fun k hk => by cases hk)
      (.inl ⟨Emb.add_new, rfl⟩) (by simp only [repV]; exact .inl ⟨Emb.add_new, hm, hv⟩))
  · have hr := run_grow0 (P := P) (w := w) t t' o.type e i z k k' ht ht' hi hz' c.toNat hm (by omega) (by rw [hby]; exact h2) (by rw [hsz]; exact hz)
    rw [← hv, ← hu] at hr
    have hge := grownCap_ge w c.toNat 0 e
    have hcm := grownCap_le_maxLen w c.toNat 0 e (by unfold maxLen; omega)
    have hsize : (Builtin.zeroCells z.cells c.toNat ++ Builtin.zeroCells z.cells (grownCap w c.toNat 0 e - c.toNat)).size = grownCap w c.toNat 0 e * te.size := by
      simp only [Array.size_append, size_zeroCells, hzs, ← Nat.add_mul]
      congr 1; omega
    have hlt : w.heap.size < (w.drew.alloc (.cells (Builtin.zeroCells z.cells c.toNat ++ Builtin.zeroCells z.cells (grownCap w c.toNat 0 e - c.toNat)) e)).heap.size := by show _ < (w.heap.push _).size; simp
    refine OpDid.value (run _ _ hr) (Did.fresh hW (x := some w.heap.size) (κ := grownCap w c.toNat 0 e * te.size) (row := none) (fun i y h => by cases h) (fun b hb => .inl (by cases hb; exact ⟨Nat.le_refl _, hlt⟩)) ?_ (fun k hk => by cases hk) (.inr ⟨w.heap.size, _, Emb.add_new, heap_alloc_new w.drew _, by rw [Emb.add_κ, hsize], ?_, ?_⟩) ?_)
    · exact ⟨rfl, rfl, rfl, by show _ ≤ (w.heap.push _).size; simp, fun k hk _ => heap_alloc_old w.drew _ k hk⟩
    · intro x hx
      simp only [Array.toList_append, List.mem_append] at hx
      rcases hx with hx | hx
      · exact zeroCells_one hzr _ x (by simpa using hx)
      · exact zeroCells_one hzr _ x (by simpa using hx)
    · trivial
    · simp only [repV]
      exact .inr ⟨_, _, Emb.add_new, rfl, hge, hcm, Emb.add_κ⟩
end
end Go.AX

namespace Go.AX
set_option autoImplicit false
set_option linter.unusedVariables false

def okEq (P : Program) : List (Nat × TI) → Bool
  | [] => true
  | (t, ti) :: r => (!ti.eq || (match kinds ti.leaves, eqTy P 40 t with | some a, some b => decide (a = b) | _, _ => false) && !P.eqGuardType P.depth t) && okEq P r

structure TabOK (P : Program) (tt : TT) : Prop where
  types : TTok P tt
  eqs : ∀ t ti, tt t = some ti → ti.eq = true → ∃ ks, kinds ti.leaves = some ks ∧ eqTy P 40 t = some ks ∧ P.eqGuardType P.depth t = false

theorem okEq_ok {P : Program} : ∀ {tt : List (Nat × TI)}, okEq P tt = true → ∀ t ti, look tt t = some ti → ti.eq = true → ∃ ks, kinds ti.leaves = some ks ∧ eqTy P 40 t = some ks ∧ P.eqGuardType P.depth t = false
  | [], _ => fun t ti h => by cases h
  | (t', ti') :: r, h => fun t ti hl he => by
    simp only [okEq, Bool.and_eq_true] at h
    rw [look_cons] at hl
    split at hl
    · rename_i e
      cases hl; subst e
      have h1 := h.1
      rw [he] at h1
      simp only [Bool.not_true, Bool.false_or, Bool.and_eq_true, Bool.not_eq_true'] at h1
      obtain ⟨h1, h2⟩ := h1
      split at h1
      · rename_i a b ha hb
        have := of_decide_eq_true h1
        subst this
        exact ⟨a, ha, hb, h2⟩
      · cases h1
    · exact okEq_ok h.2 t ti hl he

theorem tabOK {P : Program} {l : List (Nat × TI)} (h : (okTT P l && okEq P l) = true) : TabOK P (look l) := by
  simp only [Bool.and_eq_true] at h
  exact ⟨okTT_ok h.1, okEq_ok h.2⟩

section
variable {P : Program} {w0 : World} {M : Nat → Prop} {E : Emb} {aw : List (Nat × Blk)} {n : Nat} {w : World}

theorem op_eqAgg (hW : WR w0 M E aw n w) {o : Oper} {a : Act} {t t' : TypeId} {ti : TI} {b : BinOp} {x y : Operand} (hT : TIok P t ti) (ha : ti.agg = true) {ks : List (Option IntKind)} (hk : eqTy P 40 t = some ks) (hg : P.eqGuardType P.depth t = false)
    (ho : o.op = .binOp b t x y t') {v u : V} (hv : repV E v (a.eval x)) (hu : repV E u (a.eval y)) {r : Res} (h : rEqAgg std ks b v u = some r) : OpDid P o a aw E n w r := by
  unfold rEqAgg at h
  split at h
  case h_2 => cases h
  rename_i l m
  simp only [repV] at hv hu
  obtain ⟨xs, hx, hxc⟩ := hv
  obtain ⟨ys, hy, hyc⟩ := hu
  obtain ⟨i, z, d, _, _, _, _, _, hun, _, hag, _⟩ := hT.info
  rw [ha] at hag
  have hw : ∀ zs : Array Value, wrapV P t zs.toList = .agg zs := by
    intro zs; unfold wrapV; rw [hun]
    cases d <;> first | rfl | cases hag
  have run : ∀ (q : List Bool), eqList std ks l m = some q → (Op.equalIn 10000 t (.agg xs) (.agg ys)).run P w = .ok (q.all id) w := by
    intro q hq
    have h1 := eqList_vals ks l m q hq _ _ hxc hyc
    have h2 := eq_run 40 t ks hk _ _ _ h1 10000 w (by omega)
    rwa [hw, hw] at h2
  have hex : ∀ z, (binOp b t (.agg xs) (.agg ys)).run P w = .ok z w → (execOp a.eval o).run P w = .ok (.value z) w := by
    intro z hz
    refine exec_value (do eqGuard b t x y (a.eval x) (a.eval y); binOp b t (a.eval x) (a.eval y)) (by unfold execOp; simp only [ho]) ?_
    rw [hx, hy]
    simp only [Sem.run_bind, run_eqGuard_agg w b t x y xs ys hg, Result.andThen_ok, hz]
  split at h
  · rename_i q hq
    cases h
    refine OpDid.pure hW (v := .bool (q.all id)) (hex _ ?_) rfl (by simp only [repV, repD, conj_std])
    rw [run_eql_struct w t xs ys, run q hq]; rfl
  · rename_i q hq
    cases h
    refine OpDid.pure hW (v := .bool (!(q.all id))) (hex _ ?_) rfl (by simp only [repV, repD, conj_std]; rfl)
    rw [run_neq_struct w t xs ys, run q hq]; rfl
  · cases h

theorem tdSlice_eq {tt : TT} {t e : TypeId} {te : TI} (hTT : TTok P tt) (h : tdSlice tt t = some (e, te)) : P.underlying t = some (.slice e) ∧ TIok P e te := by
  unfold tdSlice at h
  split at h
  · rename_i ti hti
    split at h
    · rename_i e' htd
      split at h
      · rename_i te' hte
        cases h
        exact ⟨(hTT t ti hti).slice htd, hTT _ _ hte⟩
      · cases h
    · cases h
  · cases h

theorem op_two {a : Act} {b : Builtin} {args : Array Operand} {ts : Array TypeId} {op : Op} {vs : List V} {mx : Bool} {r : Res} {C : Prop} (ho : op = .call ⟨.builtin b, args, ts⟩) (hvs : repVs E vs (op.operands.toList.map a.eval)) (h : rMinMax std mx vs = some r)
    (k : ∀ x y, args = #[x, y] → ∀ u v, repV E u (a.eval x) → repV E v (a.eval y) → rMinMax std mx [u, v] = some r → C) : C := by
  subst ho
  have h4 : repVs E vs (args.toList.map a.eval) := by simpa [Op.operands, Call.operands] using hvs
  have h0 := h
  unfold rMinMax at h
  split at h
  · obtain ⟨u, v, he, hu, hv⟩ := repVs_two h4
    have hl : args.toList.length = 2 := by have := congrArg List.length he; simpa using this
    obtain ⟨y, z, hyz⟩ : ∃ y z, args.toList = [y, z] := by
      match hh : args.toList, hl with
      | [y, z], _ => exact ⟨y, z, rfl⟩
    rw [hyz] at he
    cases he
    exact k y z (Array.toList_inj.1 hyz) _ _ hu hv h0
  · cases h

/-- WHATEVER OPERATION THERE IS: what the abstract executor says, the machine does. -/
theorem op_ok {tt : TT} (hTT : TabOK P tt) (hW : WR w0 M E aw n w) {o : Oper} {a : Act} {vs : List V} (hvs : repVs E vs (o.op.operands.toList.map a.eval)) {bs : List Blk} (hbs : blks aw (accOf o.op vs) = some bs)
    {r : Res} (h : opR std tt o.op vs bs n = some r) (hs : r.side) : OpDid P o a aw E n w r := by
  obtain ⟨dst, op, ty, pos, after, guard⟩ := o
  simp only at hvs hbs h
  unfold opR at h
  split at h
  · -- move
    rename_i x v
    cases h
    obtain ⟨u, e, hv⟩ := repVs_one (by simpa [Op.operands] using hvs)
    cases e
    exact op_move hW (.inl rfl) hv
  · rename_i x v
    cases h
    obtain ⟨u, e, hv⟩ := repVs_one (by simpa [Op.operands] using hvs)
    cases e
    exact op_move hW (.inr rfl) hv
  · rename_i t x v
    simp only [cond_eq_ite] at h
    split at h
    · rename_i hn
      cases h
      obtain ⟨u, e, hv⟩ := repVs_one (by simpa [Op.operands] using hvs)
      cases e
      exact op_box hW rfl hv hn
    · cases h
  · rename_i t
    split at h
    · rename_i ti hti
      cases h
      exact op_alloc hW (hTT.types _ _ hti) rfl
    · cases h
  · -- build
    rename_i t parts
    have hv : repVs E vs (parts.toList.map fun p => a.eval p.2) := by simpa [Op.operands, Function.comp_def] using hvs
    split at h
    · rename_i ti hti
      have hT := hTT.types _ _ hti
      split at h
      · rename_i fs htd
        split at h
        · rename_i l hl
          cases h
          obtain ⟨gs, h1, h2, h3⟩ := hT.struct htd
          refine op_build hW hT rfl (.inl ⟨gs, h1, h3, fun i o' s hp => ?_⟩) hv hl
          split at hp
          · rename_i o2 ft hof
            split at hp
            · rename_i tf htf
              cases hp
              obtain ⟨g, hg1, hg2, hg3⟩ := fsEq_get _ _ h2 _ _ _ hof
              obtain ⟨inf, _, _, hi, hsz, _⟩ := (hTT.types _ _ htf).info
              exact ⟨g, inf, hg1, by rw [hg3]; exact hi, hg2, hsz⟩
            · cases hp
          · cases hp
        · cases h
      · rename_i m e htd
        split at h
        · rename_i te hte
          split at h
          · rename_i l hl
            cases h
            obtain ⟨inf, _, _, hi, hsz, _⟩ := (hTT.types _ _ hte).info
            exact op_build hW hT rfl (.inr ⟨m, e, inf, hT.array htd, hi, fun i o' s hp => by cases hp; exact ⟨by rw [hsz]; rfl, hsz.symm⟩⟩) hv hl
          · cases h
        · cases h
      · cases h
    · cases h
  · -- buildSlice
    rename_i t len parts
    have hv : repVs E vs (parts.toList.map fun p => a.eval p.2) := by simpa [Op.operands, Function.comp_def] using hvs
    split at h
    · rename_i e te hsl
      obtain ⟨h1, h2⟩ := tdSlice_eq hTT.types hsl
      simp only [cond_eq_ite, Bool.and_eq_true, Bool.not_eq_true'] at h
      split at h
      · rename_i hc
        obtain ⟨⟨⟨⟨hz, hl⟩, hlv⟩, hin⟩, hsz⟩ := hc
        split at h
        · rename_i ds hds
          cases h
          exact op_buildSlice hW h1 h2 (by intro e; rw [e] at hz; cases hz) rfl hv (Nat.eq_of_beq_eq_true hl) (Nat.eq_of_beq_eq_true hlv) hin hsz hds hs
        · cases h
      · cases h
    · cases h
  · -- load
    rename_i t x v
    obtain ⟨u, e, hv⟩ := repVs_one (by simpa [Op.operands] using hvs)
    cases e
    split at h
    · rename_i ti hti
      exact op_load hW (hTT.types _ _ hti) rfl hv hbs h hs
    · cases h
  · -- store
    rename_i t x y v u
    obtain ⟨p, q, e, hv, hu⟩ := repVs_two (by simpa [Op.operands] using hvs)
    cases e
    split at h
    · rename_i ti hti
      exact op_store hW (hTT.types _ _ hti) rfl hv hu hbs h hs
    · cases h
  · -- nilCheck
    rename_i x v
    obtain ⟨u, e, hv⟩ := repVs_one (by simpa [Op.operands] using hvs)
    cases e
    have hp : ∃ p, a.eval x = .pointer (some p) := by
      split at h
      · simp only [repV] at hv; obtain ⟨_, _, h⟩ := hv; exact ⟨_, h⟩
      · simp only [repV] at hv; obtain ⟨_, _, _, h⟩ := hv; exact ⟨_, h⟩
      · simp only [repV] at hv; obtain ⟨_, _, h⟩ := hv; exact ⟨_, h⟩
      · simp only [repV] at hv; obtain ⟨_, _, _, _, _, h, _⟩ := hv; exact ⟨_, h⟩
      · cases h
    have hr : r = ⟨v, [], 0, True⟩ := by
      split at h <;> first | (cases h; rfl) | cases h
    subst hr
    exact op_nilCheck hW rfl hv hp
  · -- binOp
    rename_i b t x y t' v u
    obtain ⟨p, q, e, hv, hu⟩ := repVs_two (by simpa [Op.operands] using hvs)
    cases e
    split at h
    · split at h
      · rename_i ti hti
        simp only [cond_eq_ite, Bool.and_eq_true] at h
        split at h
        · rename_i hc
          obtain ⟨ks, hk, hk2, hg⟩ := hTT.eqs _ _ hti hc.2
          rw [hk] at h
          exact op_eqAgg hW (hTT.types _ _ hti) hc.1 hk2 hg rfl hv hu h
        · cases h
      · cases h
    · split at h
      · rename_i ti hti
        split at h
        · rename_i htd
          exact op_bin hW rfl hv hu h hs (fun z _ => (hTT.types _ _ hti).boolT htd)
        · cases h
      · cases h
    · rename_i hne1 hne2
      exact op_bin hW rfl hv hu h hs (fun z hz => absurd hz (hne2 z))
  · -- unOp
    rename_i u t x v
    obtain ⟨p, e, hv⟩ := repVs_one (by simpa [Op.operands] using hvs)
    cases e
    exact op_un hW rfl hv h
  · -- pick
    rename_i x y z c u v
    have hvs3 := hvs
    simp only [Op.operands, List.map_cons, List.map_nil, repVs] at hvs3
    obtain ⟨p1, q1, e1, hv, p2, q2, e2, hu, p3, q3, e3, hz, e4⟩ := hvs3
    cases e1; cases e2; cases e3
    exact op_pick hW rfl hv hu hz h hs
  · -- convert
    rename_i s t x v
    obtain ⟨p, e, hv⟩ := repVs_one (by simpa [Op.operands] using hvs)
    cases e
    split at h
    case h_2 => cases h
    rename_i si hsi
    split at h
    · rename_i k j y hk
      cases h
      unfold kindOf at hk
      split at hk
      · rename_i ti hti
        split at hk
        · rename_i k' htd
          cases hk
          exact op_convert hW (by obtain ⟨_, _, d, _, _, _, _, _, hd, _⟩ := (hTT.types _ _ hsi).info; exact ⟨d, hd⟩) ((hTT.types _ _ hti).int htd) rfl hv
        · cases hk
      · cases hk
    · cases h
  · -- field
    rename_i t x f v
    obtain ⟨p, e, hv⟩ := repVs_one (by simpa [Op.operands] using hvs)
    cases e
    split at h
    · rename_i ti hti
      split at h
      · rename_i fs htd
        split at h
        · rename_i off ft hof
          split at h
          · rename_i tf htf
            exact op_field hW (hTT.types _ _ hti) (hTT.types _ _ htf) htd hof rfl hv h
          · cases h
        · cases h
      · cases h
    · cases h
  · -- fieldAddr
    rename_i t x f v
    obtain ⟨p, e, hv⟩ := repVs_one (by simpa [Op.operands] using hvs)
    cases e
    split at h
    · rename_i ti hti
      split at h
      · rename_i fs htd
        split at h
        · rename_i off ft hof
          split at h
          · rename_i tf htf
            simp only [cond_eq_ite] at h
            split at h
            · cases h
            · rename_i hz
              exact op_fieldAddr hW (hTT.types _ _ hti) (hTT.types _ _ htf) htd hof (by intro e; rw [e] at hz; exact hz rfl) rfl hv h
          · cases h
        · cases h
      · cases h
    · cases h
  · -- indexAddr
    rename_i t x ix v i
    obtain ⟨p, q, e, hv, hu⟩ := repVs_two (by simpa [Op.operands] using hvs)
    cases e
    split at h
    · rename_i ti hti
      split at h
      · rename_i m e htd
        split at h
        · rename_i te hte
          exact op_indexAddr hW (hTT.types _ _ hte) (arr := some m) ((hTT.types _ _ hti).array htd) rfl hv hu h hs
        · cases h
      · rename_i e htd
        split at h
        · rename_i te hte
          exact op_indexAddr hW (hTT.types _ _ hte) (arr := none) ((hTT.types _ _ hti).slice htd) rfl hv hu h hs
        · cases h
      · cases h
    · cases h
  · -- index
    rename_i t x ix v i
    obtain ⟨p, q, e, hv, hu⟩ := repVs_two (by simpa [Op.operands] using hvs)
    cases e
    split at h
    · rename_i ti hti
      split at h
      · rename_i m e htd
        split at h
        · rename_i te hte
          exact op_index hW ((hTT.types _ _ hti).array htd) (hTT.types _ _ hte) rfl hv hu h hs
        · cases h
      · cases h
    · cases h
  · -- extract
    rename_i x i l
    obtain ⟨p, e, hv⟩ := repVs_one (by simpa [Op.operands] using hvs)
    cases e
    split at h
    · rename_i v hn
      cases h
      exact op_extract hW rfl hv hn
    · cases h
  · -- slice
    rename_i t x lo hi
    split at h
    · rename_i ti hti
      split at h
      · rename_i e htd
        split at h
        · rename_i te hte
          have ht := (hTT.types _ _ hti).slice htd
          have hE := hTT.types _ _ hte
          split at h
          · obtain ⟨p, e, hv⟩ := repVs_one (by simpa [Op.operands] using hvs)
            cases e
            exact op_slice hW ht hE rfl hv trivial trivial h hs
          · obtain ⟨p, q, e, hv, hu⟩ := repVs_two (by simpa [Op.operands] using hvs)
            cases e
            exact op_slice hW ht hE rfl hv hu trivial h hs
          · obtain ⟨p, q, e, hv, hu⟩ := repVs_two (by simpa [Op.operands] using hvs)
            cases e
            exact op_slice hW ht hE rfl hv trivial hu h hs
          · have hvs3 := hvs
            simp only [Op.operands, Option.toArray_some, Option.toArray_none, Array.toList_append, List.map_cons, List.map_nil, List.cons_append, List.nil_append, List.append_nil, repVs] at hvs3
            obtain ⟨p1, q1, e1, hv, p2, q2, e2, hu, p3, q3, e3, hz, e4⟩ := hvs3
            cases e1; cases e2; cases e3
            exact op_slice hW ht hE rfl hv hu hz h hs
          · cases h
        · cases h
      · rename_i m e htd
        split at h
        · rename_i te hte
          have ht := (hTT.types _ _ hti).array htd
          have hE := hTT.types _ _ hte
          split at h
          · obtain ⟨p, e, hv⟩ := repVs_one (by simpa [Op.operands] using hvs)
            cases e
            exact op_sliceArr hW ht hE rfl hv trivial h hs
          · obtain ⟨p, q, e, hv, hu⟩ := repVs_two (by simpa [Op.operands] using hvs)
            cases e
            exact op_sliceArr hW ht hE rfl hv hu h hs
          · cases h
        · cases h
      · cases h
    · cases h
  · -- makeSlice
    rename_i t x y l c
    obtain ⟨p, q, e, hv, hu⟩ := repVs_two (by simpa [Op.operands] using hvs)
    cases e
    split at h
    · rename_i e te hsl
      obtain ⟨h1, h2⟩ := tdSlice_eq hTT.types hsl
      simp only [cond_eq_ite] at h
      split at h
      · cases h
      · rename_i hz
        exact op_make hW h1 h2 rfl hv hu h hs (by intro e; rw [e] at hz; exact hz rfl)
    · cases h
  · -- makeFunc
    rename_i f first cap
    simp only [cond_eq_ite] at h
    split at h
    · rename_i hz
      cases h
      have hz := Nat.eq_of_beq_eq_true hz
      have hfe : first = #[] := Array.eq_empty_of_size_eq_zero hz
      exact op_makeFunc hW hz rfl (by subst hfe; simpa [Op.operands] using hvs)
    · cases h
  · -- len
    rename_i args ts x
    split at h
    · rename_i t hts
      split at h
      · rename_i ti hti
        split at h
        · rename_i e htd
          have h1 : ts = #[t] := Array.toList_inj.1 hts
          have h2 : repVs E [x] (args.toList.map a.eval) := by simpa [Op.operands, Call.operands] using hvs
          obtain ⟨u, he, hv⟩ := repVs_one h2
          obtain ⟨y, hy, rfl⟩ := List.map_eq_singleton_iff.1 he
          have h3 : args = #[y] := Array.toList_inj.1 hy
          subst h1 h3
          exact op_len hW ((hTT.types _ _ hti).slice htd) rfl hv h
        · cases h
      · cases h
    · cases h
  · -- append
    rename_i args ts s x
    split at h
    · rename_i t t' hts
      simp only [cond_eq_ite] at h
      split at h
      · rename_i hb
        have hb := Nat.eq_of_beq_eq_true hb
        subst hb
        split at h
        · rename_i e te hsl
          obtain ⟨h1, h2⟩ := tdSlice_eq hTT.types hsl
          split at h
          · cases h
          · rename_i hz
            have h3 : ts = #[t, t] := Array.toList_inj.1 hts
            have h4 : repVs E [s, x] (args.toList.map a.eval) := by simpa [Op.operands, Call.operands] using hvs
            obtain ⟨u, v, he, hu, hv⟩ := repVs_two h4
            have hl : args.toList.length = 2 := by have := congrArg List.length he; simpa using this
            obtain ⟨y, z, hyz⟩ : ∃ y z, args.toList = [y, z] := by
              match hh : args.toList, hl with
              | [y, z], _ => exact ⟨y, z, rfl⟩
            rw [hyz] at he
            cases he
            have h5 : args = #[y, z] := Array.toList_inj.1 hyz
            subst h3 h5
            exact op_append hW h1 h2 (by intro e; rw [e] at hz; exact hz rfl) rfl hu hv hbs h hs
        · cases h
      · split at h
        · rename_i k e te hk hsl
          obtain ⟨h1, h2⟩ := tdSlice_eq hTT.types hsl
          split at h
          · cases h
          · rename_i hz
            have hk' : P.underlying t' = some (.int k) := by
              unfold kindOf at hk
              split at hk
              · rename_i ti hti
                split at hk
                · rename_i k' htd
                  cases hk
                  exact (hTT.types _ _ hti).int htd
                · cases hk
              · cases hk
            have h3 : ts = #[t, t'] := Array.toList_inj.1 hts
            have h4 : repVs E [s, x] (args.toList.map a.eval) := by simpa [Op.operands, Call.operands] using hvs
            obtain ⟨u, v, he, hu, hv⟩ := repVs_two h4
            have hl : args.toList.length = 2 := by have := congrArg List.length he; simpa using this
            obtain ⟨y, z, hyz⟩ : ∃ y z, args.toList = [y, z] := by
              match hh : args.toList, hl with
              | [y, z], _ => exact ⟨y, z, rfl⟩
            rw [hyz] at he
            cases he
            have h5 : args = #[y, z] := Array.toList_inj.1 hyz
            subst h3 h5
            exact op_grow0 hW h1 hk' h2 (by intro e; rw [e] at hz; exact hz rfl) rfl hu hv h hs
        · cases h
    · cases h
  · -- min
    rename_i args ts
    exact op_two rfl hvs h (fun x y ha u v hu hv hr => by subst ha; exact op_minmax hW (mx := false) rfl hu hv hr)
  · -- max
    rename_i args ts
    exact op_two rfl hvs h (fun x y ha u v hu hv hr => by subst ha; exact op_minmax hW (mx := true) rfl hu hv hr)
  · -- cap of nil
    rename_i args ts
    split at h
    · rename_i t hts
      split at h
      · rename_i et hsl
        cases h
        obtain ⟨h1, _⟩ := tdSlice_eq (e := et.1) (te := et.2) hTT.types hsl
        have h4 : ts = #[t] := Array.toList_inj.1 hts
        have h2 : repVs E [.d .nils] (args.toList.map a.eval) := by simpa [Op.operands, Call.operands] using hvs
        obtain ⟨u, he, hv⟩ := repVs_one h2
        obtain ⟨y, hy, rfl⟩ := List.map_eq_singleton_iff.1 he
        have h3 : args = #[y] := Array.toList_inj.1 hy
        subst h3 h4
        simp only [repV, repD] at hv
        refine OpDid.pure hW (v := .int .i64 0) ?_ rfl (by simp only [repV, repD])
        rw [exec_builtin rfl]
        simp only [builtin, List.map_toArray, List.map_cons, List.map_nil, hv, Sem.run_bind]
        have : (Builtin.cap_ #[t] ty #[.slice none 0 0]).run P w = .ok (.int .i64 0) w := by
          simp [Builtin.cap_, run_underlying h1]; rfl
        rw [this]; rfl
      · cases h
    · cases h
  · -- copy
    rename_i args ts s x
    split at h
    · rename_i t t' hts
      simp only [cond_eq_ite] at h
      split at h
      · rename_i hb
        have hb := Nat.eq_of_beq_eq_true hb
        subst hb
        split at h
        · rename_i e te hsl
          obtain ⟨h1, h2⟩ := tdSlice_eq hTT.types hsl
          split at h
          · cases h
          · rename_i hz
            have h3 : ts = #[t, t] := Array.toList_inj.1 hts
            have h4 : repVs E [s, x] (args.toList.map a.eval) := by simpa [Op.operands, Call.operands] using hvs
            obtain ⟨u, v, he, hu, hv⟩ := repVs_two h4
            have hl : args.toList.length = 2 := by have := congrArg List.length he; simpa using this
            obtain ⟨y, z, hyz⟩ : ∃ y z, args.toList = [y, z] := by
              match hh : args.toList, hl with
              | [y, z], _ => exact ⟨y, z, rfl⟩
            rw [hyz] at he
            cases he
            have h5 : args = #[y, z] := Array.toList_inj.1 hyz
            subst h3 h5
            exact op_copy hW h1 h2 rfl hu hv hbs h hs
        · cases h
      · cases h
    · cases h
  · cases h
end
end Go.AX

namespace Go.AX
set_option autoImplicit false
set_option linter.unusedVariables false

def ofConst : Value → Option V
  | .int k n => some (.d (.int k n))
  | .bool b => some (.d (.bool b))
  | .string s => some (.d (.str s))
  | .slice none 0 0 => some (.d .nils)
  | .nilFunc => some (.d (.lit .nilFunc))
  | .pointer none => some (.d (.lit (.pointer none)))
  | .map none => some (.d (.lit (.map none)))
  | .nilIface => some (.d (.lit .nilIface))
  | _ => none

def St.ev (st : St) : Operand → Option V
  | .tmp t => look st.env t
  | .const v => ofConst v
  | .func f => some (.fn f [])
  | .global _ => none

def evs (st : St) : List Operand → Option (List V)
  | [] => some []
  | x :: t => match st.ev x, evs st t with
    | some v, some r => some (v :: r)
    | _, _ => none

/-- What an operation touches: the slot it writes, those it reads, blocks it looks at, blocks it writes, operations it waits for. -/
structure Fp where
  dst : Option Nat
  uses : List Nat
  acc : List Nat
  wr : List Nat
  pre : List Nat

def tmpsOf : List Operand → List Nat
  | [] => []
  | .tmp t :: r => t :: tmpsOf r
  | _ :: r => tmpsOf r

def memN : List Nat → Nat → Bool
  | [], _ => false
  | a :: t, x => Nat.beq a x || memN t x

def apartN : List Nat → List Nat → Bool
  | [], _ => true
  | a :: t, l => !memN l a && apartN t l

def optL : Option Nat → List Nat
  | none => []
  | some x => [x]

/-- Two operations whose order doesn't matter. -/
def Fp.apart (x y : Fp) : Bool :=
  apartN (optL x.dst) y.uses && apartN (optL y.dst) x.uses && apartN (optL x.dst) (optL y.dst) && apartN x.wr y.acc && apartN y.wr x.acc && apartN x.wr y.wr

/-- Of operations, told last first, each two that aren't ordered are apart. -/
def indep1 (y : Fp) : List Fp → Nat → Bool
  | [], _ => true
  | x :: t, n => (memN y.pre (t.length) || x.apart y) && indep1 y t n

def indep : List Fp → Bool
  | [] => true
  | y :: t => indep1 y t 0 && indep t

/-- The operations that one waits for, all of them. -/
def preds (acc : List Fp) : List Edge → List Nat
  | [] => []
  | e :: t => bif Region.binds .any e then e.on :: ((bif Nat.blt e.on acc.length then (match acc[Nat.sub (Nat.sub acc.length e.on) 1]? with | some f => f.pre | none => []) else []) ++ preds acc t) else preds acc t

def backE : List Edge → Nat → Bool
  | [], _ => true
  | e :: t, n => (!Region.binds .any e || Nat.blt e.on n) && backE t n

def backs : List Oper → Nat → Bool
  | [], _ => true
  | o :: t, n => backE o.after.toList n && backs t (Nat.succ n)

def Enters (P : Program) (g : FuncId) : Prop := ∃ fn, P.funcs[g]? = some fn ∧ (fn.name == "runtime.NumGoroutine") = false ∧ fn.body.isNone = false

def CallOK (P : Program) (g : FuncId) (vs : List V) (aw : List (Nat × Blk)) (acc : List Nat) (n : Nat) (r : Res) : Prop :=
  Enters P g ∧ ∀ (aw' : List (Nat × Blk)), (∀ i, memN acc i = true → look aw' i = look aw i) → ∀ (w0 : World) (M : Nat → Prop) (E : Emb) (w : World) (xs : Array Value), WR w0 M E aw' n w → (∀ i, n ≤ i → i < n + r.dn → E.ρ i = none) →
    repVs E vs xs.toList → Calls P g xs w (fun e w' => ∃ v E', e = .returned v ∧ Did aw' E n w r E' w' v)

structure CRes where
  res : Res
  acc : List Nat

inductive CallP (P : Program) (I : Prims) (g : FuncId) (vs : List V) (st : St) (K : CRes → Prop) : Prop
  | mk (r : CRes) (h : CallOK P g vs st.aw r.acc st.n r.res) (k : K r)

def keys {α : Type} : List (Nat × α) → List Nat
  | [] => []
  | (a, _) :: t => a :: keys t

def isCall : Op → Option (Operand × List Operand)
  | .call ⟨.value f, args, _⟩ => some (f, args.toList)
  | _ => none

def guseOf (ops : List Oper) : Option (Nat × Bool) → List Nat
  | none => []
  | some (j, _) => match ops[j]? with | some g => optL g.dst | none => []

def goOps (P : Program) (I : Prims) (tt : TT) (draw : Bool) (ops : List Oper) (Q : Exit → St → Prop) : List Oper → List Fp → St → Prop
  | [], acc, st => (match draw with | true => ∀ _ : Unit, (indep acc && backs ops 0) = true | false => True) ∧ Q .normal st
  | o :: rest, acc, st =>
    let pre := preds acc o.after.toList
    let guse := guseOf ops o.guard
    let run : Prop := match isCall o.op with
      | some (f, args) => (match st.ev f, evs st args with
          | some (.fn g caps), some vs => dstOk st o.dst = true ∧ CallP P I g (vs ++ caps) st (fun c => goOps P I tt draw ops Q rest (⟨o.dst, guse ++ tmpsOf (f :: args), c.acc, keys c.res.wr, pre⟩ :: acc) (st.app o.dst c.res))
          | _, _ => False)
      | none => (match evs st o.op.operands.toList with
          | some vs => (match nilOf tt draw o.op vs with
              | some (e, some n) => dstOk st o.dst = true ∧ ∀ b, (b = e → n = 0) → goOps P I tt draw ops Q rest (⟨o.dst, guse ++ tmpsOf o.op.operands.toList, [], [], pre⟩ :: acc) (st.app o.dst ⟨.d (.bool b), [], 0, True⟩)
              | some (e, none) => dstOk st o.dst = true ∧ goOps P I tt draw ops Q rest (⟨o.dst, guse ++ tmpsOf o.op.operands.toList, [], [], pre⟩ :: acc) (st.app o.dst ⟨.d (.bool e), [], 0, True⟩)
              | none => (match blks st.aw (accOf o.op vs) with
                  | some bs => (match opR I tt o.op vs bs st.n with
                      | some r => dstOk st o.dst = true ∧ r.side ∧ goOps P I tt draw ops Q rest (⟨o.dst, guse ++ tmpsOf o.op.operands.toList, accOf o.op vs, keys r.wr, pre⟩ :: acc) (st.app o.dst r)
                      | none => False)
                  | none => False))
          | none => False)
    let skip : Prop := dstOk st o.dst = true ∧ goOps P I tt draw ops Q rest (⟨o.dst, guse, [], [], pre⟩ :: acc) (st.app o.dst ⟨.tup [], [], 0, True⟩)
    match o.guard with
    | none => run
    | some (j, want) => (match ops[j]? with
        | some g => (match g.dst with
            | some d => (match look st.env d with
                | some (.d (.bool b)) => (b = want → run) ∧ (b = !want → skip)
                | some (.tup []) => skip
                | _ => False)
            | none => False)
        | none => False)

end Go.AX

namespace Go.AX
set_option autoImplicit false
set_option linter.unusedVariables false

section
variable {P : Program} {w0 : World} {M : Nat → Prop} {H0 : Nat → Option Obj} {tt : TT}

def QR (w0 : World) (M : Nat → Prop) (H0 : Nat → Option Obj) (Q : Exit → St → Prop) : Exit → Act → World → Prop :=
  fun e a w => ∃ E st, R w0 M H0 E st a w ∧ Q e st

theorem ofConst_rep {E : Emb} {c : Value} {v : V} (h : ofConst c = some v) : repV E v c := by
  unfold ofConst at h
  split at h <;> first
    | (cases h; done)
    | (cases h; simp [repV, repD]; done)
    | (cases h; simp [repV, repD, Value.oneCell']; done)

theorem ev_rep {E : Emb} {st : St} {a : Act} (hE : EnvOK E st.env a.tmps) {x : Operand} {v : V} (h : st.ev x = some v) : repV E v (a.eval x) := by
  cases x with
  | tmp t =>
    obtain ⟨u, hu, hr⟩ := hE t v h
    simp only [Act.eval]
    rw [show a.tmps.getD t undef = u by simp [Array.getD_eq_getD_getElem?, hu]]
    exact hr
  | const c => exact ofConst_rep h
  | func f => cases h; simp only [Act.eval, repV]; exact ⟨#[], rfl, by simp [repVs]⟩
  | global g => cases h

theorem evs_rep {E : Emb} {st : St} {a : Act} (hE : EnvOK E st.env a.tmps) : ∀ (l : List Operand) (vs : List V), evs st l = some vs → repVs E vs (l.map a.eval)
  | [], vs, h => by cases h; simp [repVs]
  | x :: t, vs, h => by
    simp only [evs] at h
    split at h
    · rename_i v r h1 h2
      cases h
      simp only [List.map_cons, repVs]
      exact ⟨_, _, rfl, ev_rep hE h1, evs_rep hE t r h2⟩
    · cases h

theorem repVs_append {E : Emb} : ∀ {l m : List V} {xs ys : List Value}, repVs E l xs → repVs E m ys → repVs E (l ++ m) (xs ++ ys)
  | [], m, xs, ys, h1, h2 => by simp only [repVs] at h1; subst h1; exact h2
  | v :: l, m, xs, ys, h1, h2 => by
    simp only [repVs] at h1
    obtain ⟨u, us, rfl, h3, h4⟩ := h1
    simp only [List.cons_append, repVs]
    exact ⟨u, _, rfl, h3, repVs_append h4 h2⟩

theorem exec_call {o : Oper} {a : Act} {w : World} {f : Operand} {args : Array Operand} {ts : Array TypeId} (ho : o.op = .call ⟨.value f, args, ts⟩) {g : FuncId} {cs : Array Value} (hf : a.eval f = .func (.func g) #[] cs) (hg : Enters P g) :
    (execOp a.eval o).run P w = .ok (.enter g (args.map a.eval ++ cs)) w := by
  obtain ⟨fn, h1, h2, h3⟩ := hg
  unfold execOp
  simp only [ho, resolve, hf, Deferred.ofValue, Sem.run_bind, Sem.run_pure, Result.andThen_ok, invoke, callFunc]
  have h2' : fn.name ≠ "runtime.NumGoroutine" := by simpa using h2
  have h3' : fn.body ≠ none := by intro e; rw [e] at h3; cases h3
  simp [h1, h2', h3']

theorem isCall_eq {op : Op} {f : Operand} {args : List Operand} (h : isCall op = some (f, args)) : ∃ ts, op = .call ⟨.value f, args.toArray, ts⟩ := by
  unfold isCall at h
  split at h
  · cases h; exact ⟨_, rfl⟩
  · cases h

theorem eqGuard_slice (w : World) (op : BinOp) (t : TypeId) (x y : Operand) (ad bd : Option Addr) (l c l' c' : Nat) : (eqGuard op t x y (.slice ad l c) (.slice bd l' c')).run P w = .ok () w := by
  cases op <;> simp [eqGuard]

theorem nil_run {E : Emb} {aw : List (Nat × Blk)} {n : Nat} {w : World} (hTT : TabOK P tt) (hW : WR w0 M E aw n w) {o : Oper} {a : Act} {vs : List V} (hvs : repVs E vs (o.op.operands.toList.map a.eval)) {e : Bool} {m : Option Nat} (h : nilOf tt false o.op vs = some (e, m)) :
    ∃ ad, (execOp a.eval o).run P w = .ok (.value (.bool (bif e then Option.isNone ad else !Option.isNone ad))) w ∧ (ad = none → ∀ q, m = some q → q = 0) ∧ (m = none → (ad : Option Addr) = none) := by
  obtain ⟨dst, op, ty, pos, after, guard⟩ := o
  simp only at hvs h
  unfold nilOf at h
  split at h
  case h_2 => cases h
  rename_i b t x y t' v _
  obtain ⟨p, q, ee, hv, hu⟩ := repVs_two (by simpa [Op.operands] using hvs)
  simp only [List.cons.injEq, and_true] at ee
  obtain ⟨rfl, rfl⟩ := ee
  split at h
  case h_2 => cases h
  rename_i et hsl
  obtain ⟨h1, _⟩ := tdSlice_eq (e := et.1) (te := et.2) hTT.types hsl
  simp only [repV, repD] at hu
  have hex : ∀ (ad : Option Addr) (l c : Nat), a.eval x = .slice ad l c → (execOp a.eval ⟨dst, .binOp .eql t x y t', ty, pos, after, guard⟩).run P w = .ok (.value (.bool ad.isNone)) w := by
    intro ad l c hx
    refine exec_value (do eqGuard .eql t x y (a.eval x) (a.eval y); binOp .eql t (a.eval x) (a.eval y)) (by unfold execOp; rfl) ?_
    rw [hx, hu]
    simp only [Sem.run_bind]
    rw [eqGuard_slice, Result.andThen_ok]
    exact Lib.run_eql_slice_nil w t _ ad l c 0 0 h1
  have hex' : ∀ (ad : Option Addr) (l c : Nat), a.eval x = .slice ad l c → (execOp a.eval ⟨dst, .binOp .neq t x y t', ty, pos, after, guard⟩).run P w = .ok (.value (.bool (!ad.isNone))) w := by
    intro ad l c hx
    refine exec_value (do eqGuard .neq t x y (a.eval x) (a.eval y); binOp .neq t (a.eval x) (a.eval y)) (by unfold execOp; rfl) ?_
    rw [hx, hu]
    simp only [Sem.run_bind]
    rw [eqGuard_slice, Result.andThen_ok]
    simp only [binOp]
    simp [Op.equal, Op.maxDepth, Lib.run_equalIn_slice_nil w 9999 t _ ad l c 0 0 h1]
  have lst : ∀ {cells : List D} {n : Nat}, repD E.H (.lst cells n) (a.eval x) → ∃ ad c, a.eval x = .slice ad n c ∧ (ad = none → n = 0) := by
    intro cells n hr
    simp only [repD] at hr
    obtain ⟨ad, cap, h3, _, h4⟩ := hr
    refine ⟨ad, cap, h3, fun hn => ?_⟩
    rcases h4 with h4 | ⟨p, _, _, _, h4, _⟩
    · exact h4
    · rw [hn] at h4; cases h4
  have own : ∀ {id n k : Nat}, repV E (.own id n k) (a.eval x) → ∃ ad c, a.eval x = .slice ad n c ∧ (ad = none → n = 0) := by
    intro id n k hr
    simp only [repV] at hr
    rcases hr with ⟨_, rfl, h3⟩ | ⟨b, cap, _, h3, _⟩
    · exact ⟨none, 0, h3, fun _ => rfl⟩
    · exact ⟨_, cap, h3, fun hn => by cases hn⟩
  split at h
  · cases h
    simp only [repV, repD] at hv
    exact ⟨none, hex none 0 0 hv, fun _ q hq => (by cases hq), fun _ => rfl⟩
  · cases h
    simp only [repV, repD] at hv
    exact ⟨none, hex' none 0 0 hv, fun _ q hq => (by cases hq), fun _ => rfl⟩
  · cases h
    simp only [repV] at hv
    obtain ⟨ad, c, h3, h4⟩ := lst hv
    exact ⟨ad, hex ad _ c h3, fun hn q hq => (by cases hq; exact h4 hn), fun hq => (by cases hq)⟩
  · cases h
    simp only [repV] at hv
    obtain ⟨ad, c, h3, h4⟩ := lst hv
    exact ⟨ad, hex' ad _ c h3, fun hn q hq => (by cases hq; exact h4 hn), fun hq => (by cases hq)⟩
  · cases h
    obtain ⟨ad, c, h3, h4⟩ := own hv
    exact ⟨ad, hex ad _ c h3, fun hn q hq => (by cases hq; exact h4 hn), fun hq => (by cases hq)⟩
  · cases h
    obtain ⟨ad, c, h3, h4⟩ := own hv
    exact ⟨ad, hex' ad _ c h3, fun hn q hq => (by cases hq; exact h4 hn), fun hq => (by cases hq)⟩
  · cases h

theorem nil_ok {E : Emb} {aw : List (Nat × Blk)} {n : Nat} {w : World} (hTT : TabOK P tt) (hW : WR w0 M E aw n w) {o : Oper} {a : Act} {vs : List V} (hvs : repVs E vs (o.op.operands.toList.map a.eval)) {e : Bool} {m : Option Nat} (h : nilOf tt false o.op vs = some (e, m)) :
    ∃ b, (b = e → ∀ q, m = some q → q = 0) ∧ (execOp a.eval o).run P w = .ok (.value (.bool b)) w := by
  obtain ⟨ad, h1, h2, _⟩ := nil_run hTT hW hvs h
  refine ⟨_, fun hb => ?_, h1⟩
  cases ad with
  | none => exact h2 rfl
  | some x => cases e <;> simp at hb

theorem nil_sure {E : Emb} {aw : List (Nat × Blk)} {n : Nat} {w : World} (hTT : TabOK P tt) (hW : WR w0 M E aw n w) {o : Oper} {a : Act} {vs : List V} (hvs : repVs E vs (o.op.operands.toList.map a.eval)) {e : Bool} (h : nilOf tt false o.op vs = some (e, none)) {b : Bool}
    (hb : (execOp a.eval o).run P w = .ok (.value (.bool b)) w) : e = b := by
  obtain ⟨ad, h1, _, h2⟩ := nil_run hTT hW hvs h
  rw [h1] at hb
  have := h2 rfl
  subst this
  cases e <;> simp at hb <;> simp [hb]

/-- One operation, whatever it is, done by the machine as told. -/
def Steps' (P : Program) (o : Oper) (aw : List (Nat × Blk)) (n : Nat) (r : Res) : Prop := True

theorem goOps_sound (hTT : TabOK P tt) {ops : List Oper} {Q : Exit → St → Prop} : ∀ (l : List Oper) (acc : List Fp) (st : St), goOps P std tt false ops Q l acc st →
    ∀ (E : Emb) (a : Act) (w : World), R w0 M H0 E st a w → wpList P ops.toArray (QR w0 M H0 Q) l a w
  | [], acc, st, h, E, a, w, hR => by
    simp only [goOps] at h
    exact ⟨E, st, hR, h.2⟩
  | o :: rest, acc, st, h, E, a, w, hR => by
    simp only [goOps] at h
    have skip : ∀ (accs : List Fp) (r : Res), r = ⟨.tup [], [], 0, True⟩ → dstOk st o.dst = true → goOps P std tt false ops Q rest accs (st.app o.dst r) → wpList P ops.toArray (QR w0 M H0 Q) rest (a.put o.dst undef) w := by
      rintro accs r rfl hd hk
      exact goOps_sound hTT rest accs _ hk E _ w (hR.app hd (Did.same hR.wr rfl (undef_rep E)))
    have run : (match isCall o.op with
      | some (f, args) => (match st.ev f, evs st args with
          | some (.fn g caps), some vs => dstOk st o.dst = true ∧ CallP P std g (vs ++ caps) st (fun c => goOps P std tt false ops Q rest (⟨o.dst, guseOf ops o.guard ++ tmpsOf (f :: args), c.acc, keys c.res.wr, preds acc o.after.toList⟩ :: acc) (st.app o.dst c.res))
          | _, _ => False)
      | none => (match evs st o.op.operands.toList with
          | some vs => (match nilOf tt false o.op vs with
              | some (e, some n) => dstOk st o.dst = true ∧ ∀ b, (b = e → n = 0) → goOps P std tt false ops Q rest (⟨o.dst, guseOf ops o.guard ++ tmpsOf o.op.operands.toList, [], [], preds acc o.after.toList⟩ :: acc) (st.app o.dst ⟨.d (.bool b), [], 0, True⟩)
              | some (e, none) => dstOk st o.dst = true ∧ goOps P std tt false ops Q rest (⟨o.dst, guseOf ops o.guard ++ tmpsOf o.op.operands.toList, [], [], preds acc o.after.toList⟩ :: acc) (st.app o.dst ⟨.d (.bool e), [], 0, True⟩)
              | none => (match blks st.aw (accOf o.op vs) with
                  | some bs => (match opR std tt o.op vs bs st.n with
                      | some r => dstOk st o.dst = true ∧ r.side ∧ goOps P std tt false ops Q rest (⟨o.dst, guseOf ops o.guard ++ tmpsOf o.op.operands.toList, accOf o.op vs, keys r.wr, preds acc o.after.toList⟩ :: acc) (st.app o.dst r)
                      | none => False)
                  | none => False))
          | none => False)) → o.wp P a w (wpList P ops.toArray (QR w0 M H0 Q) rest) (QR w0 M H0 Q) := by
      intro h
      split at h
      · rename_i f args hc
        obtain ⟨ts, ho⟩ := isCall_eq hc
        split at h
        · rename_i g caps vs hf hvs
          obtain ⟨hd, c, hok, hk⟩ := h
          have hfr := ev_rep hR.env hf
          simp only [repV] at hfr
          obtain ⟨cs, hfe, hcs⟩ := hfr
          have hargs := evs_rep hR.env args vs hvs
          obtain ⟨hent, hok⟩ := hok
          unfold Oper.wp
          rw [exec_call ho hfe hent]
          simp only [Oper.upon]
          refine (hok st.aw (fun _ _ => rfl) w0 M E w _ hR.wr (fun i h1 h2 => ?_) ?_).mono ?_
          · cases hx : E.ρ i with
            | none => rfl
            | some x => have := hR.lt i x hx; omega
          · have := repVs_append hargs hcs
            simpa using this
          · rintro e w' ⟨v, E', rfl, hd'⟩
            exact goOps_sound hTT rest _ _ hk E' _ w' (hR.app hd hd')
        · exact h.elim
      · split at h
        · rename_i vs hvs
          split at h
          · rename_i e n hno
            obtain ⟨hd, hk⟩ := h
            obtain ⟨b, hb, hrun⟩ := nil_ok hTT hR.wr (evs_rep hR.env _ _ hvs) hno
            have hnext := goOps_sound hTT rest _ _ (hk b (fun h => hb h n rfl)) E _ w (hR.app hd (Did.same (v := .bool b) hR.wr rfl (by simp only [repV, repD])))
            unfold Oper.wp
            rw [hrun]; exact hnext
          · rename_i e hno
            obtain ⟨hd, hk⟩ := h
            obtain ⟨b, hb, hrun⟩ := nil_ok hTT hR.wr (evs_rep hR.env _ _ hvs) hno
            have hbe := nil_sure hTT hR.wr (evs_rep hR.env _ _ hvs) hno hrun
            subst hbe
            have hnext := goOps_sound hTT rest _ _ hk E _ w (hR.app hd (Did.same (v := .bool e) hR.wr rfl (by simp only [repV, repD])))
            unfold Oper.wp
            rw [hrun]; exact hnext
          · split at h
            · rename_i bs hbs
              split at h
              · rename_i r hr
                obtain ⟨hd, hs, hk⟩ := h
                obtain ⟨E', w', v, hrun, hdid⟩ := op_ok hTT hR.wr (evs_rep hR.env _ _ hvs) hbs hr hs
                have hnext := goOps_sound hTT rest _ _ hk E' _ w' (hR.app hd hdid)
                unfold Oper.wp
                rcases hrun with hrun | ⟨hrun, rfl⟩
                · rw [hrun]; exact hnext
                · rw [hrun]; exact hnext
              · exact h.elim
            · exact h.elim
        · exact h.elim
    cases hg : o.guard with
    | none =>
      rw [hg] at h run
      refine wpList_step fun K hK => ?_
      rw [if_pos (by simp [Region.wanted, hg])]
      exact Oper.wp_mono hK (run h)
    | some jw =>
      obtain ⟨j, want⟩ := jw
      rw [hg] at h run
      refine wpList_step fun K hK => ?_
      simp only at h
      split at h
      · rename_i g hgj
        split at h
        · rename_i d hgd
          have hy : ∀ v, look st.env d = some v → ∃ u, a.tmps[d]? = some u ∧ repV E v u := fun v hv => hR.env d v hv
          have hops : ops.toArray[j]? = some g := by simpa using hgj
          split at h
          · rename_i b hb
            obtain ⟨u, hu, hr⟩ := hy _ hb
            simp only [repV, repD] at hr
            subst hr
            have hyd : yielded ops.toArray a.tmps j = some b := by
              simp [yielded, hops, hgd, hu]
            by_cases hbw : b = want
            · rw [if_pos (by simp [Region.wanted, hg, hyd, hbw])]
              exact Oper.wp_mono hK (run (h.1 hbw))
            · rw [if_neg (by simp [Region.wanted, hg, hyd, hbw])]
              have hbn : b = !want := by cases b <;> cases want <;> simp_all
              obtain ⟨hd, hk⟩ := h.2 hbn
              exact hK _ _ (skip _ _ rfl hd hk)
          · rename_i hb
            obtain ⟨u, hu, hr⟩ := hy _ hb
            simp only [repV, repVs] at hr
            obtain ⟨cs, rfl, hcs⟩ := hr
            have hyd : yielded ops.toArray a.tmps j = none := by
              simp [yielded, hops, hgd, hu]
            rw [if_neg (by simp [Region.wanted, hg, hyd])]
            obtain ⟨hd, hk⟩ := h
            exact hK _ _ (skip _ _ rfl hd hk)
          · exact h.elim
        · exact h.elim
      · exact h.elim
end
end Go.AX

namespace Go.AX
set_option autoImplicit false
set_option linter.unusedVariables false

def rev (f : List (Nat × Nat)) (j : Nat) : Option Nat :=
  match f with
  | [] => none
  | (a, b) :: t => bif Nat.beq b j then some a else rev t j

def news : List (Nat × Nat) → List Nat
  | [] => []
  | (_, b) :: t => b :: news t

def distinctN : List Nat → Bool
  | [] => true
  | a :: t => !memN t a && distinctN t

def allLt : List Nat → Nat → Bool
  | [], _ => true
  | a :: t, m => Nat.blt a m && allLt t m

mutual
/-- A value, of blocks that are renamed or let go. -/
def V.out (I : Prims) (f : List (Nat × Nat)) (aw : List (Nat × Blk)) : V → Option V
  | .d x => some (.d x)
  | .own id len k => (match look f id with
      | some j => some (.own j len k)
      | none => (match look aw id with | some (.row l _ _) => some (.d (.lst l len)) | _ => none))
  | .slc id off len k => (match look f id with
      | some j => some (.slc j off len k)
      | none => (match look aw id with | some (.row l _ _) => some (.d (.lst (I.drop l off) len)) | _ => none))
  | .sla id s m k len => (match look f id with
      | some j => some (.sla j s m k len)
      | none => (match look aw id with
          | some (.box l) => (match cut l s (Nat.mul m k) with
              | some c => (match flatD I c with | some ds => some (.d (.lst ds len)) | none => none)
              | none => none)
          | _ => none))
  | .ptr id off => (match look f id with | some j => some (.ptr j off) | none => none)
  | .px id s m k i q => (match look f id with | some j => some (.px j s m k i q) | none => none)
  | .pr id off => (match look f id with | some j => some (.pr j off) | none => none)
  | .lp l off => some (.lp l off)
  | .map id => (match look f id with | some j => some (.map j) | none => none)
  | .fn g caps => (match outs I f aw caps with | some r => some (.fn g r) | none => none)
  | .agg l => (match outs I f aw l with | some r => some (.agg r) | none => none)
  | .big n l => some (.big n l)
  | .tup l => (match outs I f aw l with | some r => some (.tup r) | none => none)
def outs (I : Prims) (f : List (Nat × Nat)) (aw : List (Nat × Blk)) : List V → Option (List V)
  | [] => some []
  | v :: t => match V.out I f aw v, outs I f aw t with
    | some a, some b => some (a :: b)
    | _, _ => none
end

def Blk.out (I : Prims) (f : List (Nat × Nat)) (aw : List (Nat × Blk)) : Blk → Option Blk
  | .box l => (match outs I f aw l with | some r => some (.box r) | none => none)
  | .row l k e => some (.row l k e)
  | .dead => none

def outEnv (I : Prims) (f : List (Nat × Nat)) (st : St) : List Nat → Option (List (Nat × V))
  | [] => some []
  | t :: r => match look st.env t with
    | some v => (match V.out I f st.aw v, outEnv I f st r with
        | some a, some b => some ((t, a) :: b)
        | _, _ => none)
    | none => none

def outAw (I : Prims) (f : List (Nat × Nat)) (st : St) : List (Nat × Nat) → Option (List (Nat × Blk))
  | [] => some []
  | (i, j) :: r => match look st.aw i with
    | some b => (match Blk.out I f st.aw b, outAw I f st r with
        | some a, some q => some ((j, a) :: q)
        | _, _ => none)
    | none => none

def St.view (I : Prims) (f : List (Nat × Nat)) (slots : List Nat) (m : Nat) (st : St) : Option St :=
  bif (distinctN (news f) && allLt (news f) m && distinctN (keys f)) then (match outEnv I f st slots, outAw I f st f with
    | some e, some a => some ⟨e, a, m, st.sz⟩
    | _, _ => none) else none

section
variable {P : Program} {w0 : World} {M : Nat → Prop} {H0 : Nat → Option Obj}

theorem memN_iff : ∀ (l : List Nat) (x : Nat), memN l x = true ↔ x ∈ l
  | [], x => by simp [memN]
  | a :: t, x => by
    simp only [memN, Bool.or_eq_true, List.mem_cons, memN_iff t x]
    constructor
    · rintro (h | h)
      · exact .inl (Nat.eq_of_beq_eq_true h).symm
      · exact .inr h
    · rintro (h | h)
      · exact .inl (by subst h; simp)
      · exact .inr h

theorem mem_of_look {α : Type} : ∀ {l : List (Nat × α)} {k : Nat} {x : α}, look l k = some x → (k, x) ∈ l
  | [], k, x, h => by cases h
  | (a, b) :: t, k, x, h => by
    rw [look_cons] at h
    split at h
    · rename_i e; cases h; subst e; exact List.mem_cons_self
    · exact List.mem_cons_of_mem _ (mem_of_look h)

theorem mem_news : ∀ {f : List (Nat × Nat)} {i j : Nat}, (i, j) ∈ f → j ∈ news f
  | (a, b) :: t, i, j, h => by
    rcases List.mem_cons.1 h with h | h
    · cases h; exact List.mem_cons_self
    · exact List.mem_cons_of_mem _ (mem_news h)

theorem mem_keys {α : Type} : ∀ {f : List (Nat × α)} {i : Nat} {x : α}, (i, x) ∈ f → i ∈ keys f
  | (a, b) :: t, i, j, h => by
    rcases List.mem_cons.1 h with h | h
    · cases h; exact List.mem_cons_self
    · exact List.mem_cons_of_mem _ (mem_keys h)

theorem keys_inj {α : Type} : ∀ {f : List (Nat × α)} {i : Nat} {x y : α}, distinctN (keys f) = true → (i, x) ∈ f → (i, y) ∈ f → x = y
  | (a, b) :: t, i, x, y, hd, h1, h2 => by
    simp only [keys, distinctN, Bool.and_eq_true, Bool.not_eq_true'] at hd
    have no : ∀ z, (a, z) ∈ t → False := by
      intro z hz
      have := (memN_iff _ _).2 (mem_keys hz)
      rw [hd.1] at this; cases this
    rcases List.mem_cons.1 h1 with h1 | h1 <;> rcases List.mem_cons.1 h2 with h2 | h2
    · cases h1; cases h2; rfl
    · cases h1; exact (no _ h2).elim
    · cases h2; exact (no _ h1).elim
    · exact keys_inj hd.2 h1 h2

theorem rev_cons (a b : Nat) (t : List (Nat × Nat)) (j : Nat) : rev ((a, b) :: t) j = if b = j then some a else rev t j := by
  simp only [rev]
  by_cases h : b = j
  · subst h; simp
  · have : Nat.beq b j = false := by
      cases hb : Nat.beq b j with
      | false => rfl
      | true => exact absurd (Nat.eq_of_beq_eq_true hb) h
    simp [this, h]

theorem rev_mem : ∀ {f : List (Nat × Nat)} {i j : Nat}, rev f j = some i → (i, j) ∈ f
  | [], i, j, h => by cases h
  | (a, b) :: t, i, j, h => by
    rw [rev_cons] at h
    split at h
    · rename_i e; cases h; subst e; exact List.mem_cons_self
    · exact List.mem_cons_of_mem _ (rev_mem h)

theorem rev_of_mem : ∀ {f : List (Nat × Nat)} {i j : Nat}, distinctN (news f) = true → (i, j) ∈ f → rev f j = some i
  | (a, b) :: t, i, j, hd, h => by
    simp only [news, distinctN, Bool.and_eq_true, Bool.not_eq_true'] at hd
    rw [rev_cons]
    rcases List.mem_cons.1 h with h | h
    · cases h; simp
    · have hne : b ≠ j := by
        rintro rfl
        have := (memN_iff _ _).2 (mem_news h)
        rw [hd.1] at this; cases this
      rw [if_neg hne]
      exact rev_of_mem hd.2 h

open Classical in
noncomputable def Emb.view (E : Emb) (f : List (Nat × Nat)) (aw : List (Nat × Blk)) (w : World) : Emb where
  ρ j := match rev f j with | some i => E.ρ i | none => none
  κ j := match rev f j with | some i => E.κ i | none => 0
  H b := match E.H b with
    | some o => some o
    | none => if ∃ i y, E.ρ i = some (some b) ∧ look aw i = some y ∧ y.live = true ∧ look f i = none then w.heap[b]? else none

variable {E : Emb} {f : List (Nat × Nat)} {aw : List (Nat × Blk)} {w : World} {n : Nat}

theorem view_ρ (hd : distinctN (news f) = true) {i j : Nat} (h : look f i = some j) : (E.view f aw w).ρ j = E.ρ i ∧ (E.view f aw w).κ j = E.κ i := by
  have := rev_of_mem hd (mem_of_look h)
  simp [Emb.view, this]

theorem view_H (b : Nat) (o : Obj) (h : E.H b = some o) : (E.view f aw w).H b = some o := by simp [Emb.view, h]

theorem view_frozen (hW : WR w0 M E aw n w) {i b : Nat} {y : Blk} (h1 : E.ρ i = some (some b)) (h2 : look aw i = some y) (h3 : y.live = true) (h4 : look f i = none) : (E.view f aw w).H b = w.heap[b]? := by
  have h5 := (hW.dom i b h1).1
  simp only [Emb.view, h5]
  rw [if_pos ⟨i, y, h1, h2, h3, h4⟩]

mutual
theorem out_rep (hW : WR w0 M E aw n w) (hd : distinctN (news f) = true) : ∀ (v v' : V), V.out std f aw v = some v' → ∀ x, repV E v x → repV (E.view f aw w) v' x
  | .d x, v', h => by
    intro u hu
    simp only [V.out] at h; cases h
    simp only [repV] at hu ⊢
    exact repD_mono view_H _ _ hu
  | .own id len k, v', h => by
    intro u hu
    simp only [V.out] at h
    simp only [repV] at hu
    split at h
    · rename_i j hj
      cases h
      obtain ⟨h1, h2⟩ := view_ρ (E := E) (aw := aw) (w := w) hd hj
      simp only [repV, h1, h2]
      exact hu
    · rename_i hj
      split at h
      · rename_i l k' e hl
        cases h
        simp only [repV, repD]
        rcases hu with ⟨h1, rfl, rfl⟩ | ⟨b, cap, h1, rfl, h3, h4, h5⟩
        · exact ⟨_, _, rfl, Nat.le_refl _, .inl rfl⟩
        · obtain ⟨c, g1, g2, g3, g4⟩ := row_of (hW.blk _ _ hl) h1
          refine ⟨_, _, rfl, h3, .inr ⟨_, c, e, _, rfl, rfl, (view_frozen hW h1 hl rfl hj).trans g1, ?_⟩⟩
          exact repDs_mono view_H _ _ (by simpa using g4)
      · cases h
  | .slc id off len k, v', h => by
    intro u hu
    simp only [V.out] at h
    simp only [repV] at hu
    split at h
    · rename_i j hj
      cases h
      obtain ⟨h1, h2⟩ := view_ρ (E := E) (aw := aw) (w := w) hd hj
      simp only [repV, h1]
      exact hu
    · rename_i hj
      split at h
      · rename_i l k' e hl
        cases h
        simp only [repV, repD]
        obtain ⟨b, cap, o, h1, rfl, h3, h4⟩ := hu
        obtain ⟨c, g1, g2, g3, g4⟩ := row_of (hW.blk _ _ hl) h1
        refine ⟨_, _, rfl, h3, ?_⟩
        by_cases h0 : len = 0
        · exact .inl h0
        · have := h4 h0; subst this
          exact .inr ⟨_, c, e, _, rfl, rfl, (view_frozen hW h1 hl rfl hj).trans g1, repDs_mono view_H _ _ (repDs_drop g4 _)⟩
      · cases h
  | .sla id s m k len, v', h => by
    intro u hu
    simp only [V.out] at h
    simp only [repV] at hu
    split at h
    · rename_i j hj
      cases h
      obtain ⟨h1, h2⟩ := view_ρ (E := E) (aw := aw) (w := w) hd hj
      simp only [repV, h1]
      exact hu
    · rename_i hj
      split at h
      · rename_i l hl
        split at h
        · rename_i c hc
          split at h
          · rename_i ds hds
            cases h
            simp only [repV, repD]
            obtain ⟨b, cap, o, h1, rfl, h3, h4, h5⟩ := hu
            obtain ⟨b', c', e, g1, g2, g3⟩ := hW.blk _ _ hl
            rw [h1] at g1; cases g1
            obtain ⟨g4, g5⟩ := cut_rep _ _ _ _ hc _ g3
            obtain ⟨g6, g7⟩ := flatD_rep hds g5
            refine ⟨_, _, rfl, h5, ?_⟩
            by_cases h0 : len = 0
            · exact .inl h0
            · have := h4 h0; subst this
              refine .inr ⟨_, c', e, _, rfl, rfl, (view_frozen hW h1 hl rfl hj).trans g2, repDs_mono view_H _ _ ?_⟩
              have := repDs_pre (us := (c'.toList.drop o).drop (Nat.mul m k)) g6
              rwa [List.take_append_drop] at this
          · cases h
        · cases h
      · cases h
  | .ptr id off, v', h => by
    intro u hu
    simp only [V.out] at h
    simp only [repV] at hu
    split at h
    · rename_i j hj
      cases h
      simp only [repV, (view_ρ (E := E) (aw := aw) (w := w) hd hj).1]
      exact hu
    · cases h
  | .px id s m k i q, v', h => by
    intro u hu
    simp only [V.out] at h
    simp only [repV] at hu
    split at h
    · rename_i j hj
      cases h
      simp only [repV, (view_ρ (E := E) (aw := aw) (w := w) hd hj).1]
      exact hu
    · cases h
  | .pr id off, v', h => by
    intro u hu
    simp only [V.out] at h
    simp only [repV] at hu
    split at h
    · rename_i j hj
      cases h
      simp only [repV, (view_ρ (E := E) (aw := aw) (w := w) hd hj).1]
      exact hu
    · cases h
  | .lp l off, v', h => by
    intro u hu
    simp only [V.out] at h; cases h
    simp only [repV] at hu ⊢
    obtain ⟨p, c, e, fz, base, h1, h2, h3, h4, h5⟩ := hu
    exact ⟨p, c, e, fz, base, h1, h2, view_H _ _ h3, h4, repDs_mono view_H _ _ h5⟩
  | .map id, v', h => by
    intro u hu
    simp only [V.out] at h
    simp only [repV] at hu
    split at h
    · rename_i j hj
      cases h
      simp only [repV, (view_ρ (E := E) (aw := aw) (w := w) hd hj).1]
      exact hu
    · cases h
  | .fn g caps, v', h => by
    intro u hu
    simp only [V.out] at h
    simp only [repV] at hu
    split at h
    · rename_i r hr
      cases h
      obtain ⟨cs, h1, h2⟩ := hu
      simp only [repV]
      exact ⟨cs, h1, outs_rep hW hd _ _ hr _ h2⟩
    · cases h
  | .agg l, v', h => by
    intro u hu
    simp only [V.out] at h
    simp only [repV] at hu
    split at h
    · rename_i r hr
      cases h
      obtain ⟨cs, h1, h2⟩ := hu
      simp only [repV]
      exact ⟨cs, h1, outsC_rep hW hd _ _ hr _ h2⟩
    · cases h
  | .big m l, v', h => by
    intro u hu
    simp only [repV] at hu
  | .tup l, v', h => by
    intro u hu
    simp only [V.out] at h
    simp only [repV] at hu
    split at h
    · rename_i r hr
      cases h
      obtain ⟨cs, h1, h2⟩ := hu
      simp only [repV]
      exact ⟨cs, h1, outs_rep hW hd _ _ hr _ h2⟩
    · cases h
theorem outs_rep (hW : WR w0 M E aw n w) (hd : distinctN (news f) = true) : ∀ (l l' : List V), outs std f aw l = some l' → ∀ xs, repVs E l xs → repVs (E.view f aw w) l' xs
  | [], l', h => by
    intro xs hx
    simp only [outs] at h; cases h
    simpa only [repVs] using hx
  | v :: t, l', h => by
    intro xs hx
    simp only [outs] at h
    split at h
    · rename_i a b ha hb
      cases h
      simp only [repVs] at hx ⊢
      obtain ⟨u, us, h1, h2, h3⟩ := hx
      exact ⟨u, us, h1, out_rep hW hd v a ha u h2, outs_rep hW hd t b hb us h3⟩
    · cases h
theorem outsC_rep (hW : WR w0 M E aw n w) (hd : distinctN (news f) = true) : ∀ (l l' : List V), outs std f aw l = some l' → ∀ xs, repC E l xs → repC (E.view f aw w) l' xs
  | [], l', h => by
    intro xs hx
    simp only [outs] at h; cases h
    simpa only [repC] using hx
  | v :: t, l', h => by
    intro xs hx
    simp only [outs] at h
    split at h
    · rename_i a b ha hb
      cases h
      simp only [repC] at hx ⊢
      rcases hx with ⟨m, l, ys, zs, rfl, h1, h2, h3, h4, h5⟩ | ⟨u, us, h1, h2, h3, h4⟩
      · simp only [V.out] at ha; cases ha
        exact .inl ⟨m, l, ys, zs, rfl, h1, h2, h3, repDs_mono view_H _ _ h4, outsC_rep hW hd t b hb zs h5⟩
      · exact .inr ⟨u, us, h1, h2, out_rep hW hd v a ha u h3, outsC_rep hW hd t b hb us h4⟩
    · cases h
end
theorem outEnv_look {st : St} : ∀ (slots : List Nat) (e : List (Nat × V)), outEnv std f st slots = some e → ∀ t v, look e t = some v → ∃ u, look st.env t = some u ∧ V.out std f st.aw u = some v
  | [], e, h => by simp only [outEnv] at h; cases h; intro t v h; cases h
  | s :: r, e, h => by
    simp only [outEnv] at h
    split at h
    · rename_i u hu
      split at h
      · rename_i a b ha hb
        cases h
        intro t v hv
        rw [look_cons] at hv
        split at hv
        · rename_i e; cases hv; subst e; exact ⟨u, hu, ha⟩
        · exact outEnv_look r b hb t v hv
      · cases h
    · cases h

theorem outAw_look {st : St} : ∀ (g : List (Nat × Nat)) (a : List (Nat × Blk)), outAw std f st g = some a → ∀ j b, look a j = some b → ∃ i y, (i, j) ∈ g ∧ look st.aw i = some y ∧ Blk.out std f st.aw y = some b
  | [], e, h => by simp only [outAw] at h; cases h; intro t v h; cases h
  | (i, j) :: r, e, h => by
    simp only [outAw] at h
    split at h
    · rename_i u hu
      split at h
      · rename_i a b ha hb
        cases h
        intro t v hv
        rw [look_cons] at hv
        split at hv
        · rename_i e; cases hv; subst e; exact ⟨i, u, List.mem_cons_self, hu, ha⟩
        · obtain ⟨i', y, h1, h2⟩ := outAw_look r b hb t v hv
          exact ⟨i', y, List.mem_cons_of_mem _ h1, h2⟩
      · cases h
    · cases h

theorem outAw_mem {st : St} : ∀ (g : List (Nat × Nat)) (a : List (Nat × Blk)), outAw std f st g = some a → ∀ i j, (i, j) ∈ g → ∃ y, look st.aw i = some y ∧ y.live = true
  | [], e, h => by intro i j h; cases h
  | (i, j) :: r, e, h => by
    simp only [outAw] at h
    split at h
    · rename_i u hu
      split at h
      · rename_i a b ha hb
        cases h
        intro i' j' hm
        rcases List.mem_cons.1 hm with hm | hm
        · cases hm
          refine ⟨u, hu, ?_⟩
          cases u <;> first | rfl | (simp only [Blk.out] at ha; cases ha)
        · exact outAw_mem r b hb i' j' hm
      · cases h
    · cases h

theorem allLt_mem : ∀ (l : List Nat) (m : Nat), allLt l m = true → ∀ x ∈ l, x < m
  | [], m, _ => by simp
  | a :: t, m, h => by
    simp only [allLt, Bool.and_eq_true] at h
    intro x hx
    rcases List.mem_cons.1 hx with rfl | hx
    · simpa using h.1
    · exact allLt_mem t m h.2 x hx

/-- A STATE SEEN ANEW holds of the same machine. -/
theorem view_at {st C : St} {a : Act} {slots : List Nat} {m : Nat} (hM : ∀ b, ¬ M b) (hR : R w0 M H0 E st a w) (h : St.view std f slots m st = some C) : R w0 M H0 (E.view f st.aw w) C a w := by
  unfold St.view at h
  simp only [cond_eq_ite, Bool.and_eq_true] at h
  split at h
  case isFalse => cases h
  rename_i hc
  obtain ⟨⟨hd, hm⟩, hdk⟩ := hc
  split at h
  case h_2 => cases h
  rename_i e q he hq
  cases h
  have hW := hR.wr
  have back : ∀ j x, (E.view f st.aw w).ρ j = some x → ∃ i y, (i, j) ∈ f ∧ E.ρ i = some x ∧ look st.aw i = some y ∧ y.live = true ∧ rev f j = some i := by
    intro j x hx
    cases hr : rev f j with
    | none => simp [Emb.view, hr] at hx
    | some i =>
      have hmem := rev_mem hr
      obtain ⟨y, hy, hyl⟩ := outAw_mem f q hq i j hmem
      exact ⟨i, y, hmem, by simpa [Emb.view, hr] using hx, hy, hyl, rfl⟩
  have key_look : ∀ i j, (i, j) ∈ f → ∃ j', look f i = some j' := by
    intro i j hij
    have : ∀ (g : List (Nat × Nat)), (i, j) ∈ g → ∃ j', look g i = some j' := by
      intro g
      induction g with
      | nil => intro h; cases h
      | cons p g ih =>
        obtain ⟨a, b⟩ := p
        intro h
        rw [look_cons]
        split
        · exact ⟨b, rfl⟩
        · rename_i hne
          rcases List.mem_cons.1 h with h | h
          · cases h; exact absurd rfl hne
          · exact ih h
    exact this f hij
  have hhnew : ∀ b o, (E.view f st.aw w).H b = some o → H0 b = some o ∨ w0.heap.size ≤ b := by
    intro b o hb
    simp only [Emb.view] at hb
    split at hb
    · rename_i o' ho; cases hb; exact hR.hnew b o ho
    · split at hb
      · rename_i hex
        obtain ⟨i, y, h1, _⟩ := hex
        exact .inr ((hW.dom i b h1).2.2.resolve_right (hM b))
      · cases hb
  refine ⟨?_, ⟨?_, ?_, ?_, ?_, ?_, hW.frame⟩, ?_, fun b o hb => view_H b o (hR.hle b o hb), hhnew, hR.sz, hR.dfs⟩
  · intro t v hv
    obtain ⟨u, h1, h2⟩ := outEnv_look slots e he t v hv
    obtain ⟨x, h3, h4⟩ := hR.env t u h1
    exact ⟨x, h3, out_rep hW hd u v h2 x h4⟩
  · intro j b hb
    obtain ⟨i, y, h1, h2, h3⟩ := outAw_look f q hq j b hb
    have hrev := rev_of_mem hd h1
    have hρ : (E.view f st.aw w).ρ j = E.ρ i := by simp [Emb.view, hrev]
    have hκ : (E.view f st.aw w).κ j = E.κ i := by simp [Emb.view, hrev]
    have hbk := hW.blk i y h2
    cases y with
    | dead => simp only [Blk.out] at h3; cases h3
    | row l k e =>
      simp only [Blk.out] at h3
      obtain rfl := Option.some.inj h3
      simp only [BlkOK, hρ, hκ]
      rcases hbk with hb | ⟨b, c, g1, g2, g3, g4, g5⟩
      · exact .inl hb
      · exact .inr ⟨b, c, g1, g2, g3, g4, repDs_mono view_H _ _ g5⟩
    | box l =>
      simp only [Blk.out] at h3
      split at h3
      · rename_i r hr
        obtain rfl := Option.some.inj h3
        obtain ⟨b, c, e, g1, g2, g3⟩ := hbk
        simp only [BlkOK, hρ]
        exact ⟨b, c, e, g1, g2, outsC_rep hW hd _ _ hr _ g3⟩
      · cases h3
  · intro b o hb
    simp only [Emb.view] at hb
    split at hb
    · rename_i o' ho; cases hb; exact hW.ro b o ho
    · split at hb
      · exact hb
      · cases hb
  · intro i j b x y h1 h2 h3 h4 h5 h6
    obtain ⟨i', x', g1, g2, g3, g4, g5⟩ := back i _ h5
    obtain ⟨j', y', k1, k2, k3, k4, k5⟩ := back j _ h6
    have := hW.inj i' j' b x' y' g3 g4 k3 k4 g2 k2
    subst this
    exact keys_inj hdk (rev_mem g5) (rev_mem k5)
  · intro j b hj
    obtain ⟨i, y, h1, h2, h3, h4, _⟩ := back j _ hj
    obtain ⟨h5, h6, h7⟩ := hW.dom i b h2
    refine ⟨?_, h6, h7⟩
    simp only [Emb.view, h5]
    rw [if_neg]
    rintro ⟨i', y', k1, k2, k3, k4⟩
    have := hW.inj i i' b y y' h3 h4 k2 k3 h2 k1
    subst this
    obtain ⟨j', hj'⟩ := key_look _ _ h1
    rw [k4] at hj'; cases hj'
  · cases hx : (E.view f st.aw w).ρ m with
    | none => rfl
    | some x =>
      obtain ⟨i, y, h1, _⟩ := back m x hx
      exact absurd (allLt_mem _ _ hm m (mem_news h1)) (Nat.lt_irrefl _)
  · intro j x hx
    obtain ⟨i, y, h1, _⟩ := back j x hx
    exact allLt_mem _ _ hm j (mem_news h1)

theorem view_ok {st C : St} {a : Act} {slots : List Nat} {m : Nat} (hM : ∀ b, ¬ M b) (hR : R w0 M H0 E st a w) (h : St.view std f slots m st = some C) : ∃ E', R w0 M H0 E' C a w :=
  ⟨_, view_at hM hR h⟩
end
end Go.AX

namespace Go.AX
set_option autoImplicit false
set_option linter.unusedVariables false

/-- A nil slice, taken for a row of one's own that holds nothing yet: in a slot, or in a variable's cell. -/
inductive Vt where
  | slot (t j k : Nat) (e : TypeId)
  | cell (i c j k : Nat) (e : TypeId)

def repl {α : Type} : List (Nat × α) → Nat → α → List (Nat × α)
  | [], _, _ => []
  | (a, b) :: t, k, x => bif Nat.beq a k then (a, x) :: t else (a, b) :: repl t k x

def setNth : List V → Nat → V → List V
  | [], _, _ => []
  | _ :: t, 0, x => x :: t
  | v :: t, n + 1, x => v :: setNth t n x

def isNils : V → Bool
  | .d .nils => true
  | _ => false

def St.virt (v : Vt) (st : St) : Option St :=
  match v with
  | .slot t j k e => (match look st.env t with
      | some x => bif (isNils x && Nat.ble st.n j) then some ⟨repl st.env t (.own j 0 k), st.aw ++ [(j, .row [] k e)], Nat.succ j, st.sz⟩ else none
      | none => none)
  | .cell i c j k e => (match look st.aw i with
      | some (.box l) => (match nthV l c with
          | some x => bif (isNils x && Nat.ble st.n j) then some ⟨st.env, repl st.aw i (.box (setNth l c (.own j 0 k))) ++ [(j, .row [] k e)], Nat.succ j, st.sz⟩ else none
          | none => none)
      | _ => none)

def St.virts : List Vt → St → Option St
  | [], st => some st
  | v :: t, st => match st.virt v with
    | some s => St.virts t s
    | none => none

def St.anew (I : Prims) (f : List (Nat × Nat)) (slots : List Nat) (m : Nat) (vs : List Vt) (st : St) : Option St :=
  match st.view I f slots m with
  | some s => s.virts vs
  | none => none

/-- A loop, its states told by parameters. -/
inductive LoopP (I : Prims) (body : (Exit → St → Prop) → St → Prop) (Q : Exit → St → Prop) (st : St) : Prop
  | mk (α : Type) (C : α → St) (μ : α → Nat) (slots : List Nat) (m0 : Nat) (f0 : List (Nat × Nat)) (vs : List Vt) (a0 : α) (start : St.anew I f0 slots m0 vs st = some (C a0))
      (round : ∀ a, body (fun e st' => match e with | .normal => ∃ a' f m, St.anew I f slots m [] st' = some (C a') ∧ μ a' < μ a | e => Q e st') (C a))

def awp (P : Program) (I : Prims) (tt : TT) : Code → (Exit → St → Prop) → St → Prop
  | .skip, Q, st => Q .normal st
  | .region _ ops draw, Q, st => goOps P I tt draw ops.toList Q ops.toList [] st
  | .seq a b, Q, st => awp P I tt a (fun e st => match e with | .normal => awp P I tt b Q st | e => Q e st) st
  | .cond c x y, Q, st => (match st.ev c with
      | some (.d (.bool b)) => (b = true → awp P I tt x Q st) ∧ (b = false → awp P I tt y Q st)
      | _ => False)
  | .block id c, Q, st => awp P I tt c (fun e st => match e with | .exit i => (bif Nat.beq i id then Q .normal st else Q (.exit i) st) | e => Q e st) st
  | .exit id, Q, st => Q (.exit id) st
  | .label _, Q, st => Q .normal st
  | .ret, Q, st => Q .ret st
  | .loop c, Q, st => LoopP I (awp P I tt c) Q st
  | _, _, _ => False

section
variable {P : Program} {w0 : World} {M : Nat → Prop} {H0 : Nat → Option Obj} {tt : TT} {E : Emb} {w : World} {n : Nat}

theorem look_repl {α : Type} : ∀ (l : List (Nat × α)) (k : Nat) (x : α) (q : Nat), look (repl l k x) q = if q = k then (look l k).map (fun _ => x) else look l q
  | [], k, x, q => by simp [repl, look]
  | (a, b) :: t, k, x, q => by
    by_cases h : a = k
    · subst h
      simp only [repl, Nat.beq_refl, cond_true, look_cons]
      by_cases hq : q = a
      · subst hq; simp
      · rw [if_neg (Ne.symm hq), if_neg hq, if_neg (Ne.symm hq)]
    · have hb : Nat.beq a k = false := by
        cases hb : Nat.beq a k with
        | false => rfl
        | true => exact absurd (Nat.eq_of_beq_eq_true hb) h
      simp only [repl, hb, cond_false, look_cons, look_repl t k x q]
      by_cases hq : q = k
      · subst hq; rw [if_neg h, if_pos rfl, if_pos rfl, if_neg h]
      · by_cases ha : a = q
        · subst ha; rw [if_pos rfl, if_neg hq, if_pos rfl]
        · rw [if_neg ha, if_neg hq, if_neg hq, if_neg ha]

theorem isNils_eq {x : V} (h : isNils x = true) : x = .d .nils := by
  unfold isNils at h
  split at h
  · rfl
  · cases h

theorem setNth_rep {j k : Nat} (hj : E.ρ j = none) : ∀ (l : List V) (c : Nat) (x : V), nthV l c = some x → x = .d .nils → ∀ cs, repC E l cs → repC (E.add j none 0) (setNth l c (.own j 0 k)) cs
  | [], c, x, h => by cases h
  | v :: t, c, x, h => by
    intro hx cs hc
    cases c with
    | zero =>
      cases h
      subst hx
      simp only [repC] at hc
      simp only [setNth, repC]
      rcases hc with ⟨n, l, a, b, e, _⟩ | ⟨u, us, rfl, h2, h3, h4⟩
      · cases e
      · refine .inr ⟨u, us, rfl, h2, ?_, repC_mono (Emb.le_add hj) _ _ h4⟩
        simp only [repV, repD] at h3 ⊢
        exact .inl ⟨Emb.add_new, by trivial, h3⟩
    | succ c =>
      obtain ⟨xs, ys, rfl, h1, h2, h3⟩ := repC_cons.1 hc
      exact repC_cons.2 ⟨xs, ys, rfl, h1, repC_mono (Emb.le_add hj) _ _ h2, setNth_rep hj t c x h hx ys h3⟩

theorem virt_ok {st C : St} {a : Act} {v : Vt} (hR : R w0 M H0 E st a w) (h : st.virt v = some C) : ∃ E', R w0 M H0 E' C a w := by
  have hW := hR.wr
  have free : ∀ j, st.n ≤ j → E.ρ j = none := by
    intro j hj
    cases hx : E.ρ j with
    | none => rfl
    | some x => have := hR.lt j x hx; omega
  have mk : ∀ (j k : Nat) (e : TypeId) (env : List (Nat × V)) (aw : List (Nat × Blk)), st.n ≤ j → EnvOK (E.add j none 0) env a.tmps →
      (∀ i b, look aw i = some b → BlkOK (E.add j none 0) i w b ∧ (b.live = true → ∃ b', look st.aw i = some b' ∧ b'.live = true)) → R w0 M H0 (E.add j none 0) ⟨env, aw ++ [(j, .row [] k e)], Nat.succ j, st.sz⟩ a w := by
    intro j k e env aw hj henv haw
    have hn := free j hj
    have hlk : ∀ i b, look (aw ++ [(j, Blk.row [] k e)]) i = some b → look aw i = some b ∨ (i = j ∧ b = .row [] k e) := by
      intro i b h
      rw [look_append] at h
      split at h
      · rename_i x hx; cases h; exact .inl hx
      · rw [look_cons] at h
        split at h
        · rename_i e; cases h; exact .inr ⟨e.symm, rfl⟩
        · cases h
    have old : ∀ i b, (E.add j none 0).ρ i = some (some b) → i ≠ j ∧ E.ρ i = some (some b) := by
      intro i b h
      by_cases hi : i = j
      · subst hi; rw [Emb.add_new] at h; cases h
      · rw [Emb.add_ne hi] at h; exact ⟨hi, h⟩
    refine ⟨henv, ⟨?_, hW.ro, ?_, ?_, ?_, hW.frame⟩, ?_, hR.hle, hR.hnew, hR.sz, hR.dfs⟩
    · intro i b h
      rcases hlk i b h with h | ⟨rfl, rfl⟩
      · exact (haw i b h).1
      · exact .inl ⟨Emb.add_new, rfl⟩
    · intro i i' b x y h1 h2 h3 h4 h5 h6
      obtain ⟨hi, h5⟩ := old _ _ h5
      obtain ⟨hi', h6⟩ := old _ _ h6
      rcases hlk i x h1 with h1 | ⟨rfl, _⟩
      · rcases hlk i' y h3 with h3 | ⟨rfl, _⟩
        · obtain ⟨x', g1, g2⟩ := (haw i x h1).2 h2
          obtain ⟨y', g3, g4⟩ := (haw i' y h3).2 h4
          exact hW.inj i i' b x' y' g1 g2 g3 g4 h5 h6
        · exact absurd rfl hi'
      · exact absurd rfl hi
    · intro i b h
      exact hW.dom i b (old _ _ h).2
    · show (E.add j none 0).ρ (Nat.succ j) = none
      rw [Emb.add_ne (by omega)]; exact free _ (by omega)
    · intro i x h
      show i < j + 1
      by_cases hi : i = j
      · omega
      · rw [Emb.add_ne hi] at h
        have := hR.lt i x h; omega
  unfold St.virt at h
  split at h
  · rename_i t j k e
    split at h
    · rename_i x hx
      simp only [cond_eq_ite, Bool.and_eq_true] at h
      split at h
      · rename_i hc
        cases h
        have hx' := isNils_eq hc.1
        subst hx'
        have hj := Nat.le_of_ble_eq_true hc.2
        refine ⟨_, mk j k e _ _ hj ?_ (fun i b hb => ⟨(hW.blk i b hb).keep (Emb.le_add (free j hj)) (fun _ _ => rfl), fun hl => ⟨b, hb, hl⟩⟩)⟩
        intro q y hy
        rw [look_repl] at hy
        split at hy
        · rename_i e'
          subst e'
          rw [hx] at hy; cases hy
          obtain ⟨u, hu, hr⟩ := hR.env q _ hx
          simp only [repV, repD] at hr
          refine ⟨u, hu, ?_⟩
          simp only [repV]
          exact .inl ⟨Emb.add_new, by trivial, hr⟩
        · obtain ⟨u, hu, hr⟩ := hR.env q y hy
          exact ⟨u, hu, repV_mono (Emb.le_add (free j hj)) _ _ hr⟩
      · cases h
    · cases h
  · rename_i i c j k e
    split at h
    · rename_i l hl
      split at h
      · rename_i x hx
        simp only [cond_eq_ite, Bool.and_eq_true] at h
        split at h
        · rename_i hc
          cases h
          have hx' := isNils_eq hc.1
          have hj := Nat.le_of_ble_eq_true hc.2
          refine ⟨_, mk j k e _ _ hj (hR.env.mono (Emb.le_add (free j hj))) (fun q b hb => ?_)⟩
          rw [look_repl] at hb
          split at hb
          · rename_i e'
            subst e'
            rw [hl] at hb; cases hb
            obtain ⟨b, cc, ee, h1, h2, h3⟩ := hW.blk _ _ hl
            exact ⟨⟨b, cc, ee, (Emb.le_add (free j hj)).1 _ _ h1, h2, setNth_rep (free j hj) l c x hx hx' _ h3⟩, fun _ => ⟨_, hl, rfl⟩⟩
          · exact ⟨(hW.blk q b hb).keep (Emb.le_add (free j hj)) (fun _ _ => rfl), fun hl => ⟨b, hb, hl⟩⟩
        · cases h
      · cases h
    · cases h

theorem virts_ok {a : Act} : ∀ (vs : List Vt) (st C : St) (E : Emb), R w0 M H0 E st a w → St.virts vs st = some C → ∃ E', R w0 M H0 E' C a w
  | [], st, C, E, hR, h => by cases h; exact ⟨E, hR⟩
  | v :: t, st, C, E, hR, h => by
    simp only [St.virts] at h
    split at h
    · rename_i s hs
      obtain ⟨E', hR'⟩ := virt_ok hR hs
      exact virts_ok t s C E' hR' h
    · cases h

theorem anew_ok {st C : St} {a : Act} {f : List (Nat × Nat)} {slots : List Nat} {m : Nat} {vs : List Vt} (hM : ∀ b, ¬ M b) (hR : R w0 M H0 E st a w) (h : st.anew std f slots m vs = some C) : ∃ E', R w0 M H0 E' C a w := by
  unfold St.anew at h
  split at h
  · rename_i s hs
    obtain ⟨E', hR'⟩ := view_ok hM hR hs
    exact virts_ok vs s C E' hR' h
  · cases h

/-- A loop whose states are told by a parameter that the machine doesn't hold. -/
theorem wp_loop_by {α : Type} {Q : Exit → Act → World → Prop} {c : Code} (J : α → Act → World → Prop) (μ : α → Nat) {a : Act} {w : World} (x0 : α) (h₀ : J x0 a w)
    (round : ∀ x a w, J x a w → c.wp P (Exit.then (fun a' w' => ∃ x', J x' a' w' ∧ μ x' < μ x) Q) a w) : (Code.loop c).wp P Q a w := by
  intro b k cs
  have key : ∀ n x a w, μ x = n → J x a w →
      ∃ e a' w', Q e a' w' ∧ Arrives P (lone (b.at a (.code c :: .inLoop c :: k)) cs w) b k cs e a' w' := by
    intro n
    induction n using Nat.strongRecOn with
    | _ n ih =>
      intro x a w hn hI
      obtain ⟨e, a₁, w₁, hq, harr⟩ := round x a w hI b (.inLoop c :: k) cs
      cases e with
      | normal =>
        obtain ⟨x', hI₁, hlt⟩ := hq
        obtain ⟨e₂, a₂, w₂, hq₂, harr₂⟩ := ih (μ x') (hn ▸ hlt) x' a₁ w₁ rfl hI₁
        exact ⟨e₂, a₂, w₂, hq₂, .of_steps (Steps.trans harr (.one step_inLoop)) harr₂⟩
      | exit id => exact ⟨_, a₁, w₁, hq, .pass (x := .inLoop c) rfl (fun _ _ => .inl (by simp)) harr⟩
      | goto l => exact ⟨_, a₁, w₁, hq, .pass (x := .inLoop c) rfl (fun _ _ => .inl (by simp)) harr⟩
      | ret => exact ⟨_, a₁, w₁, hq, .pass (x := .inLoop c) rfl (fun _ _ => .inl (by simp)) harr⟩
      | panic ch => exact ⟨_, a₁, w₁, hq, .pass (x := .inLoop c) rfl (fun _ _ => .inl (by simp)) harr⟩
      | outgrown => exact ⟨_, a₁, w₁, hq, .pass (x := .inLoop c) rfl (fun _ _ => .inl (by simp)) harr⟩
  obtain ⟨e, a', w', hq, harr⟩ := key _ x0 a w rfl h₀
  exact ⟨e, a', w', hq, .of_steps (.one step_loop) harr⟩

theorem awp_sound (hM : ∀ b, ¬ M b) (hTT : TabOK P tt)
    (hdraw : ∀ (id : Nat) (ops : Array Oper) (Q : Exit → St → Prop) (st : St), goOps P std tt true ops.toList Q ops.toList [] st → ∀ (E : Emb) (a : Act) (w : World), R w0 M H0 E st a w → (Code.region id ops true).wp P (QR w0 M H0 Q) a w) :
    ∀ (c : Code) (Q : Exit → St → Prop) (st : St), awp P std tt c Q st → ∀ (E : Emb) (a : Act) (w : World), R w0 M H0 E st a w → c.wp P (QR w0 M H0 Q) a w
  | .skip, Q, st, h, E, a, w, hR => wp_skip ⟨E, st, hR, h⟩
  | .region id ops draw, Q, st, h, E, a, w, hR => by
    cases draw with
    | false => exact wp_region_list (goOps_sound hTT _ _ _ h E a w hR)
    | true => exact hdraw id ops Q st h E a w hR
  | .seq x y, Q, st, h, E, a, w, hR => by
    refine wp_seq (wp_mono (awp_sound hM hTT hdraw x _ st h E a w hR) ?_)
    rintro e a' w' ⟨E', st', hR', hq⟩
    cases e with
    | normal => exact awp_sound hM hTT hdraw y Q st' hq E' a' w' hR'
    | exit id => exact ⟨E', st', hR', hq⟩
    | goto l => exact ⟨E', st', hR', hq⟩
    | ret => exact ⟨E', st', hR', hq⟩
    | panic ch => exact ⟨E', st', hR', hq⟩
    | outgrown => exact ⟨E', st', hR', hq⟩
  | .cond c x y, Q, st, h, E, a, w, hR => by
    simp only [awp] at h
    split at h
    · rename_i b hb
      have hc := ev_rep hR.env hb
      simp only [repV, repD] at hc
      exact wp_cond_split hc (fun hb => awp_sound hM hTT hdraw x Q st (h.1 hb) E a w hR) (fun hb => awp_sound hM hTT hdraw y Q st (h.2 hb) E a w hR)
    · exact h.elim
  | .block id c, Q, st, h, E, a, w, hR => by
    refine wp_block (wp_mono (awp_sound hM hTT hdraw c _ st h E a w hR) ?_)
    rintro e a' w' ⟨E', st', hR', hq⟩
    cases e with
    | exit i =>
      simp only [Exit.inBlock]
      simp only [cond_eq_ite] at hq
      by_cases hi : i = id
      · rw [if_pos hi]
        rw [if_pos (by subst hi; simp)] at hq
        exact ⟨E', st', hR', hq⟩
      · rw [if_neg hi]
        rw [if_neg (by intro e; exact hi (Nat.eq_of_beq_eq_true e))] at hq
        exact ⟨E', st', hR', hq⟩
    | normal => exact ⟨E', st', hR', hq⟩
    | goto l => exact ⟨E', st', hR', hq⟩
    | ret => exact ⟨E', st', hR', hq⟩
    | panic ch => exact ⟨E', st', hR', hq⟩
    | outgrown => exact ⟨E', st', hR', hq⟩
  | .exit id, Q, st, h, E, a, w, hR => wp_exit ⟨E, st, hR, h⟩
  | .label l, Q, st, h, E, a, w, hR => wp_label ⟨E, st, hR, h⟩
  | .ret, Q, st, h, E, a, w, hR => wp_ret ⟨E, st, hR, h⟩
  | .loop c, Q, st, h, E, a, w, hR => by
    simp only [awp] at h
    obtain ⟨α, C, μ, slots, m0, f0, vs, a0, start, round⟩ := h
    obtain ⟨E1, hR1⟩ := anew_ok hM hR start
    refine wp_loop_by (fun x a w => ∃ E, R w0 M H0 E (C x) a w) μ a0 ⟨E1, hR1⟩ ?_
    rintro x a' w' ⟨E', hR'⟩
    refine wp_mono (awp_sound hM hTT hdraw c _ (C x) (round x) E' a' w' hR') ?_
    rintro e a2 w2 ⟨E2, st2, hR2, hq⟩
    cases e with
    | normal =>
      obtain ⟨x', f, m, hv, hlt⟩ := hq
      obtain ⟨E3, hR3⟩ := anew_ok hM hR2 hv
      exact ⟨x', ⟨E3, hR3⟩, hlt⟩
    | exit id => exact ⟨E2, st2, hR2, hq⟩
    | goto l => exact ⟨E2, st2, hR2, hq⟩
    | ret => exact ⟨E2, st2, hR2, hq⟩
    | panic ch => exact ⟨E2, st2, hR2, hq⟩
    | outgrown => exact ⟨E2, st2, hR2, hq⟩
  | .goto _, Q, st, h, E, a, w, hR => by simp only [awp] at h
  | .scope _, Q, st, h, E, a, w, hR => by simp only [awp] at h
  | .rangeFunc .., Q, st, h, E, a, w, hR => by simp only [awp] at h
  | .refuse _, Q, st, h, E, a, w, hR => by simp only [awp] at h
end
end Go.AX

namespace Go.AX
set_option autoImplicit false
set_option linter.unusedVariables false

def E0 (H : Nat → Option Obj) : Emb := ⟨fun _ => none, fun _ => 0, H⟩

/-- A function that writes to nothing that was there: called with such values, it comes to that. -/
def Spec (P : Program) (g : FuncId) (args : List V) (r : Res) : Prop :=
  Enters P g ∧ ∀ (H : Nat → Option Obj) (w : World) (xs : Array Value), (∀ b o, H b = some o → w.heap[b]? = some o) → repVs (E0 H) args xs.toList →
    Calls P g xs w (fun e w' => ∃ v E', e = .returned v ∧ Did [] (E0 H) 0 w r E' w' v)

def resVal (tt : TT) (st : St) : ResultVar → Option V
  | .tmp t => look st.env t
  | .cell a t => (match look st.env a with
      | some (.ptr id off) => (match look st.aw id, tt t with
          | some (.box l), some ti => (match cut l off ti.size with
              | some c => asVal ti.agg c
              | none => none)
          | _, _ => none)
      | _ => none)

def resVals (tt : TT) (st : St) : List ResultVar → Option (List V)
  | [] => some []
  | x :: t => match resVal tt st x, resVals tt st t with
    | some a, some b => some (a :: b)
    | _, _ => none

def resV (tt : TT) (st : St) (rs : List ResultVar) : Option V :=
  match resVals tt st rs with
  | some [x] => some x
  | some l => some (.tup l)
  | none => none

inductive FinP (I : Prims) (tt : TT) (rs : List ResultVar) (st : St) (r : Res) : Prop
  | mk (vs : List Vt) (st' : St) (X : V) (f : List (Nat × Nat)) (h0 : St.virts vs st = some st') (hX : resV tt st' rs = some X) (h1 : V.out I f st'.aw X = some r.val) (h2 : St.view I f [] r.dn st' = some ⟨[], r.wr, r.dn, st'.sz⟩)

def Fin (I : Prims) (tt : TT) (rs : List ResultVar) (r : Res) : Exit → St → Prop
  | .normal, st => FinP I tt rs st r
  | .ret, st => FinP I tt rs st r
  | _, _ => False

def number : List V → Nat → List (Nat × V)
  | [], _ => []
  | v :: t, n => (n, v) :: number t (Nat.succ n)

section
variable {P : Program} {w0 : World} {M : Nat → Prop} {H0 : Nat → Option Obj} {tt : TT} {E : Emb} {w : World}

def resSem (tmps : Array Value) : ResultVar → Sem Value
  | .tmp t => pure (tmps.getD t undef)
  | .cell q t => do loadVar t (← asAddr (tmps.getD q undef))

theorem results_eq (fn : Func) (tmps : Array Value) : results fn tmps = (do
    let vs ← fn.results.mapM (resSem tmps)
    pure (if h : vs.size = 1 then vs[0] else .tuple vs)) := by
  unfold results
  congr 1

theorem resVal_run (hTT : TabOK P tt) {st : St} {a : Act} (hR : R w0 M H0 E st a w) {x : ResultVar} {X : V} (h : resVal tt st x = some X) :
    ∃ v, (resSem a.tmps x).run P w = .ok v w ∧ repV E X v := by
  have get : ∀ t v, look st.env t = some v → ∃ u, a.tmps.getD t undef = u ∧ repV E v u := by
    intro t v hv
    obtain ⟨u, hu, hr⟩ := hR.env t v hv
    exact ⟨u, by simp [Array.getD_eq_getD_getElem?, hu], hr⟩
  cases x with
  | tmp t =>
    obtain ⟨u, hu, hr⟩ := get t X h
    exact ⟨u, by simp only [resSem, hu, Sem.run_pure], hr⟩
  | cell q t =>
    simp only [resVal] at h
    split at h
    · rename_i id off hq
      obtain ⟨u, hu, hr⟩ := get q _ hq
      split at h
      · rename_i l ti hl hti
        split at h
        · rename_i c hc
          simp only [repV] at hr
          obtain ⟨b, h1, rfl⟩ := hr
          obtain ⟨b', cc, e, h2, h3, h4⟩ := hR.wr.blk _ _ hl
          rw [h1] at h2; cases h2
          have hT := hTT.types _ _ hti
          obtain ⟨h5, h6⟩ := cut_rep _ _ _ _ hc _ h4
          have hl6 := repC_len _ _ h6
          obtain ⟨v, h7, h8⟩ := asVal_load hT h3 (by rw [← hl6, List.length_take, List.length_drop]; omega) h6 h
          exact ⟨v, by simp only [resSem, hu, asAddr, Sem.run_bind, Sem.run_pure, Result.andThen_ok, h7], h8⟩
        · cases h
      · cases h
    · cases h

theorem resVals_run (hTT : TabOK P tt) {st : St} {a : Act} (hR : R w0 M H0 E st a w) : ∀ (rs : List ResultVar) (l : List V), resVals tt st rs = some l →
    ∃ vs, (rs.mapM (resSem a.tmps)).run P w = .ok vs w ∧ repVs E l vs
  | [], l, h => by cases h; exact ⟨[], by simp, by simp [repVs]⟩
  | x :: t, l, h => by
    simp only [resVals] at h
    split at h
    · rename_i p q hp hq
      cases h
      obtain ⟨v, h1, h2⟩ := resVal_run hTT hR hp
      obtain ⟨vs, h3, h4⟩ := resVals_run hTT hR t q hq
      refine ⟨v :: vs, ?_, by simp only [repVs]; exact ⟨v, vs, rfl, h2, h4⟩⟩
      simp only [List.mapM_cons, Sem.run_bind, h1, Result.andThen_ok, h3, Sem.run_pure]
    · cases h

theorem resV_run (hTT : TabOK P tt) {st : St} {a : Act} (hR : R w0 M H0 E st a w) {fn : Func} {X : V} (h : resV tt st fn.results.toList = some X) :
    ∃ v, (results fn a.tmps).run P w = .ok v w ∧ repV E X v := by
  unfold resV at h
  have key : ∀ l, resVals tt st fn.results.toList = some l → ∃ vs : List Value, repVs E l vs ∧ (results fn a.tmps).run P w = .ok (if h : vs.length = 1 then vs[0] else .tuple vs.toArray) w := by
    intro l hl
    obtain ⟨vs, h1, h2⟩ := resVals_run hTT hR _ l hl
    refine ⟨vs, h2, ?_⟩
    rw [results_eq, Array.mapM_eq_mapM_toList]
    simp [h1]
  split at h
  · rename_i x hx
    cases h
    obtain ⟨vs, h1, h2⟩ := key _ hx
    obtain ⟨u, rfl, h3⟩ := repVs_one h1
    exact ⟨u, by simpa using h2, h3⟩
  · rename_i l hne hl
    cases h
    obtain ⟨vs, h1, h2⟩ := key _ hl
    have hlen := repVs_len _ _ h1
    refine ⟨.tuple vs.toArray, ?_, by simp only [repV]; exact ⟨_, rfl, by simpa using h1⟩⟩
    rw [h2, dif_neg]
    intro h1'
    rw [hlen] at h1'
    obtain ⟨x, rfl⟩ := List.length_eq_one_iff.1 h1'
    exact hne x rfl
  · cases h

theorem number_look : ∀ (args : List V) (n : Nat) (t : Nat) (v : V), look (number args n) t = some v → n ≤ t ∧ args[t - n]? = some v
  | [], n, t, v, h => by cases h
  | x :: r, n, t, v, h => by
    simp only [number] at h
    rw [look_cons] at h
    split at h
    · rename_i e; cases h; subst e; simp
    · rename_i e
      obtain ⟨h1, h2⟩ := number_look r (n + 1) t v h
      refine ⟨by omega, ?_⟩
      rw [show t - n = (t - (n + 1)) + 1 by omega]
      simpa using h2

theorem repVs_get {E : Emb} : ∀ (l : List V) (vs : List Value), repVs E l vs → ∀ (i : Nat) (v : V), l[i]? = some v → ∃ u, vs[i]? = some u ∧ repV E v u
  | [], _, _ => by simp
  | x :: t, vs, h => by
    simp only [repVs] at h
    obtain ⟨u, us, rfl, h1, h2⟩ := h
    intro i v hv
    cases i with
    | zero => simp at hv; subst hv; exact ⟨u, by simp, h1⟩
    | succ i => simp at hv; simpa using repVs_get t us h2 i v hv

theorem spec_of_awp (hTT : TabOK P tt)
    (hdraw : ∀ (w0 : World) (H0 : Nat → Option Obj) (id : Nat) (ops : Array Oper) (Q : Exit → St → Prop) (st : St), goOps P std tt true ops.toList Q ops.toList [] st → ∀ (E : Emb) (a : Act) (w : World), R w0 (fun _ => False) H0 E st a w → (Code.region id ops true).wp P (QR w0 (fun _ => False) H0 Q) a w)
    {g : FuncId} {fn : Func} {c : Code} {args : List V} {r : Res} (hf : P.funcs[g]? = some fn) (hb : fn.body = some c) (hn : (fn.name == "runtime.NumGoroutine") = false)
    (hl : args.length ≤ fn.ntmps) (h : awp P std tt c (Fin std tt fn.results.toList r) ⟨number args 0, [], 0, fn.ntmps⟩) : Spec P g args r := by
  refine ⟨⟨fn, hf, hn, by rw [hb]; rfl⟩, fun H w xs hH hargs => ?_⟩
  have hlen := repVs_len _ _ hargs
  have hR : R w (fun _ => False) H (E0 H) ⟨number args 0, [], 0, fn.ntmps⟩ { tmps := xs ++ Array.replicate (fn.ntmps - xs.size) undef, defers := [] } w := by
    refine ⟨?_, ⟨fun i b h => (by cases h), hH, fun i j b x y h => (by cases h), fun i b h => (by cases h), rfl, ⟨rfl, rfl, rfl, Nat.le_refl _, fun _ _ _ => rfl⟩⟩, fun i x h => (by cases h), fun b o h => h, fun b o h => .inl h, ?_, rfl⟩
    · intro t v hv
      obtain ⟨_, h2⟩ := number_look args 0 t v hv
      obtain ⟨u, hu, hr⟩ := repVs_get _ _ hargs t v (by simpa using h2)
      refine ⟨u, ?_, hr⟩
      have hu' : xs[t]? = some u := by simpa using hu
      rw [Array.getElem?_append_left (Array.getElem?_eq_some_iff.1 hu').1]
      exact hu'
    · simp only [Array.size_append, Array.size_replicate]
      have : xs.size = args.length := by rw [← hlen]; simp
      show xs.size + (fn.ntmps - xs.size) = fn.ntmps
      omega
  have hwp := awp_sound (fun b h => h) hTT (hdraw w H) c _ _ h (E0 H) _ w hR
  refine calls_of_wp hf hb (wp_mono hwp ?_)
  rintro e a w' ⟨E, st, hR, hq⟩
  have fin : FinP std tt fn.results.toList st r → a.defers = [] ∧ ∃ v, (results fn a.tmps).run P w' = .ok v w' ∧ ∃ v' E', Ending.returned v = .returned v' ∧ Did [] (E0 H) 0 w r E' w' v' := by
    intro hq
    · obtain ⟨vs, st0, X, f, h0, hX, h1, h2⟩ := hq
      obtain ⟨E, hR⟩ := virts_ok vs st st0 E hR h0
      obtain ⟨v, h3, h4⟩ := resV_run hTT hR hX
      have hV := view_at (fun b h => h) hR h2
      have hd : distinctN (news f) = true := by
        unfold St.view at h2
        simp only [cond_eq_ite, Bool.and_eq_true] at h2
        split at h2
        · rename_i hc; exact hc.1.1
        · cases h2
      refine ⟨hR.dfs, v, h3, v, E.view f st0.aw w', rfl, ⟨?_, ?_, ?_, ?_, ?_, hV.wr.blk, out_rep hR.wr hd X _ h1 v h4⟩⟩
      · exact ⟨fun i x h => (by cases h), fun i x h => (by cases h), hV.hle⟩
      · intro b o hb
        rcases hV.hnew b o hb with h5 | h5
        · exact .inl h5
        · refine .inr ⟨h5, hV.wr.ro b o hb, fun i hi => ?_⟩
          rw [(hV.wr.dom i b hi).1] at hb; cases hb
      · intro i x hx
        refine .inr ⟨Nat.zero_le _, by rw [Nat.zero_add]; exact hV.lt i x hx, fun b hb => ?_⟩
        subst hb
        obtain ⟨_, h6, h7⟩ := hV.wr.dom i b hx
        exact .inl ⟨h7.resolve_right (fun h => h), h6⟩
      · intro i j b x y h1 h2 h3 h4 h5 h6
        rw [List.append_nil] at h1 h3
        exact hV.wr.inj i j b x y h1 h2 h3 h4 h5 h6
      · have fr := hV.wr.frame
        exact ⟨fun _ => False, ⟨fr.os, fr.tape, fr.output, fr.size, fun k hk _ => fr.block k hk (fun h => h)⟩, fun k hk => hk.elim⟩
  cases e with
  | normal => exact fin hq
  | ret => exact fin hq
  | exit id => exact hq.elim
  | goto l => exact hq.elim
  | panic ch => exact hq.elim
  | outgrown => exact hq.elim
end
end Go.AX

namespace Go.AX
set_option autoImplicit false
set_option linter.unusedVariables false

def shiftF (n : Nat) : Nat → List (Nat × Nat)
  | 0 => []
  | k + 1 => (k, Nat.add n k) :: shiftF n k

def shiftW (n dn : Nat) : List (Nat × Blk) → Option (List (Nat × Blk))
  | [] => some []
  | (i, .row l k e) :: t => bif Nat.blt i dn then (match shiftW n dn t with | some r => some ((Nat.add n i, .row l k e) :: r) | none => none) else none
  | _ => none

/-- A function's answer, its own blocks under a caller's numbers. -/
def shift (I : Prims) (n : Nat) (r : Res) : Option Res :=
  match V.out I (shiftF n r.dn) [] r.val, shiftW n r.dn r.wr with
  | some v, some w => some ⟨v, w, r.dn, True⟩
  | _, _ => none

def D.noL : D → Prop
  | .lst _ _ => False
  | _ => True

mutual
def V.noL : V → Prop
  | .d x => x.noL
  | .lp _ _ => False
  | .big _ l => ∀ d ∈ l, d.noL
  | .agg l => noLs l
  | .tup l => noLs l
  | .fn _ l => noLs l
  | _ => True
def noLs : List V → Prop
  | [] => True
  | v :: t => v.noL ∧ noLs t
end

def noLw : List (Nat × Blk) → Prop
  | [] => True
  | (_, .row l _ _) :: t => (∀ d ∈ l, d.noL) ∧ noLw t
  | _ => False

section
variable {P : Program} {w0 : World} {M : Nat → Prop} {H0 : Nat → Option Obj} {tt : TT} {E : Emb} {w : World} {n : Nat}

theorem repD_noL {H H' : Nat → Option Obj} {d : D} {v : Value} (h : d.noL) (hr : repD H d v) : repD H' d v := by
  cases d <;> first | exact h.elim | simpa only [repD] using hr

theorem repDs_noL {H H' : Nat → Option Obj} : ∀ (l : List D) (vs : List Value), (∀ d ∈ l, d.noL) → repDs H l vs → repDs H' l vs
  | [], _, _, _ => trivial
  | d :: t, vs, h, hr => by
    simp only [repDs] at hr ⊢
    obtain ⟨u, us, h1, h2, h3⟩ := hr
    exact ⟨u, us, h1, repD_noL (h d List.mem_cons_self) h2, repDs_noL t us (fun x hx => h x (List.mem_cons_of_mem _ hx)) h3⟩

/-- From one embedding to another one. -/
structure Moves (A B : Emb) (f : List (Nat × Nat)) (full : Prop) : Prop where
  ρ : ∀ i j, look f i = some j → B.ρ j = A.ρ i ∧ B.κ j = A.κ i
  H : full → ∀ b o, A.H b = some o → B.H b = some o

mutual
theorem move_rep {A B : Emb} {f : List (Nat × Nat)} {full : Prop} (hm : Moves A B f full) : ∀ (v v' : V), V.out std f [] v = some v' → (full ∨ v.noL) → ∀ x, repV A v x → repV B v' x
  | .d x, v', h, hn => by
    intro u hu
    simp only [V.out] at h; cases h
    simp only [repV] at hu ⊢
    rcases hn with hf | hn
    · exact repD_mono (hm.H hf) _ _ hu
    · simp only [V.noL] at hn; exact repD_noL hn hu
  | .own id len k, v', h, hn => by
    intro u hu
    simp only [V.out] at h
    split at h
    · rename_i j hj
      cases h
      obtain ⟨h1, h2⟩ := hm.ρ _ _ hj
      simp only [repV, h1, h2] at hu ⊢
      exact hu
    · simp only [look] at h; cases h
  | .slc id off len k, v', h, hn => by
    intro u hu
    simp only [V.out] at h
    split at h
    · rename_i j hj
      cases h
      simp only [repV, (hm.ρ _ _ hj).1] at hu ⊢
      exact hu
    · simp only [look] at h; cases h
  | .sla id s m k len, v', h, hn => by
    intro u hu
    simp only [V.out] at h
    split at h
    · rename_i j hj
      cases h
      simp only [repV, (hm.ρ _ _ hj).1] at hu ⊢
      exact hu
    · simp only [look] at h; cases h
  | .ptr id off, v', h, hn => by
    intro u hu
    simp only [V.out] at h
    split at h
    · rename_i j hj
      cases h
      simp only [repV, (hm.ρ _ _ hj).1] at hu ⊢
      exact hu
    · cases h
  | .px id s m k i q, v', h, hn => by
    intro u hu
    simp only [V.out] at h
    split at h
    · rename_i j hj
      cases h
      simp only [repV, (hm.ρ _ _ hj).1] at hu ⊢
      exact hu
    · cases h
  | .pr id off, v', h, hn => by
    intro u hu
    simp only [V.out] at h
    split at h
    · rename_i j hj
      cases h
      simp only [repV, (hm.ρ _ _ hj).1] at hu ⊢
      exact hu
    · cases h
  | .lp l off, v', h, hn => by
    intro u hu
    simp only [V.out] at h; cases h
    rcases hn with hf | hn
    · simp only [repV] at hu ⊢
      obtain ⟨p, c, e, fz, base, h1, h2, h3, h4, h5⟩ := hu
      exact ⟨p, c, e, fz, base, h1, h2, hm.H hf _ _ h3, h4, repDs_mono (hm.H hf) _ _ h5⟩
    · simp only [V.noL] at hn
  | .map id, v', h, hn => by
    intro u hu
    simp only [V.out] at h
    split at h
    · rename_i j hj
      cases h
      simp only [repV, (hm.ρ _ _ hj).1] at hu ⊢
      exact hu
    · cases h
  | .fn g caps, v', h, hn => by
    intro u hu
    simp only [V.out] at h
    simp only [repV] at hu
    split at h
    · rename_i r hr
      cases h
      obtain ⟨cs, h1, h2⟩ := hu
      simp only [repV]
      exact ⟨cs, h1, moves_rep hm _ _ hr (hn.imp id (fun h => by simpa only [V.noL] using h)) _ h2⟩
    · cases h
  | .agg l, v', h, hn => by
    intro u hu
    simp only [V.out] at h
    simp only [repV] at hu
    split at h
    · rename_i r hr
      cases h
      obtain ⟨cs, h1, h2⟩ := hu
      simp only [repV]
      exact ⟨cs, h1, movesC_rep hm _ _ hr (hn.imp id (fun h => by simpa only [V.noL] using h)) _ h2⟩
    · cases h
  | .big m l, v', h, hn => by
    intro u hu
    simp only [repV] at hu
  | .tup l, v', h, hn => by
    intro u hu
    simp only [V.out] at h
    simp only [repV] at hu
    split at h
    · rename_i r hr
      cases h
      obtain ⟨cs, h1, h2⟩ := hu
      simp only [repV]
      exact ⟨cs, h1, moves_rep hm _ _ hr (hn.imp id (fun h => by simpa only [V.noL] using h)) _ h2⟩
    · cases h
theorem moves_rep {A B : Emb} {f : List (Nat × Nat)} {full : Prop} (hm : Moves A B f full) : ∀ (l l' : List V), outs std f [] l = some l' → (full ∨ noLs l) → ∀ xs, repVs A l xs → repVs B l' xs
  | [], l', h, hn => by
    intro xs hx
    simp only [outs] at h; cases h
    simpa only [repVs] using hx
  | v :: t, l', h, hn => by
    intro xs hx
    simp only [outs] at h
    split at h
    · rename_i a b ha hb
      cases h
      simp only [repVs] at hx ⊢
      obtain ⟨u, us, h1, h2, h3⟩ := hx
      have hn1 : full ∨ v.noL := hn.imp id (fun h => by simp only [noLs] at h; exact h.1)
      have hn2 : full ∨ noLs t := hn.imp id (fun h => by simp only [noLs] at h; exact h.2)
      exact ⟨u, us, h1, move_rep hm v a ha hn1 u h2, moves_rep hm t b hb hn2 us h3⟩
    · cases h
theorem movesC_rep {A B : Emb} {f : List (Nat × Nat)} {full : Prop} (hm : Moves A B f full) : ∀ (l l' : List V), outs std f [] l = some l' → (full ∨ noLs l) → ∀ xs, repC A l xs → repC B l' xs
  | [], l', h, hn => by
    intro xs hx
    simp only [outs] at h; cases h
    simpa only [repC] using hx
  | v :: t, l', h, hn => by
    intro xs hx
    simp only [outs] at h
    split at h
    · rename_i a b ha hb
      cases h
      have hn1 : full ∨ v.noL := hn.imp id (fun h => by simp only [noLs] at h; exact h.1)
      have hn2 : full ∨ noLs t := hn.imp id (fun h => by simp only [noLs] at h; exact h.2)
      simp only [repC] at hx ⊢
      rcases hx with ⟨m, l, ys, zs, rfl, h1, h2, h3, h4, h5⟩ | ⟨u, us, h1, h2, h3, h4⟩
      · simp only [V.out] at ha; cases ha
        refine .inl ⟨m, l, ys, zs, rfl, h1, h2, h3, ?_, movesC_rep hm t b hb hn2 zs h5⟩
        rcases hn1 with hf | hn1
        · exact repDs_mono (hm.H hf) _ _ h4
        · simp only [V.noL] at hn1; exact repDs_noL _ _ hn1 h4
      · exact .inr ⟨u, us, h1, h2, move_rep hm v a ha hn1 u h3, movesC_rep hm t b hb hn2 us h4⟩
    · cases h
end

theorem look_shiftF (n : Nat) : ∀ (k i j : Nat), look (shiftF n k) i = some j → j = n + i ∧ i < k
  | 0, i, j, h => by cases h
  | k + 1, i, j, h => by
    simp only [shiftF] at h
    rw [look_cons] at h
    split at h
    · rename_i e; cases h; subst e; exact ⟨rfl, Nat.lt_succ_self _⟩
    · obtain ⟨h1, h2⟩ := look_shiftF n k i j h; exact ⟨h1, by omega⟩

theorem look_shiftW {n dn : Nat} : ∀ (l l' : List (Nat × Blk)), shiftW n dn l = some l' → ∀ i b, look l' i = some b → n ≤ i ∧ i - n < dn ∧ ∃ l0 k e, b = .row l0 k e ∧ look l (i - n) = some (.row l0 k e)
  | [], l', h => by cases h; intro i b h; cases h
  | (i0, .row l0 k0 e0) :: t, l', h => by
    simp only [shiftW, cond_eq_ite] at h
    split at h
    · rename_i hlt
      split at h
      · rename_i r hr
        cases h
        intro i b hi
        rw [look_cons] at hi
        split at hi
        · rename_i e
          cases hi
          subst e
          have hlt' : i0 < dn := by simpa using hlt
          refine ⟨Nat.le_add_right _ _, by show n + i0 - n < dn; omega, l0, k0, e0, rfl, ?_⟩
          rw [look_cons, if_pos (by show i0 = n + i0 - n; omega)]
        · rename_i hne
          obtain ⟨h1, h2, l1, k1, e1, h3, h4⟩ := look_shiftW t r hr i b hi
          refine ⟨h1, h2, l1, k1, e1, h3, ?_⟩
          rw [look_cons, if_neg, h4]
          intro e
          apply hne
          show n + i0 = i
          omega
      · cases h
    · cases h
  | (_, .box _) :: t, l', h => by simp only [shiftW] at h; cases h
  | (_, .dead) :: t, l', h => by simp only [shiftW] at h; cases h

theorem noLw_look : ∀ (l : List (Nat × Blk)), noLw l → ∀ i l0 k e, look l i = some (.row l0 k e) → ∀ d ∈ l0, d.noL
  | [], _, i, l0, k, e, h => by cases h
  | (j, .row l1 k1 e1) :: t, hn, i, l0, k, e, h => by
    simp only [noLw] at hn
    rw [look_cons] at h
    split at h
    · cases h; exact hn.1
    · exact noLw_look t hn.2 i l0 k e h
  | (_, .box _) :: t, hn, _, _, _, _, _ => by simp only [noLw] at hn
  | (_, .dead) :: t, hn, _, _, _, _, _ => by simp only [noLw] at hn

open Classical in
noncomputable def Emb.join (E C : Emb) (n dn S : Nat) : Emb where
  ρ i := if n ≤ i ∧ i < n + dn then C.ρ (i - n) else E.ρ i
  κ i := if n ≤ i ∧ i < n + dn then C.κ (i - n) else E.κ i
  H b := if b < S then E.H b else C.H b

/-- What a callee came to, in its caller's words. -/
theorem did_join {aw : List (Nat × Blk)} (hW : WR w0 M E aw n w) {r r' : Res} (hfree : ∀ i, n ≤ i → i < n + r.dn → E.ρ i = none) {Hc : Nat → Option Obj} (hHc : ∀ b o, Hc b = some o → w.heap[b]? = some o)
    {C : Emb} {w' : World} {v : Value} (hD : Did [] (AX.E0 Hc) 0 w r C w' v) (hs : shift std n r = some r') (hT : (∀ b, Hc b = E.H b) ∨ (r.val.noL ∧ noLw r.wr)) : Did aw E n w r' (E.join C n r.dn w.heap.size) w' v := by
  unfold shift at hs
  split at hs
  case h_2 => cases hs
  rename_i X W hX hWr
  cases hs
  obtain ⟨S, hg, hS⟩ := hD.grown
  have hS0 : ∀ k, ¬ S k := by intro k hk; obtain ⟨i, y, h1, _⟩ := hS k hk; cases h1
  have Cnew : ∀ i x, C.ρ i = some x → i < r.dn ∧ ∀ b, x = some b → w.heap.size ≤ b ∧ b < w'.heap.size := by
    intro i x hx
    rcases hD.new i x hx with h | ⟨_, h1, h2⟩
    · cases h
    · refine ⟨by omega, fun b hb => ?_⟩
      rcases h2 b hb with h3 | ⟨j, hj⟩
      · exact h3
      · cases hj
  have inR : ∀ i, n ≤ i ∧ i < n + r.dn → (E.join C n r.dn w.heap.size).ρ i = C.ρ (i - n) ∧ (E.join C n r.dn w.heap.size).κ i = C.κ (i - n) := by
    intro i hi; simp [Emb.join, hi]
  have outR : ∀ i, ¬ (n ≤ i ∧ i < n + r.dn) → (E.join C n r.dn w.heap.size).ρ i = E.ρ i ∧ (E.join C n r.dn w.heap.size).κ i = E.κ i := by
    intro i hi; simp only [Emb.join]; rw [if_neg hi, if_neg hi]; exact ⟨rfl, rfl⟩
  have old : ∀ i x, E.ρ i = some x → ¬ (n ≤ i ∧ i < n + r.dn) := by
    rintro i x hx ⟨h1, h2⟩
    rw [hfree i h1 h2] at hx; cases hx
  have hle : EmbLe E (E.join C n r.dn w.heap.size) := by
    refine ⟨fun i x hx => by rw [(outR i (old i x hx)).1]; exact hx, fun i x hx => (outR i (old i x hx)).2, fun b o hb => ?_⟩
    have := (Array.getElem?_eq_some_iff.1 (hW.ro b o hb)).1
    simp [Emb.join, this, hb]
  have hmv : Moves C (E.join C n r.dn w.heap.size) (shiftF n r.dn) (∀ b, Hc b = E.H b) := by
    refine ⟨fun i j hij => ?_, fun hf b o hb => ?_⟩
    · obtain ⟨rfl, hi⟩ := look_shiftF n _ i j hij
      have := inR (n + i) ⟨by omega, by omega⟩
      rwa [show n + i - n = i by omega] at this
    · rcases hD.h b o hb with h1 | ⟨h1, _⟩
      · have h2 := (Array.getElem?_eq_some_iff.1 (hHc b o h1)).1
        simp only [Emb.join]
        rw [if_pos h2, ← hf b]; exact h1
      · simp only [Emb.join]
        rw [if_neg (by omega)]; exact hb
  refine ⟨hle, ?_, ?_, ?_, ⟨S, hg, fun k hk => (hS0 k hk).elim⟩, ?_, move_rep hmv _ _ hX (hT.imp id (·.1)) _ hD.val⟩
  · intro b o hb
    simp only [Emb.join] at hb
    split at hb
    · exact .inl hb
    · rename_i hsz
      rcases hD.h b o hb with h1 | ⟨h1, h2, h3⟩
      · have := (Array.getElem?_eq_some_iff.1 (hHc b o h1)).1
        exact absurd this hsz
      · refine .inr ⟨h1, h2, fun i hi => ?_⟩
        by_cases hr : n ≤ i ∧ i < n + r.dn
        · rw [(inR i hr).1] at hi; exact h3 _ hi
        · rw [(outR i hr).1] at hi
          have := (hW.dom i b hi).2.1; omega
  · intro i x hx
    by_cases hr : n ≤ i ∧ i < n + r.dn
    · rw [(inR i hr).1] at hx
      exact .inr ⟨hr.1, hr.2, fun b hb => .inl ((Cnew _ _ hx).2 b hb)⟩
    · rw [(outR i hr).1] at hx; exact .inl hx
  · intro i j b x y h1 h2 h3 h4 h5 h6
    have up : ∀ i x, look (W ++ aw) i = some x → x.live = true → (n ≤ i ∧ i < n + r.dn) → ∃ z, look (r.wr ++ []) (i - n) = some z ∧ z.live = true := by
      intro i x h hl hr
      rw [look_append] at h
      split at h
      · rename_i q hq
        obtain ⟨_, _, l0, k, e, _, h7⟩ := look_shiftW _ _ hWr i q hq
        exact ⟨_, by rw [List.append_nil]; exact h7, rfl⟩
      · have hb := hW.blk i x h
        have hn := hfree i hr.1 hr.2
        cases x with
        | row l k e =>
          rcases hb with ⟨h1, _⟩ | ⟨_, _, h1, _⟩ <;> (rw [hn] at h1; cases h1)
        | box l => obtain ⟨_, _, _, h1, _⟩ := hb; rw [hn] at h1; cases h1
        | dead => cases hl
    have down : ∀ i x, look (W ++ aw) i = some x → ¬ (n ≤ i ∧ i < n + r.dn) → look aw i = some x := by
      intro i x h hr
      rw [look_append] at h
      split at h
      · rename_i q hq
        obtain ⟨h7, h8, _⟩ := look_shiftW _ _ hWr i q hq
        exact absurd ⟨h7, by omega⟩ hr
      · exact h
    by_cases hi : n ≤ i ∧ i < n + r.dn <;> by_cases hj : n ≤ j ∧ j < n + r.dn
    · rw [(inR i hi).1] at h5
      rw [(inR j hj).1] at h6
      obtain ⟨x', g1, g2⟩ := up i x h1 h2 hi
      obtain ⟨y', g3, g4⟩ := up j y h3 h4 hj
      have := hD.inj (i - n) (j - n) b x' y' g1 g2 g3 g4 h5 h6
      omega
    · rw [(inR i hi).1] at h5
      rw [(outR j hj).1] at h6
      have := (Cnew _ _ h5).2 b rfl
      have := (hW.dom j b h6).2.1; omega
    · rw [(outR i hi).1] at h5
      rw [(inR j hj).1] at h6
      have := (Cnew _ _ h6).2 b rfl
      have := (hW.dom i b h5).2.1; omega
    · rw [(outR i hi).1] at h5
      rw [(outR j hj).1] at h6
      exact hW.inj i j b x y (down i x h1 hi) h2 (down j y h3 hj) h4 h5 h6
  · intro i b hb
    obtain ⟨h1, h2, l0, k, e, rfl, h3⟩ := look_shiftW _ _ hWr i b hb
    have hbk := hD.wr _ _ h3
    obtain ⟨h4, h5⟩ := inR i ⟨h1, by omega⟩
    simp only [BlkOK, h4, h5]
    rcases hbk with hbk | ⟨b, c, g1, g2, g3, g4, g5⟩
    · exact .inl hbk
    · refine .inr ⟨b, c, g1, g2, g3, g4, ?_⟩
      rcases hT with hf | ⟨_, hn⟩
      · exact repDs_mono (hmv.H hf) _ _ g5
      · exact repDs_noL _ _ (noLw_look _ hn _ _ _ _ h3) g5

mutual
def V.idsV : V → List Nat
  | .own i _ _ | .slc i _ _ _ | .sla i _ _ _ _ | .ptr i _ | .px i _ _ _ _ _ | .pr i _ | .map i => [i]
  | .agg l => idsL l
  | .tup l => idsL l
  | .fn _ l => idsL l
  | _ => []
def idsL : List V → List Nat
  | [] => []
  | v :: t => v.idsV ++ idsL t
end

theorem memN_append (l m : List Nat) (x : Nat) : memN (l ++ m) x = (memN l x || memN m x) := by
  induction l with
  | nil => rfl
  | cons a t ih => simp only [List.cons_append, memN, ih, Bool.or_assoc]

mutual
theorem out_congr {f : List (Nat × Nat)} {aw aw' : List (Nat × Blk)} : ∀ (v : V), (∀ i, memN v.idsV i = true → look aw' i = look aw i) → V.out std f aw' v = V.out std f aw v
  | .d x, h => by simp only [V.out]
  | .own id len k, h => by simp only [V.out, h id (by simp [V.idsV, memN])]
  | .slc id off len k, h => by simp only [V.out, h id (by simp [V.idsV, memN])]
  | .sla id s m k len, h => by simp only [V.out, h id (by simp [V.idsV, memN])]
  | .ptr id off, h => by simp only [V.out]
  | .px id s m k i q, h => by simp only [V.out]
  | .pr id off, h => by simp only [V.out]
  | .lp l off, h => by simp only [V.out]
  | .map id, h => by simp only [V.out]
  | .fn g caps, h => by simp only [V.out, outs_congr caps (fun i hi => h i (by simpa only [V.idsV] using hi))]
  | .agg l, h => by simp only [V.out, outs_congr l (fun i hi => h i (by simpa only [V.idsV] using hi))]
  | .big n l, h => by simp only [V.out]
  | .tup l, h => by simp only [V.out, outs_congr l (fun i hi => h i (by simpa only [V.idsV] using hi))]
theorem outs_congr {f : List (Nat × Nat)} {aw aw' : List (Nat × Blk)} : ∀ (l : List V), (∀ i, memN (idsL l) i = true → look aw' i = look aw i) → outs std f aw' l = outs std f aw l
  | [], h => by simp only [outs]
  | v :: t, h => by
    have h1 : ∀ i, memN v.idsV i = true → look aw' i = look aw i := fun i hi => h i (by simp only [idsL, memN_append, hi, Bool.true_or])
    have h2 : ∀ i, memN (idsL t) i = true → look aw' i = look aw i := fun i hi => h i (by simp only [idsL, memN_append, hi, Bool.or_true])
    simp only [outs, out_congr v h1, outs_congr t h2]
end

/-- A call of a function that is specified: its arguments hold no row of the caller's own. -/
theorem call_pure {g : FuncId} {args vs : List V} {r r' : Res} {aw : List (Nat × Blk)} (h : Spec P g args r) (ho : outs std [] [] vs = some args) (hs : shift std n r = some r') : CallOK P g vs aw [] n r' := by
  refine ⟨h.1, fun aw' _ w0 M E w xs hW hfree hvs => ?_⟩
  have hdn : r'.dn = r.dn := by unfold shift at hs; split at hs <;> cases hs; rfl
  rw [hdn] at hfree
  have hW0 : WR w0 M E [] n w := ⟨fun i b h => (by cases h), hW.ro, fun i j b x y h => (by cases h), hW.dom, hW.none_n, hW.frame⟩
  have hv := outs_rep (f := []) hW0 rfl _ _ ho _ hvs
  have hE : E.view [] [] w = AX.E0 E.H := by
    unfold Emb.view AX.E0
    congr 1
    funext b
    cases hb : E.H b with
    | some o => rfl
    | none => simp only []; rw [if_neg]; rintro ⟨i, y, _, h, _⟩; cases h
  rw [hE] at hv
  refine (h.2 E.H w xs hW.ro hv).mono ?_
  rintro e w' ⟨v, C, rfl, hD⟩
  exact ⟨v, _, rfl, did_join hW hfree hW.ro hD hs (.inl fun _ => rfl)⟩

/-- A call whose arguments may hold rows of the caller's own: they are read as they are now; what is answered holds no slice of what was handed in. -/
theorem call_snap {g : FuncId} {args vs : List V} {r r' : Res} {aw : List (Nat × Blk)} (h : Spec P g args r) (ho : outs std [] aw vs = some args) (hs : shift std n r = some r') (hn : r.val.noL ∧ noLw r.wr) : CallOK P g vs aw (idsL vs) n r' := by
  refine ⟨h.1, fun aw' hag w0 M E w xs hW hfree hvs => ?_⟩
  have hdn : r'.dn = r.dn := by unfold shift at hs; split at hs <;> cases hs; rfl
  rw [hdn] at hfree
  rw [← outs_congr (aw' := aw') vs hag] at ho
  have hv := outs_rep (f := []) hW rfl _ _ ho _ hvs
  have hE : E.view [] aw' w = AX.E0 (E.view [] aw' w).H := rfl
  rw [hE] at hv
  have hro : ∀ b o, (E.view [] aw' w).H b = some o → w.heap[b]? = some o := by
    intro b o hb
    simp only [Emb.view] at hb
    split at hb
    · rename_i o' ho; cases hb; exact hW.ro b o ho
    · split at hb
      · exact hb
      · cases hb
  refine (h.2 _ w xs hro hv).mono ?_
  rintro e w' ⟨v, C, rfl, hD⟩
  exact ⟨v, _, rfl, did_join hW hfree hro hD hs (.inr hn)⟩

theorem CallP.pure' {I : Prims} {g : FuncId} {vs args : List V} {st : St} {K : CRes → Prop} {r r' : Res} (h : Spec P g args r) (hI : I = std) (ho : outs I [] [] vs = some args) (hs : shift I st.n r = some r') (k : K ⟨r', []⟩) : CallP P I g vs st K := by
  subst hI; exact ⟨_, call_pure h ho hs, k⟩

theorem CallP.snap {I : Prims} {g : FuncId} {vs args : List V} {st : St} {K : CRes → Prop} {r r' : Res} (h : Spec P g args r) (hI : I = std) (ho : outs I [] st.aw vs = some args) (hs : shift I st.n r = some r') (hn : r.val.noL ∧ noLw r.wr) (k : K ⟨r', idsL vs⟩) : CallP P I g vs st K := by
  subst hI; exact ⟨_, call_snap h ho hs hn, k⟩
end
end Go.AX

namespace Go.AX
set_option autoImplicit false
set_option linter.unusedVariables false

/-- Lists of operations, last first: each behind all that it waits for. -/
inductive Good (pre : Nat → List Nat) : List Nat → Prop
  | nil : Good pre []
  | cons (i : Nat) (l : List Nat) (h : i ∉ l) (hp : ∀ p ∈ pre i, p ∈ l) (g : Good pre l) : Good pre (i :: l)

theorem Good.sub {pre : Nat → List Nat} {l : List Nat} (g : Good pre l) : ∀ i ∈ l, ∀ p ∈ pre i, p ∈ l := by
  induction g with
  | nil => intro i h; cases h
  | cons j l hj hp g ih =>
    intro i hi p hpi
    rcases List.mem_cons.1 hi with rfl | hi
    · exact List.mem_cons_of_mem _ (hp p hpi)
    · exact List.mem_cons_of_mem _ (ih i hi p hpi)

theorem Good.tail {pre : Nat → List Nat} : ∀ {a b : List Nat}, Good pre (a ++ b) → Good pre b
  | [], b, g => g
  | x :: a, b, g => by cases g with | cons _ _ _ _ g => exact Good.tail g

def lookF {α : Type} (W : Nat → Nat → Option α) (k : Nat) (d : Option α) : List Nat → Option α
  | [] => d
  | i :: t => match W i k with | some x => some x | none => lookF W k d t

theorem lookF_none {α : Type} {W : Nat → Nat → Option α} {k : Nat} {d : Option α} : ∀ {l : List Nat}, (∀ i ∈ l, W i k = none) → lookF W k d l = d
  | [], _ => rfl
  | i :: t, h => by
    simp only [lookF, h i List.mem_cons_self]
    exact lookF_none fun j hj => h j (List.mem_cons_of_mem _ hj)

theorem lookF_first {α : Type} {W : Nat → Nat → Option α} {k : Nat} {d : Option α} : ∀ {l : List Nat}, (∃ i ∈ l, (W i k).isSome) → ∃ a m b x, l = a ++ m :: b ∧ (∀ i ∈ a, W i k = none) ∧ W m k = some x ∧ lookF W k d l = some x
  | [], h => by obtain ⟨i, h, _⟩ := h; cases h
  | j :: t, h => by
    cases hj : W j k with
    | some x => exact ⟨[], j, t, x, rfl, by simp, hj, by simp [lookF, hj]⟩
    | none =>
      obtain ⟨i, hi, hs⟩ := h
      have : ∃ i ∈ t, (W i k).isSome := by
        rcases List.mem_cons.1 hi with rfl | hi
        · rw [hj] at hs; cases hs
        · exact ⟨i, hi, hs⟩
      obtain ⟨a, m, b, x, h1, h2, h3, h4⟩ := lookF_first (d := d) this
      refine ⟨j :: a, m, b, x, by rw [h1]; rfl, ?_, h3, by simp only [lookF, hj]; exact h4⟩
      intro q hq
      rcases List.mem_cons.1 hq with rfl | hq
      · exact hj
      · exact h2 q hq

theorem lookF_eq {α : Type} {W : Nat → Nat → Option α} {pre : Nat → List Nat} {k : Nat} {d : Option α} {l1 l2 : List Nat} (g1 : Good pre l1) (g2 : Good pre l2)
    (hs : ∀ i, (W i k).isSome → (i ∈ l1 ↔ i ∈ l2)) (hc : ∀ i j, (W i k).isSome → (W j k).isSome → i < j → i ∈ pre j) : lookF W k d l1 = lookF W k d l2 := by
  by_cases hex : ∃ i ∈ l1, (W i k).isSome
  · obtain ⟨i, hi, hsi⟩ := hex
    obtain ⟨a1, m1, b1, x1, e1, n1, w1, r1⟩ := lookF_first (d := d) ⟨i, hi, hsi⟩
    obtain ⟨a2, m2, b2, x2, e2, n2, w2, r2⟩ := lookF_first (d := d) ⟨i, (hs i hsi).1 hi, hsi⟩
    have bad : ∀ (l a b : List Nat) (m q : Nat), Good pre l → l = a ++ m :: b → (∀ i ∈ a, W i k = none) → (W m k).isSome → (W q k).isSome → q ∈ l → m < q → False := by
      intro l a b m q g e hn hm hq hql hlt
      subst e
      have g' := Good.tail g
      cases g' with
      | cons _ _ hmb _ gb =>
        rcases List.mem_append.1 hql with h | h
        · rw [hn q h] at hq; cases hq
        · rcases List.mem_cons.1 h with rfl | h
          · omega
          · exact hmb (gb.sub q h m (hc m q hm hq hlt))
    have hm1 : (W m1 k).isSome := by rw [w1]; rfl
    have hm2 : (W m2 k).isSome := by rw [w2]; rfl
    have e : m1 = m2 := by
      rcases Nat.lt_trichotomy m1 m2 with h | h | h
      · exact (bad l1 a1 b1 m1 m2 g1 e1 n1 hm1 hm2 ((hs m2 hm2).2 (by rw [e2]; simp)) h).elim
      · exact h
      · exact (bad l2 a2 b2 m2 m1 g2 e2 n2 hm2 hm1 ((hs m1 hm1).1 (by rw [e1]; simp)) h).elim
    subst e
    rw [w1] at w2
    rw [r1, r2, w2]
  · have h1 : ∀ i ∈ l1, W i k = none := by
      intro i hi
      cases hw : W i k with
      | none => rfl
      | some x => exact absurd ⟨i, hi, by rw [hw]; rfl⟩ hex
    have h2 : ∀ i ∈ l2, W i k = none := by
      intro i hi
      cases hw : W i k with
      | none => rfl
      | some x => exact absurd ⟨i, (hs i (by rw [hw]; rfl)).2 hi, by rw [hw]; rfl⟩ hex
    rw [lookF_none h1, lookF_none h2]

structure It where
  o : Oper
  fp : Fp
  st : St
  res : Res

/-- An operation, run in a state. -/
inductive RunOK (P : Program) (tt : TT) (ops : List Oper) (acc : List Fp) (it : It) : Prop
  | call (f : Operand) (args : List Operand) (g : FuncId) (caps vs : List V) (ac : List Nat) (hc : isCall it.o.op = some (f, args)) (hf : it.st.ev f = some (.fn g caps)) (hvs : evs it.st args = some vs) (hd : dstOk it.st it.o.dst = true)
      (ok : CallOK P g (vs ++ caps) it.st.aw ac it.st.n it.res) (hfp : it.fp = ⟨it.o.dst, guseOf ops it.o.guard ++ tmpsOf (f :: args), ac, keys it.res.wr, preds acc it.o.after.toList⟩)
  | exec (vs : List V) (bs : List Blk) (hc : isCall it.o.op = none) (hvs : evs it.st it.o.op.operands.toList = some vs) (hbs : blks it.st.aw (accOf it.o.op vs) = some bs) (hr : opR std tt it.o.op vs bs it.st.n = some it.res)
      (hd : dstOk it.st it.o.dst = true) (hs : it.res.side) (hfp : it.fp = ⟨it.o.dst, guseOf ops it.o.guard ++ tmpsOf it.o.op.operands.toList, accOf it.o.op vs, keys it.res.wr, preds acc it.o.after.toList⟩)

def skipR : Res := ⟨.tup [], [], 0, True⟩

inductive ItOK (P : Program) (tt : TT) (ops : List Oper) (acc : List Fp) (it : It) : Prop
  | plain (hg : it.o.guard = none) (h : RunOK P tt ops acc it)
  | taken (j : Nat) (want : Bool) (g : Oper) (d : Nat) (hg : it.o.guard = some (j, want)) (hj : ops[j]? = some g) (hd : g.dst = some d) (hl : look it.st.env d = some (.d (.bool want))) (h : RunOK P tt ops acc it)
  | skipped (j : Nat) (want : Bool) (g : Oper) (d : Nat) (v : V) (hg : it.o.guard = some (j, want)) (hj : ops[j]? = some g) (hd : g.dst = some d) (hl : look it.st.env d = some v) (hv : v = .d (.bool (!want)) ∨ v = .tup [])
      (hd' : dstOk it.st it.o.dst = true) (hr : it.res = skipR) (hfp : it.fp = ⟨it.o.dst, guseOf ops it.o.guard, [], [], preds acc it.o.after.toList⟩)

inductive Chain (P : Program) (tt : TT) (ops : List Oper) : List Fp → St → List Oper → List It → St → Prop
  | nil (acc : List Fp) (st : St) : Chain P tt ops acc st [] [] st
  | cons (acc : List Fp) (it : It) (rest : List Oper) (its : List It) (stF : St) (h : ItOK P tt ops acc it) (k : Chain P tt ops (it.fp :: acc) (it.st.app it.o.dst it.res) rest its stF) : Chain P tt ops acc it.st (it.o :: rest) (it :: its) stF

theorem nilOf_draw (tt : TT) (op : Op) (vs : List V) : nilOf tt true op vs = none := by
  unfold nilOf
  split
  · rename_i h; cases h
  · rfl

theorem chain_of {P : Program} {tt : TT} {ops : List Oper} {Q : Exit → St → Prop} : ∀ (l : List Oper) (acc : List Fp) (st : St), goOps P std tt true ops Q l acc st →
    ∃ its stF, Chain P tt ops acc st l its stF ∧ (indep ((its.map (·.fp)).reverse ++ acc) && backs ops 0) = true ∧ Q .normal stF
  | [], acc, st, h => by
    simp only [goOps] at h
    exact ⟨[], st, .nil acc st, by simpa using h.1 (), h.2⟩
  | o :: rest, acc, st, h => by
    simp only [goOps] at h
    have fin : ∀ (fp : Fp) (r : Res), ItOK P tt ops acc ⟨o, fp, st, r⟩ → goOps P std tt true ops Q rest (fp :: acc) (st.app o.dst r) → ∃ its stF, Chain P tt ops acc st (o :: rest) its stF ∧ (indep ((its.map (·.fp)).reverse ++ acc) && backs ops 0) = true ∧ Q .normal stF := by
      intro fp r hit hk
      obtain ⟨its, stF, h1, h2, h3⟩ := chain_of rest _ _ hk
      exact ⟨⟨o, fp, st, r⟩ :: its, stF, .cons acc ⟨o, fp, st, r⟩ rest its stF hit h1, by simpa using h2, h3⟩
    have run : (match isCall o.op with
      | some (f, args) => (match st.ev f, evs st args with
          | some (.fn g caps), some vs => dstOk st o.dst = true ∧ CallP P std g (vs ++ caps) st (fun c => goOps P std tt true ops Q rest (⟨o.dst, guseOf ops o.guard ++ tmpsOf (f :: args), c.acc, keys c.res.wr, preds acc o.after.toList⟩ :: acc) (st.app o.dst c.res))
          | _, _ => False)
      | none => (match evs st o.op.operands.toList with
          | some vs => (match nilOf tt true o.op vs with
              | some (e, some n) => dstOk st o.dst = true ∧ ∀ b, (b = e → n = 0) → goOps P std tt true ops Q rest (⟨o.dst, guseOf ops o.guard ++ tmpsOf o.op.operands.toList, [], [], preds acc o.after.toList⟩ :: acc) (st.app o.dst ⟨.d (.bool b), [], 0, True⟩)
              | some (e, none) => dstOk st o.dst = true ∧ goOps P std tt true ops Q rest (⟨o.dst, guseOf ops o.guard ++ tmpsOf o.op.operands.toList, [], [], preds acc o.after.toList⟩ :: acc) (st.app o.dst ⟨.d (.bool e), [], 0, True⟩)
              | none => (match blks st.aw (accOf o.op vs) with
                  | some bs => (match opR std tt o.op vs bs st.n with
                      | some r => dstOk st o.dst = true ∧ r.side ∧ goOps P std tt true ops Q rest (⟨o.dst, guseOf ops o.guard ++ tmpsOf o.op.operands.toList, accOf o.op vs, keys r.wr, preds acc o.after.toList⟩ :: acc) (st.app o.dst r)
                      | none => False)
                  | none => False))
          | none => False)) → ∃ fp r, RunOK P tt ops acc ⟨o, fp, st, r⟩ ∧ goOps P std tt true ops Q rest (fp :: acc) (st.app o.dst r) := by
      intro h
      split at h
      · rename_i f args hc
        split at h
        · rename_i g caps vs hf hvs
          obtain ⟨hd, c, ok, hk⟩ := h
          exact ⟨_, c.res, .call f args g caps vs c.acc hc hf hvs hd ok rfl, hk⟩
        · exact h.elim
      · rename_i hc
        split at h
        · rename_i vs hvs
          rw [nilOf_draw] at h
          simp only at h
          split at h
          · rename_i bs hbs
            split at h
            · rename_i r hr
              exact ⟨_, r, .exec vs bs hc hvs hbs hr h.1 h.2.1 rfl, h.2.2⟩
            · exact h.elim
          · exact h.elim
        · exact h.elim
    cases hg : o.guard with
    | none =>
      rw [hg] at h run
      obtain ⟨fp, r, h1, h2⟩ := run h
      exact fin fp r (.plain hg h1) h2
    | some jw =>
      obtain ⟨j, want⟩ := jw
      rw [hg] at h run
      simp only at h
      split at h
      · rename_i g hgj
        split at h
        · rename_i d hgd
          split at h
          · rename_i b hb
            by_cases hbw : b = want
            · obtain ⟨fp, r, h1, h2⟩ := run (h.1 hbw)
              subst hbw
              exact fin fp r (.taken j b g d hg hgj hgd hb h1) h2
            · have hbn : b = !want := by cases b <;> cases want <;> simp_all
              obtain ⟨hd, hk⟩ := h.2 hbn
              subst hbn
              exact fin _ skipR (.skipped j want g d _ hg hgj hgd hb (.inl rfl) hd rfl (by simp only [hg])) hk
          · rename_i hb
            obtain ⟨hd, hk⟩ := h
            exact fin _ skipR (.skipped j want g d _ hg hgj hgd hb (.inr rfl) hd rfl (by simp only [hg])) hk
          · exact h.elim
        · exact h.elim
      · exact h.elim
end Go.AX

namespace Go.AX
set_option autoImplicit false
set_option linter.unusedVariables false

def down : Nat → List Nat
  | 0 => []
  | n + 1 => n :: down n

theorem mem_down : ∀ {n i : Nat}, i ∈ down n ↔ i < n
  | 0, i => by simp [down]
  | n + 1, i => by simp only [down, List.mem_cons, mem_down]; omega

def stL (its : List It) (st : St) : List Nat → St
  | [] => st
  | i :: l => match its[i]? with
    | some it => (stL its st l).app it.o.dst it.res
    | none => stL its st l

def wE (its : List It) (i t : Nat) : Option V :=
  match its[i]? with
  | some it => if it.o.dst = some t then some it.res.val else none
  | none => none

def wA (its : List It) (i b : Nat) : Option Blk :=
  match its[i]? with
  | some it => look it.res.wr b
  | none => none

theorem stL_env (its : List It) (st : St) (t : Nat) : ∀ l, look (stL its st l).env t = lookF (wE its) t (look st.env t) l
  | [] => rfl
  | i :: l => by
    simp only [stL, lookF, wE]
    cases hi : its[i]? with
    | none => simp only; exact stL_env its st t l
    | some it =>
      simp only
      cases hd : it.o.dst with
      | none => simp only [St.app]; exact stL_env its st t l
      | some d =>
        simp only [St.app, look_cons, Option.some.injEq]
        by_cases h : d = t
        · rw [if_pos h, if_pos h]
        · rw [if_neg h, if_neg h]; exact stL_env its st t l

theorem stL_aw (its : List It) (st : St) (b : Nat) : ∀ l, look (stL its st l).aw b = lookF (wA its) b (look st.aw b) l
  | [] => rfl
  | i :: l => by
    simp only [stL, lookF, wA]
    cases hi : its[i]? with
    | none => simp only; exact stL_aw its st b l
    | some it =>
      simp only
      have : ((stL its st l).app it.o.dst it.res).aw = it.res.wr ++ (stL its st l).aw := by
        cases it.o.dst <;> rfl
      rw [this, look_append]
      cases look it.res.wr b with
      | some x => rfl
      | none => exact stL_aw its st b l

theorem app_sz (st : St) (d : Option Nat) (r : Res) : (st.app d r).sz = st.sz := by cases d <;> rfl
theorem app_n (st : St) (d : Option Nat) (r : Res) : (st.app d r).n = st.n + r.dn + 1 := by cases d <;> rfl
theorem app_aw (st : St) (d : Option Nat) (r : Res) : (st.app d r).aw = r.wr ++ st.aw := by cases d <;> rfl

theorem stL_sz (its : List It) (st : St) : ∀ l, (stL its st l).sz = st.sz
  | [] => rfl
  | i :: l => by
    simp only [stL]
    split
    · rw [app_sz]; exact stL_sz its st l
    · exact stL_sz its st l

theorem stL_take (its : List It) (st : St) (it : It) : ∀ (l : List Nat) (n : Nat), (∀ i ∈ l, i < n) → ∀ (js : List It), its.take n = js.take n → stL its st l = stL js st l
  | [], n, _, js, _ => rfl
  | i :: l, n, h, js, hj => by
    have hi := h i List.mem_cons_self
    have : its[i]? = js[i]? := by
      have h1 : (its.take n)[i]? = its[i]? := by rw [List.getElem?_take, if_pos hi]
      have h2 : (js.take n)[i]? = js[i]? := by rw [List.getElem?_take, if_pos hi]
      rw [← h1, ← h2, hj]
    simp only [stL, this, stL_take its st it l n (fun j hj' => h j (List.mem_cons_of_mem _ hj')) js hj]

section
variable {P : Program} {tt : TT} {ops : List Oper}

theorem stL_shift (it : It) (its : List It) (st : St) : ∀ (l : List Nat), stL (it :: its) st (l.map (· + 1) ++ [0]) = stL its (st.app it.o.dst it.res) l
  | [] => rfl
  | i :: l => by
    simp only [List.map_cons, List.cons_append, stL, List.getElem?_cons_succ, stL_shift it its st l]

theorem down_succ : ∀ n, down (n + 1) = (down n).map (· + 1) ++ [0]
  | 0 => rfl
  | n + 1 => by
    show (n + 1) :: down (n + 1) = (n + 1) :: ((down n).map (· + 1) ++ [0])
    rw [down_succ n]

theorem chain_get : ∀ {acc : List Fp} {st : St} {l : List Oper} {its : List It} {stF : St}, Chain P tt ops acc st l its stF →
    its.map (·.o) = l ∧ stF = stL its st (down its.length) ∧ (∀ i it, its[i]? = some it → it.st = stL its st (down i) ∧ ItOK P tt ops (((its.take i).map (·.fp)).reverse ++ acc) it) := by
  intro acc st l its stF h
  induction h with
  | nil acc st => exact ⟨rfl, rfl, fun i it h => by simp at h⟩
  | cons acc it rest its stF hit hk ih =>
    obtain ⟨h1, h2, h3⟩ := ih
    refine ⟨by simp [h1], ?_, ?_⟩
    · rw [List.length_cons, down_succ, stL_shift]; exact h2
    · intro i x hx
      cases i with
      | zero => simp at hx; subst hx; exact ⟨rfl, by simpa using hit⟩
      | succ i =>
        obtain ⟨h4, h5⟩ := h3 i x (by simpa using hx)
        refine ⟨by rw [down_succ, stL_shift]; exact h4, ?_⟩
        simpa using h5

theorem stL_n (its : List It) (st : St) : ∀ (n : Nat), n ≤ its.length → ∀ i it, its[i]? = some it → i < n → (stL its st (down i)).n + it.res.dn + 1 ≤ (stL its st (down n)).n
  | 0, _, i, it, _, hlt => by omega
  | n + 1, hn, i, it, hi, hlt => by
    have hnn : ∃ y, its[n]? = some y := ⟨its[n]'(by omega), by simp⟩
    obtain ⟨y, hy⟩ := hnn
    have e : (stL its st (down (n + 1))).n = (stL its st (down n)).n + y.res.dn + 1 := by
      simp only [down, stL, hy, app_n]
    rcases Nat.lt_or_ge i n with h | h
    · have := stL_n its st n (by omega) i it hi h
      omega
    · have : i = n := by omega
      subst this
      rw [hi] at hy; cases hy
      omega

theorem stL_n0 (its : List It) (st : St) : ∀ l, st.n ≤ (stL its st l).n
  | [] => Nat.le_refl _
  | i :: l => by
    simp only [stL]
    split
    · rw [app_n]; have := stL_n0 its st l; omega
    · exact stL_n0 its st l

theorem apartN_no {l m : List Nat} (h : apartN l m = true) {x : Nat} (hx : x ∈ l) (hm : x ∈ m) : False := by
  induction l with
  | nil => cases hx
  | cons a t ih =>
    simp only [apartN, Bool.and_eq_true, Bool.not_eq_true'] at h
    rcases List.mem_cons.1 hx with rfl | hx
    · have := (memN_iff _ _).2 hm
      rw [h.1] at this; cases this
    · exact ih h.2 hx

theorem indep_get : ∀ (fs : List Fp), indep fs.reverse = true → ∀ (i j : Nat) (x y : Fp), fs[i]? = some x → fs[j]? = some y → i < j → i ∈ y.pre ∨ x.apart y = true := by
  have one : ∀ (y : Fp) (t : List Fp), indep1 y t 0 = true → ∀ (k : Nat) (x : Fp), t[k]? = some x → (t.length - 1 - k) ∈ y.pre ∨ x.apart y = true := by
    intro y t
    induction t with
    | nil => intro _ k x h; simp at h
    | cons a t ih =>
      intro h k x hx
      simp only [indep1, Bool.and_eq_true, Bool.or_eq_true] at h
      cases k with
      | zero =>
        simp at hx; subst hx
        rcases h.1 with h1 | h1
        · exact .inl (by have := (memN_iff _ _).1 h1; simpa using this)
        · exact .inr h1
      | succ k =>
        have := ih h.2 k x (by simpa using hx)
        rcases this with h1 | h1
        · left
          have e : (a :: t).length - 1 - (k + 1) = t.length - 1 - k := by simp; omega
          rw [e]; exact h1
        · exact .inr h1
  have key : ∀ (r : List Fp), indep r = true → ∀ (k q : Nat) (x y : Fp), r[k]? = some x → r[q]? = some y → q < k → (r.length - 1 - k) ∈ y.pre ∨ x.apart y = true := by
    intro r
    induction r with
    | nil => intro _ k q x y h; simp at h
    | cons a t ih =>
      intro h k q x y hk hq hlt
      simp only [indep, Bool.and_eq_true] at h
      obtain ⟨k, rfl⟩ : ∃ k', k = k' + 1 := ⟨k - 1, by omega⟩
      have e : (a :: t).length - 1 - (k + 1) = t.length - 1 - k := by simp; omega
      rw [e]
      cases q with
      | zero =>
        simp at hq; subst hq
        exact one a t h.1 k x (by simpa using hk)
      | succ q => exact ih h.2 k q x y (by simpa using hk) (by simpa using hq) (by omega)
  intro fs h i j x y hi hj hlt
  have hil := (List.getElem?_eq_some_iff.1 hi).1
  have hjl := (List.getElem?_eq_some_iff.1 hj).1
  have hi' : fs.reverse[fs.length - 1 - i]? = some x := by rw [List.getElem?_reverse (by omega)]; rw [show fs.length - 1 - (fs.length - 1 - i) = i by omega]; exact hi
  have hj' : fs.reverse[fs.length - 1 - j]? = some y := by rw [List.getElem?_reverse (by omega)]; rw [show fs.length - 1 - (fs.length - 1 - j) = j by omega]; exact hj
  have := key fs.reverse h _ _ x y hi' hj' (by omega)
  rw [List.length_reverse, show fs.length - 1 - (fs.length - 1 - i) = i by omega] at this
  exact this

structure RD (w0 : World) (M : Nat → Prop) (H0 : Nat → Option Obj) (its : List It) (st : St) (L : List Nat) (E : Emb) (a : Act) (w : World) : Prop where
  env : EnvOK E (stL its st L).env a.tmps
  wr : WR w0 M E (stL its st L).aw (stL its st (down its.length)).n w
  used : ∀ i x, E.ρ i = some x → i < st.n ∨ ∃ k it, k ∈ L ∧ its[k]? = some it ∧ (stL its st (down k)).n ≤ i ∧ i < (stL its st (down k)).n + it.res.dn + 1
  hle : ∀ b o, H0 b = some o → E.H b = some o
  hnew : ∀ b o, E.H b = some o → H0 b = some o ∨ w0.heap.size ≤ b
  sz : a.tmps.size = st.sz
  dfs : a.defers = []

variable {w0 : World} {M : Nat → Prop} {H0 : Nat → Option Obj} {its : List It} {st : St} {L : List Nat} {E E' : Emb} {a : Act} {w w' : World}

theorem RD.free (h : RD w0 M H0 its st L E a w) {j : Nat} {it : It} (hj : its[j]? = some it) (hn : j ∉ L) : ∀ i, (stL its st (down j)).n ≤ i → i < (stL its st (down j)).n + it.res.dn + 1 → E.ρ i = none := by
  intro i h1 h2
  cases hx : E.ρ i with
  | none => rfl
  | some x =>
    rcases h.used i x hx with h3 | ⟨k, y, hk, hy, h4, h5⟩
    · have := stL_n0 its st (down j); omega
    · have hjl := (List.getElem?_eq_some_iff.1 hj).1
      have hkl := (List.getElem?_eq_some_iff.1 hy).1
      rcases Nat.lt_trichotomy j k with hlt | rfl | hlt
      · have := stL_n its st k (by omega) j it hj hlt; omega
      · exact absurd hk hn
      · have := stL_n its st j (by omega) k y hy hlt; omega

theorem RD.step (h : RD w0 M H0 its st L E a w) {j : Nat} {it : It} (hj : its[j]? = some it) (hn : j ∉ L) (hd : dstOk st it.o.dst = true) {v : Value}
    (hD : Did (stL its st L).aw E (stL its st (down j)).n w it.res E' w' v) : RD w0 M H0 its st (j :: L) E' (a.put it.o.dst v) w' := by
  have hjl := (List.getElem?_eq_some_iff.1 hj).1
  have hN := stL_n its st its.length (Nat.le_refl _) j it hj hjl
  have hW' : WR w0 M E (stL its st L).aw (stL its st (down j)).n w := ⟨h.wr.blk, h.wr.ro, h.wr.inj, h.wr.dom, h.free hj hn _ (Nat.le_refl _) (by omega), h.wr.frame⟩
  have e : stL its st (j :: L) = (stL its st L).app it.o.dst it.res := by simp only [stL, hj]
  refine ⟨?_, ?_, ?_, fun b o hb => hD.le.2.2 b o (h.hle b o hb), ?_, ?_, ?_⟩
  · rw [e]
    cases hdst : it.o.dst with
    | none => exact h.env.mono hD.le
    | some d =>
      rw [hdst] at hd
      have hd' : d < a.tmps.size := by rw [h.sz]; simpa [dstOk] using hd
      exact h.env.put hD.le hd' hD.val
  · rw [e, app_aw]
    refine hW'.app hD ?_
    cases hx : E'.ρ (stL its st (down its.length)).n with
    | none => rfl
    | some x =>
      rcases hD.new _ x hx with h1 | ⟨h1, h2, _⟩
      · rw [h.wr.none_n] at h1; cases h1
      · omega
  · intro i x hx
    rcases hD.new i x hx with h1 | ⟨h1, h2, _⟩
    · rcases h.used i x h1 with h3 | ⟨k, y, hk, hy, h4⟩
      · exact .inl h3
      · exact .inr ⟨k, y, List.mem_cons_of_mem _ hk, hy, h4⟩
    · exact .inr ⟨j, it, List.mem_cons_self, hj, h1, by omega⟩
  · intro b o hb
    rcases hD.h b o hb with h1 | ⟨h1, _⟩
    · exact h.hnew b o h1
    · exact .inr (Nat.le_trans h.wr.frame.size h1)
  · rw [← h.sz]; cases it.o.dst <;> simp [Act.put]
  · cases it.o.dst <;> exact h.dfs

theorem evs_congr {s t : St} : ∀ (l : List Operand), (∀ x ∈ tmpsOf l, look t.env x = look s.env x) → evs t l = evs s l
  | [], _ => rfl
  | x :: r, h => by
    have hx : t.ev x = s.ev x := by
      cases x with
      | tmp q => exact h q (by simp [tmpsOf])
      | _ => rfl
    have hr : evs t r = evs s r := evs_congr r (fun y hy => h y (by cases x <;> simp [tmpsOf, hy]))
    simp only [evs, hx, hr]

theorem blks_congr {aw aw' : List (Nat × Blk)} : ∀ (l : List Nat), (∀ i ∈ l, look aw' i = look aw i) → blks aw' l = blks aw l
  | [], _ => rfl
  | i :: r, h => by
    simp only [blks, h i List.mem_cons_self, blks_congr r (fun j hj => h j (List.mem_cons_of_mem _ hj))]

/-- One operation of a region, in whatever order it comes. -/
theorem it_step (hTT : TabOK P tt) {Q : Exit → Act → World → Prop} {acc : List Fp} {it : It} {j : Nat} (hj : its[j]? = some it) (hst : it.st = stL its st (down j)) (hok : ItOK P tt ops acc it) (hops : ops[j]? = some it.o)
    (h : RD w0 M H0 its st L E a w) (hn : j ∉ L) (henv : ∀ t ∈ it.fp.uses, look (stL its st L).env t = look it.st.env t) (haw : ∀ b ∈ it.fp.acc, look (stL its st L).aw b = look it.st.aw b)
    {K : Act → World → Prop} (hK : ∀ E' a' w', RD w0 M H0 its st (j :: L) E' a' w' → K a' w') : wpOp P ops.toArray Q j K a w := by
  have hop : ops.toArray[j]? = some it.o := by simpa using hops
  have hW' : WR w0 M E (stL its st L).aw it.st.n w := by
    rw [hst]
    exact ⟨h.wr.blk, h.wr.ro, h.wr.inj, h.wr.dom, h.free hj hn _ (Nat.le_refl _) (by omega), h.wr.frame⟩
  have hsz : ∀ d, dstOk it.st d = true → dstOk st d = true := by
    intro d hd
    rw [hst] at hd
    cases d with
    | none => rfl
    | some d => simpa only [dstOk, stL_sz] using hd
  have run : RunOK P tt ops acc it → it.o.wp P a w K Q := by
    intro hr
    cases hr with
    | call f args g caps vs ac hc hf hvs hd ok hfp =>
      rw [hfp] at henv haw
      obtain ⟨ts, ho⟩ := isCall_eq hc
      have hfv : (stL its st L).ev f = it.st.ev f := by
        cases f with
        | tmp q => exact henv q (by simp [tmpsOf])
        | _ => rfl
      have hargs : evs (stL its st L) args = some vs := by
        rw [evs_congr args (s := it.st) (fun x hx => henv x (by cases f <;> simp [tmpsOf, hx]))]; exact hvs
      rw [hf] at hfv
      have hfr := ev_rep h.env hfv
      simp only [repV] at hfr
      obtain ⟨cs, hfe, hcs⟩ := hfr
      have hav := evs_rep h.env args vs hargs
      obtain ⟨hent, ok⟩ := ok
      unfold Oper.wp
      rw [exec_call ho hfe hent]
      simp only [Oper.upon]
      refine (ok (stL its st L).aw (fun i hi => haw i ((memN_iff _ _).1 hi)) w0 M E w _ hW' (fun i h1 h2 => ?_) ?_).mono ?_
      · rw [hst] at h1 h2
        exact h.free hj hn i h1 (by omega)
      · have := repVs_append hav hcs
        simpa using this
      · rintro e w' ⟨v, E', rfl, hD⟩
        rw [hst] at hD
        exact hK _ _ _ (h.step hj hn (hsz _ hd) hD)
    | exec vs bs hc hvs hbs hr hd hs hfp =>
      rw [hfp] at henv haw
      have hvs' : evs (stL its st L) it.o.op.operands.toList = some vs := by
        rw [evs_congr _ (s := it.st) (fun x hx => henv x (by simp [hx]))]; exact hvs
      have hbs' : blks (stL its st L).aw (accOf it.o.op vs) = some bs := by
        rw [blks_congr _ (aw := it.st.aw) haw]; exact hbs
      obtain ⟨E', w', v, hrun, hD⟩ := op_ok hTT hW' (evs_rep h.env _ _ hvs') hbs' hr hs
      rw [hst] at hD
      have hnext := hK _ _ _ (h.step hj hn (hsz _ hd) hD)
      unfold Oper.wp
      rcases hrun with hrun | ⟨hrun, rfl⟩
      · rw [hrun]; exact hnext
      · rw [hrun]; exact hnext
  unfold wpOp
  simp only [hop]
  cases hok with
  | plain hg hr =>
    rw [if_pos (by simp [Region.wanted, hg])]
    exact .inl (run hr)
  | taken q want g d hg hq hd hl hr =>
    have hu : look (stL its st L).env d = some (.d (.bool want)) := by
      rw [henv d, hl]
      cases hr with
      | call f args g' caps vs ac hc hf hvs hd' ok hfp => rw [hfp, hg]; simp [guseOf, hq, hd, optL]
      | exec vs bs hc hvs hbs hr hd' hs hfp => rw [hfp, hg]; simp [guseOf, hq, hd, optL]
    obtain ⟨u, h1, h2⟩ := h.env d _ hu
    simp only [repV, repD] at h2
    subst h2
    have hq' : ops.toArray[q]? = some g := by simpa using hq
    rw [if_pos (by simp [Region.wanted, hg, yielded, hq', hd, h1])]
    exact .inl (run hr)
  | skipped q want g d v hg hq hd hl hv hd' hres hfp =>
    have hu : look (stL its st L).env d = some v := by
      rw [henv d, hl]
      rw [hfp, hg]; simp [guseOf, hq, hd, optL]
    obtain ⟨u, h1, h2⟩ := h.env d _ hu
    have hq' : ops.toArray[q]? = some g := by simpa using hq
    have hskip : RD w0 M H0 its st (j :: L) E (a.put it.o.dst undef) w := by
      refine h.step hj hn (hsz _ hd') (v := undef) ?_
      rw [hres, ← hst]
      exact Did.same hW' rfl (undef_rep E)
    rcases hv with rfl | rfl
    · simp only [repV, repD] at h2
      subst h2
      rw [if_neg (by simp [Region.wanted, hg, yielded, hq', hd, h1])]
      exact hK _ _ _ hskip
    · simp only [repV, repVs] at h2
      obtain ⟨cs, rfl, _⟩ := h2
      rw [if_neg (by simp [Region.wanted, hg, yielded, hq', hd, h1])]
      exact hK _ _ _ hskip
end
end Go.AX

namespace Go.AX
set_option autoImplicit false
set_option linter.unusedVariables false

section
variable {P : Program} {tt : TT} {ops : List Oper} {w0 : World} {M : Nat → Prop} {H0 : Nat → Option Obj} {its : List It} {st stF : St} {L : List Nat} {E E' : Emb} {a : Act} {w w' : World}

def preOf (its : List It) (i : Nat) : List Nat :=
  match its[i]? with
  | some it => it.fp.pre
  | none => []

theorem fp_facts {acc : List Fp} {it : It} (h : ItOK P tt ops acc it) : it.fp.dst = it.o.dst ∧ it.fp.wr = keys it.res.wr ∧ it.fp.pre = preds acc it.o.after.toList := by
  have run : RunOK P tt ops acc it → it.fp.dst = it.o.dst ∧ it.fp.wr = keys it.res.wr ∧ it.fp.pre = preds acc it.o.after.toList := by
    intro h
    cases h with
    | call f args g caps vs ac hc hf hvs hd ok hfp => rw [hfp]; exact ⟨rfl, rfl, rfl⟩
    | exec vs bs hc hvs hbs hr hd hs hfp => rw [hfp]; exact ⟨rfl, rfl, rfl⟩
  cases h with
  | plain hg h => exact run h
  | taken j want g d hg hj hd hl h => exact run h
  | skipped j want g d v hg hj hd hl hv hd' hr hfp => rw [hfp, hr]; exact ⟨rfl, rfl, rfl⟩

theorem key_of_look {α : Type} : ∀ {l : List (Nat × α)} {b : Nat}, (look l b).isSome = true → b ∈ keys l
  | [], b, h => by cases h
  | (x, y) :: t, b, h => by
    rw [look_cons] at h
    simp only [keys, List.mem_cons]
    split at h
    · rename_i e; exact .inl e.symm
    · exact .inr (key_of_look h)

/-- What is known of a region's operations. -/
structure Reg (P : Program) (tt : TT) (ops : List Oper) (its : List It) (st : St) : Prop where
  os : its.map (·.o) = ops
  get : ∀ i it, its[i]? = some it → it.st = stL its st (down i) ∧ ItOK P tt ops (((its.take i).map (·.fp)).reverse) it
  ind : indep (its.map (·.fp)).reverse = true
  back : backs ops 0 = true

theorem backs_get : ∀ (l : List Oper) (n i : Nat) (o : Oper), backs l n = true → l[i]? = some o → backE o.after.toList (n + i) = true
  | [], n, i, o, _, h => by simp at h
  | x :: t, n, i, o, hb, h => by
    simp only [backs, Bool.and_eq_true] at hb
    cases i with
    | zero => simp at h; subst h; exact hb.1
    | succ i =>
      have := backs_get t (Nat.succ n) i o hb.2 (by simpa using h)
      rwa [show Nat.succ n + i = n + (i + 1) by omega] at this

theorem backE_mem : ∀ (l : List Edge) (n : Nat), backE l n = true → ∀ e ∈ l, Region.binds .any e = true → e.on < n
  | [], n, _, e, h => by cases h
  | x :: t, n, hb, e, h => by
    simp only [backE, Bool.and_eq_true] at hb
    rcases List.mem_cons.1 h with rfl | h
    · intro hbi
      have := hb.1
      rw [hbi] at this
      simpa using this
    · exact backE_mem t n hb.2 e h

theorem mem_preds {acc : List Fp} : ∀ {l : List Edge} {p : Nat}, p ∈ preds acc l → ∃ e ∈ l, Region.binds .any e = true ∧ (p = e.on ∨ ∃ f, e.on < acc.length ∧ acc[acc.length - e.on - 1]? = some f ∧ p ∈ f.pre)
  | [], p, h => by cases h
  | e :: t, p, h => by
    simp only [preds, cond_eq_ite] at h
    split at h
    · rename_i hb
      rcases List.mem_cons.1 h with rfl | h
      · exact ⟨e, List.mem_cons_self, hb, .inl rfl⟩
      · rcases List.mem_append.1 h with h | h
        · split at h
          · rename_i hlt
            split at h
            · rename_i f hf
              exact ⟨e, List.mem_cons_self, hb, .inr ⟨f, by simpa using hlt, hf, h⟩⟩
            · cases h
          · cases h
        · obtain ⟨e', he', h1⟩ := mem_preds h
          exact ⟨e', List.mem_cons_of_mem _ he', h1⟩
    · obtain ⟨e', he', h1⟩ := mem_preds h
      exact ⟨e', List.mem_cons_of_mem _ he', h1⟩

theorem Reg.op (h : Reg P tt ops its st) {i : Nat} {it : It} (hi : its[i]? = some it) : ops[i]? = some it.o := by
  rw [← h.os]; simp [hi]

theorem Reg.len (h : Reg P tt ops its st) : its.length = ops.length := by rw [← h.os]; simp

/-- What one waits for: its edges, and what these wait for. -/
theorem Reg.pre_mem (h : Reg P tt ops its st) {i p : Nat} (hp : p ∈ preOf its i) : ∃ it, its[i]? = some it ∧ ∃ e ∈ it.o.after.toList, Region.binds .any e = true ∧ e.on < i ∧ (p = e.on ∨ p ∈ preOf its e.on) := by
  unfold preOf at hp
  split at hp
  · rename_i it hi
    obtain ⟨_, hok⟩ := h.get i it hi
    rw [(fp_facts hok).2.2] at hp
    obtain ⟨e, he, hb, h1⟩ := mem_preds hp
    have hlt := backE_mem _ _ (backs_get ops 0 i it.o h.back (h.op hi)) e he hb
    rw [Nat.zero_add] at hlt
    refine ⟨it, hi, e, he, hb, hlt, h1.imp id ?_⟩
    rintro ⟨f, h2, h3, h4⟩
    have hil := (List.getElem?_eq_some_iff.1 hi).1
    have hlen : (((its.take i).map (·.fp)).reverse).length = i := by simp; omega
    rw [hlen] at h3
    rw [List.getElem?_reverse (by simp; omega)] at h3
    simp only [List.length_map, List.length_take, Nat.min_eq_left (Nat.le_of_lt hil)] at h3
    rw [show i - 1 - (i - e.on - 1) = e.on by omega, List.getElem?_map, List.getElem?_take, if_pos hlt] at h3
    simp only [Option.map_eq_some_iff] at h3
    obtain ⟨y, hy, rfl⟩ := h3
    simp only [preOf, hy]
    exact h4
  · cases hp

theorem Reg.pre_lt (h : Reg P tt ops its st) : ∀ (i p : Nat), p ∈ preOf its i → p < i := by
  intro i
  induction i using Nat.strongRecOn with
  | _ i ih =>
    intro p hp
    obtain ⟨it, hi, e, he, hb, hlt, h1⟩ := h.pre_mem hp
    rcases h1 with rfl | h1
    · exact hlt
    · have := ih _ hlt p h1; omega

theorem Reg.good_down (h : Reg P tt ops its st) : ∀ n, Good (preOf its) (down n)
  | 0 => .nil
  | n + 1 => .cons n _ (by rw [mem_down]; omega) (fun p hp => by rw [mem_down]; exact h.pre_lt n p hp) (h.good_down n)

theorem Reg.ind_get (h : Reg P tt ops its st) {i j : Nat} {x y : It} (hi : its[i]? = some x) (hj : its[j]? = some y) (hlt : i < j) : i ∈ preOf its j ∨ x.fp.apart y.fp = true := by
  have := indep_get (its.map (·.fp)) h.ind i j x.fp y.fp (by simp [hi]) (by simp [hj]) hlt
  simpa [preOf, hj] using this

theorem wE_some {i t : Nat} (h : (wE its i t).isSome = true) : ∃ it, its[i]? = some it ∧ it.o.dst = some t := by
  unfold wE at h
  split at h
  · rename_i it hi
    split at h
    · exact ⟨it, hi, by assumption⟩
    · cases h
  · cases h

theorem wA_some {i b : Nat} (h : (wA its i b).isSome = true) : ∃ it, its[i]? = some it ∧ b ∈ keys it.res.wr := by
  unfold wA at h
  split at h
  · rename_i it hi
    exact ⟨it, hi, key_of_look h⟩
  · cases h

/-- What an operation looks at is, whatever was done before, what it is in the text's order. -/
theorem Reg.agree (h : Reg P tt ops its st) (g : Good (preOf its) L) {i : Nat} {it : It} (hi : its[i]? = some it) (hn : i ∉ L) (hp : ∀ p ∈ preOf its i, p ∈ L) :
    (∀ t ∈ it.fp.uses, look (stL its st L).env t = look it.st.env t) ∧ (∀ b ∈ it.fp.acc, look (stL its st L).aw b = look it.st.aw b) := by
  obtain ⟨hst, _⟩ := h.get i it hi
  constructor
  · intro t ht
    rw [hst, stL_env, stL_env]
    refine lookF_eq g (h.good_down i) (fun k hk => ?_) (fun k q hk hq hlt => ?_)
    · obtain ⟨y, hy, hd⟩ := wE_some hk
      have hfd := (fp_facts (h.get k y hy).2).1
      rw [mem_down]
      constructor
      · intro hkL
        rcases Nat.lt_trichotomy k i with h1 | rfl | h1
        · exact h1
        · exact absurd hkL hn
        · rcases h.ind_get hi hy h1 with h2 | h2
          · exact absurd (g.sub k hkL i h2) hn
          · simp only [Fp.apart, Bool.and_eq_true] at h2
            exact (apartN_no h2.1.1.1.1.2 (x := t) (by rw [hfd, hd]; simp [optL]) ht).elim
      · intro hlt
        rcases h.ind_get hy hi hlt with h2 | h2
        · exact hp k h2
        · simp only [Fp.apart, Bool.and_eq_true] at h2
          exact (apartN_no h2.1.1.1.1.1 (x := t) (by rw [hfd, hd]; simp [optL]) ht).elim
    · obtain ⟨y, hy, hd⟩ := wE_some hk
      obtain ⟨z, hz, hd2⟩ := wE_some hq
      have hfd := (fp_facts (h.get k y hy).2).1
      have hfd2 := (fp_facts (h.get q z hz).2).1
      rcases h.ind_get hy hz hlt with h2 | h2
      · exact h2
      · simp only [Fp.apart, Bool.and_eq_true] at h2
        exact (apartN_no h2.1.1.1.2 (x := t) (by rw [hfd, hd]; simp [optL]) (by rw [hfd2, hd2]; simp [optL])).elim
  · intro b hb
    rw [hst, stL_aw, stL_aw]
    refine lookF_eq g (h.good_down i) (fun k hk => ?_) (fun k q hk hq hlt => ?_)
    · obtain ⟨y, hy, hd⟩ := wA_some hk
      have hfw := (fp_facts (h.get k y hy).2).2.1
      rw [mem_down]
      constructor
      · intro hkL
        rcases Nat.lt_trichotomy k i with h1 | rfl | h1
        · exact h1
        · exact absurd hkL hn
        · rcases h.ind_get hi hy h1 with h2 | h2
          · exact absurd (g.sub k hkL i h2) hn
          · simp only [Fp.apart, Bool.and_eq_true] at h2
            exact (apartN_no h2.1.2 (x := b) (by rw [hfw]; exact hd) hb).elim
      · intro hlt
        rcases h.ind_get hy hi hlt with h2 | h2
        · exact hp k h2
        · simp only [Fp.apart, Bool.and_eq_true] at h2
          exact (apartN_no h2.1.1.2 (x := b) (by rw [hfw]; exact hd) hb).elim
    · obtain ⟨y, hy, hd⟩ := wA_some hk
      obtain ⟨z, hz, hd2⟩ := wA_some hq
      have hfw := (fp_facts (h.get k y hy).2).2.1
      have hfw2 := (fp_facts (h.get q z hz).2).2.1
      rcases h.ind_get hy hz hlt with h2 | h2
      · exact h2
      · simp only [Fp.apart, Bool.and_eq_true] at h2
        exact (apartN_no h2.2 (x := b) (by rw [hfw]; exact hd) (by rw [hfw2]; exact hd2)).elim

/-- All done: the state is the text's last one. -/
theorem Reg.all (h : Reg P tt ops its st) (g : Good (preOf its) L) (hall : ∀ i, i < its.length → i ∈ L) (hL : ∀ i ∈ L, i < its.length) (hR : RD w0 M H0 its st L E a w) :
    R w0 M H0 E (stL its st (down its.length)) a w := by
  have iff : ∀ i, i ∈ L ↔ i ∈ down its.length := fun i => by rw [mem_down]; exact ⟨hL i, hall i⟩
  have henv : ∀ t, look (stL its st L).env t = look (stL its st (down its.length)).env t := by
    intro t
    rw [stL_env, stL_env]
    refine lookF_eq g (h.good_down _) (fun k _ => iff k) (fun k q hk hq hlt => ?_)
    obtain ⟨y, hy, hd⟩ := wE_some hk
    obtain ⟨z, hz, hd2⟩ := wE_some hq
    have hfd := (fp_facts (h.get k y hy).2).1
    have hfd2 := (fp_facts (h.get q z hz).2).1
    rcases h.ind_get hy hz hlt with h2 | h2
    · exact h2
    · simp only [Fp.apart, Bool.and_eq_true] at h2
      exact (apartN_no h2.1.1.1.2 (x := t) (by rw [hfd, hd]; simp [optL]) (by rw [hfd2, hd2]; simp [optL])).elim
  have haw : ∀ b, look (stL its st L).aw b = look (stL its st (down its.length)).aw b := by
    intro b
    rw [stL_aw, stL_aw]
    refine lookF_eq g (h.good_down _) (fun k _ => iff k) (fun k q hk hq hlt => ?_)
    obtain ⟨y, hy, hd⟩ := wA_some hk
    obtain ⟨z, hz, hd2⟩ := wA_some hq
    have hfw := (fp_facts (h.get k y hy).2).2.1
    have hfw2 := (fp_facts (h.get q z hz).2).2.1
    rcases h.ind_get hy hz hlt with h2 | h2
    · exact h2
    · simp only [Fp.apart, Bool.and_eq_true] at h2
      exact (apartN_no h2.2 (x := b) (by rw [hfw]; exact hd) (by rw [hfw2]; exact hd2)).elim
  refine ⟨fun t v hv => hR.env t v (by rw [henv]; exact hv), ⟨fun i b hb => hR.wr.blk i b (by rw [haw]; exact hb), hR.wr.ro, fun i j b x y h1 h2 h3 h4 => hR.wr.inj i j b x y (by rw [haw]; exact h1) h2 (by rw [haw]; exact h3) h4, hR.wr.dom, hR.wr.none_n, hR.wr.frame⟩, ?_, hR.hle, hR.hnew, ?_, hR.dfs⟩
  · intro i x hx
    rcases hR.used i x hx with h1 | ⟨k, it, hk, hit, h2, h3⟩
    · have := stL_n0 its st (down its.length); omega
    · have := stL_n its st its.length (Nat.le_refl _) k it hit (List.getElem?_eq_some_iff.1 hit).1
      omega
  · rw [stL_sz]; exact hR.sz

theorem nodup_le : ∀ (N : Nat) (l : List Nat), l.Nodup → (∀ i ∈ l, i < N) → l.length ≤ N
  | 0, [], _, _ => Nat.le_refl _
  | 0, x :: t, _, h => absurd (h x List.mem_cons_self) (Nat.not_lt_zero _)
  | N + 1, l, hd, h => by
    have h1 : (l.erase N).length ≤ N := nodup_le N (l.erase N) (hd.erase N) (fun i hi => by
      have h2 := (hd.mem_erase_iff).1 hi
      have := h i h2.2
      omega)
    have h3 := List.length_erase (a := N) (l := l)
    split at h3 <;> omega

theorem Good.nodup {pre : Nat → List Nat} {l : List Nat} (g : Good pre l) : l.Nodup := by
  induction g with
  | nil => exact List.nodup_nil
  | cons i l h hp g ih => exact List.nodup_cons.2 ⟨h, ih⟩

theorem Reg.any (hTT : TabOK P tt) {Q : Exit → Act → World → Prop} {opa : Array Oper} (hopa : opa.toList = ops) (h : Reg P tt ops its st)
    (hQ : ∀ E a w, R w0 M H0 E (stL its st (down its.length)) a w → Q .normal a w) :
    ∀ (fuel : Nat) (L : List Nat) (listed : Array Bool) (E : Emb) (a : Act) (w : World), listed.size = its.length → (∀ i, i < its.length → listed[i]? = some (decide (i ∈ L))) → L.length + fuel = its.length → (∀ i ∈ L, i < its.length) → Good (preOf its) L →
      RD w0 M H0 its st L E a w → wpAny P .any opa Q fuel listed a w := by
  have hsz : opa.size = its.length := by rw [h.len, ← hopa]; simp
  have hget : ∀ i, opa[i]? = ops[i]? := fun i => by rw [← hopa, Array.getElem?_toList]
  -- all is done where nothing is ready
  have done : ∀ (L : List Nat) (listed : Array Bool), (∀ i, i < its.length → listed[i]? = some (decide (i ∈ L))) → Region.ready .any opa listed = [] → ∀ i, i < its.length → i ∈ L := by
    intro L listed hl hr i
    induction i using Nat.strongRecOn with
    | _ i ih =>
      intro hi
      obtain ⟨it, hit⟩ : ∃ it, its[i]? = some it := ⟨its[i], by simp [hi]⟩
      cases hd : decide (i ∈ L) with
      | true => exact of_decide_eq_true hd
      | false =>
        have : i ∈ Region.ready .any opa listed := by
          unfold Region.ready
          rw [List.mem_filter]
          refine ⟨by rw [List.mem_range, hsz]; exact hi, ?_⟩
          have h1 : listed.getD i true = false := by simp [Array.getD_eq_getD_getElem?, hl i hi, hd]
          rw [h1, hget i, h.op hit]
          simp only [Bool.not_false, Bool.true_and, Option.map_some, Option.getD_some]
          rw [Array.all_eq_true_iff_forall_mem]
          intro e he
          cases hbi : Region.binds .any e with
          | false => simp
          | true =>
          have hlt := backE_mem _ _ (backs_get ops 0 i it.o h.back (h.op hit)) e (by simpa using he) hbi
          rw [Nat.zero_add] at hlt
          have hin := ih e.on hlt (by omega)
          have : listed.getD e.on false = true := by simp [Array.getD_eq_getD_getElem?, hl e.on (by omega), hin]
          simp [this]
        rw [hr] at this; cases this
  have fin : ∀ (L : List Nat) (listed : Array Bool) (E : Emb) (a : Act) (w : World), (∀ i, i < its.length → listed[i]? = some (decide (i ∈ L))) → (∀ i ∈ L, i < its.length) → Good (preOf its) L → RD w0 M H0 its st L E a w → Region.ready .any opa listed = [] → Q .normal a w :=
    fun L listed E a w hl hL g hR hr => hQ E a w (h.all g (done L listed hl hr) hL hR)
  intro fuel
  induction fuel with
  | zero =>
    intro L listed E a w hls hl hlen hL g hR
    have hall : ∀ i, i < its.length → i ∈ L := by
      intro i hi
      cases hd : decide (i ∈ L) with
      | true => exact of_decide_eq_true hd
      | false =>
        have h1 : (i :: L).Nodup := List.nodup_cons.2 ⟨of_decide_eq_false hd, g.nodup⟩
        have := nodup_le its.length (i :: L) h1 (fun j hj => by
          rcases List.mem_cons.1 hj with rfl | hj
          · exact hi
          · exact hL j hj)
        simp only [List.length_cons] at this
        omega
    have hr : Region.ready .any opa listed = [] := by
      unfold Region.ready
      rw [List.filter_eq_nil_iff]
      intro i hi
      rw [List.mem_range, hsz] at hi
      simp [Array.getD_eq_getD_getElem?, hl i hi, hall i hi]
    simp only [wpAny]
    exact ⟨hr, fin L listed E a w hl hL g hR hr⟩
  | succ fuel ih =>
    intro L listed E a w hls hl hlen hL g hR
    simp only [wpAny]
    refine ⟨fin L listed E a w hl hL g hR, fun i hi => ?_⟩
    unfold Region.ready at hi
    rw [List.mem_filter, List.mem_range, hsz] at hi
    obtain ⟨hilt, hi⟩ := hi
    obtain ⟨it, hit⟩ : ∃ it, its[i]? = some it := ⟨its[i], by simp [hilt]⟩
    rw [hget i, h.op hit] at hi
    simp only [Bool.and_eq_true, Bool.not_eq_true', Option.map_some, Option.getD_some] at hi
    obtain ⟨h1, h2⟩ := hi
    have hn : i ∉ L := by
      intro hin
      simp [Array.getD_eq_getD_getElem?, hl i hilt, hin] at h1
    have hp : ∀ p ∈ preOf its i, p ∈ L := by
      intro p hp
      obtain ⟨it', hit', e, he, hb, hlt, h3⟩ := h.pre_mem hp
      rw [hit] at hit'; cases hit'
      rw [Array.all_eq_true_iff_forall_mem] at h2
      have h4 := h2 e (by simpa using he)
      simp only [hb, Bool.not_true, Bool.false_or] at h4
      have hon : e.on ∈ L := by
        simpa [Array.getD_eq_getD_getElem?, hl e.on (by omega)] using h4
      rcases h3 with rfl | h3
      · exact hon
      · exact g.sub _ hon p h3
    obtain ⟨ag1, ag2⟩ := h.agree g hit hn hp
    obtain ⟨hst, hok⟩ := h.get i it hit
    have hopa' : opa = ops.toArray := by rw [← hopa]
    rw [hopa']
    refine it_step hTT hit hst hok (h.op hit) hR hn ag1 ag2 (fun E' a' w' hR' => ?_)
    rw [← hopa']
    refine ih (i :: L) _ E' a' w' (by simpa using hls) (fun k hk => ?_) (by simp only [List.length_cons]; omega) (fun k hk => ?_) (.cons i L hn hp g) hR'
    · rw [Array.getElem?_setIfInBounds]
      by_cases e : i = k
      · subst e
        rw [if_pos rfl, if_pos (by omega)]
        simp
      · rw [if_neg e, hl k hk]
        have : (k ∈ i :: L) ↔ k ∈ L := by
          rw [List.mem_cons]
          exact ⟨fun h => h.resolve_left (Ne.symm e), .inr⟩
        simp [this]
    · rcases List.mem_cons.1 hk with rfl | hk
      · exact hilt
      · exact hL k hk

theorem region_draw (hTT : TabOK P tt) (hmix : P.follows .mixedOrders = true) (id : Nat) (opa : Array Oper) (Q : Exit → St → Prop) (st : St) (h : goOps P std tt true opa.toList Q opa.toList [] st)
    (E : Emb) (a : Act) (w : World) (hR : R w0 M H0 E st a w) : (Code.region id opa true).wp P (QR w0 M H0 Q) a w := by
  obtain ⟨its, stF, hc, hi, hq⟩ := chain_of _ _ _ h
  obtain ⟨h1, h2, h3⟩ := chain_get hc
  simp only [List.append_nil, Bool.and_eq_true] at hi
  have hreg : Reg P tt opa.toList its st := ⟨h1, fun i it hit => by simpa using h3 i it hit, hi.1, hi.2⟩
  have hlen := hreg.len
  subst h2
  refine wp_region_any hmix ?_
  have hsz : opa.size = its.length := by rw [hlen]; simp
  rw [hsz]
  refine hreg.any (w0 := w0) (M := M) (H0 := H0) hTT rfl (fun E' a' w' hR' => ⟨E', _, hR', hq⟩) its.length [] _ E a _ (by simp) (fun i hi => by simp [hi]) (by simp) (fun i hi => by cases hi) .nil ?_
  have hn0 := stL_n0 its st (down its.length)
  refine ⟨hR.env, ⟨hR.wr.blk, hR.wr.ro, hR.wr.inj, hR.wr.dom, ?_, ⟨hR.wr.frame.os, hR.wr.frame.tape, hR.wr.frame.output, hR.wr.frame.size, hR.wr.frame.block⟩⟩, fun i x hx => .inl (hR.lt i x hx), hR.hle, hR.hnew, hR.sz, hR.dfs⟩
  cases hx : E.ρ (stL its st (down its.length)).n with
  | none => rfl
  | some x => have := hR.lt _ x hx; omega

/-- A FUNCTION IS SPECIFIED by what the abstract executor says of its body. -/
theorem spec_of (hTT : TabOK P tt) (hmix : P.follows .mixedOrders = true) {g : FuncId} {fn : Func} {c : Code} {args : List V} {r : Res} (hf : P.funcs[g]? = some fn) (hb : fn.body = some c) (hn : (fn.name == "runtime.NumGoroutine") = false)
    (hl : args.length ≤ fn.ntmps) (h : ∀ I : Prims, I = std → awp P I tt c (Fin I tt fn.results.toList r) ⟨number args 0, [], 0, fn.ntmps⟩) : Spec P g args r :=
  spec_of_awp hTT (fun w0 H0 id ops Q st h E a w hR => region_draw hTT hmix id ops Q st h E a w hR) hf hb hn hl (h std rfl)
end
end Go.AX

namespace Go.AX
set_option autoImplicit false
set_option linter.unusedVariables false

inductive PK where
  | bin
  | cmp
  | wrap
  | not
  | and
  | eqb
  | toNat
  | ofNat
  | idx
  | add
  | sub
  | rdI
  | rdB
  | rdC
  | rdN
  | app
  | take
  | drop
  | set
  | rep
  | repL
  | minI
  | maxI
  | selI
  | selB
  | eqN
  | inR
  | leN
  | has
  | nz
  | len
  | mulNat
  | minN
  | over

/-- What each word of arithmetic is. -/
abbrev PT : PK → Type
  | .bin => BinOp → IntKind → Int → Int → Int
  | .cmp => BinOp → Int → Int → Bool
  | .wrap => IntKind → Int → Int
  | .not => Bool → Bool
  | .and => Bool → Bool → Bool
  | .eqb => Bool → Bool → Bool
  | .toNat => Int → Nat
  | .ofNat => Nat → Int
  | .idx => Nat → Nat → Nat → Nat
  | .add => Nat → Nat → Nat
  | .sub => Nat → Nat → Nat
  | .rdI => List D → Nat → Int
  | .rdB => List D → Nat → Bool
  | .rdC => List D → Nat → List D
  | .rdN => List D → Nat → Nat
  | .app => List D → List D → List D
  | .take => List D → Nat → List D
  | .drop => List D → Nat → List D
  | .set => List D → Nat → D → List D
  | .rep => Nat → D → List D
  | .repL => Nat → List D → List D
  | .minI => Int → Int → Int
  | .maxI => Int → Int → Int
  | .selI => Bool → Int → Int → Int
  | .selB => Bool → Bool → Bool → Bool
  | .eqN => Nat → Nat → Bool
  | .inR => Int → Int → Nat → Prop
  | .leN => Nat → Nat → Prop
  | .has => List D → Nat → D → Prop
  | .nz => Int → Prop
  | .len => List D → Nat
  | .mulNat => Nat → Nat → Nat
  | .minN => Nat → Nat → Nat
  | .over => List D → Nat → List D → List D

abbrev PF := (k : PK) → PT k

def mkI (J : PF) : Prims where
  bin := J .bin
  cmp := J .cmp
  wrap := J .wrap
  not := J .not
  and := J .and
  eqb := J .eqb
  toNat := J .toNat
  ofNat := J .ofNat
  idx := J .idx
  add := J .add
  sub := J .sub
  rdI := J .rdI
  rdB := J .rdB
  rdC := J .rdC
  rdN := J .rdN
  app := J .app
  take := J .take
  drop := J .drop
  set := J .set
  rep := J .rep
  repL := J .repL
  minI := J .minI
  maxI := J .maxI
  selI := J .selI
  selB := J .selB
  eqN := J .eqN
  inR := J .inR
  leN := J .leN
  has := J .has
  nz := J .nz
  len := J .len
  mulNat := J .mulNat
  minN := J .minN
  over := J .over

def stdJ : PF
  | .bin => std.bin
  | .cmp => std.cmp
  | .wrap => std.wrap
  | .not => std.not
  | .and => std.and
  | .eqb => std.eqb
  | .toNat => std.toNat
  | .ofNat => std.ofNat
  | .idx => std.idx
  | .add => std.add
  | .sub => std.sub
  | .rdI => std.rdI
  | .rdB => std.rdB
  | .rdC => std.rdC
  | .rdN => std.rdN
  | .app => std.app
  | .take => std.take
  | .drop => std.drop
  | .set => std.set
  | .rep => std.rep
  | .repL => std.repL
  | .minI => std.minI
  | .maxI => std.maxI
  | .selI => std.selI
  | .selB => std.selB
  | .eqN => std.eqN
  | .inR => std.inR
  | .leN => std.leN
  | .has => std.has
  | .nz => std.nz
  | .len => std.len
  | .mulNat => std.mulNat
  | .minN => std.minN
  | .over => std.over

theorem mkI_std {J : PF} (h : J = stdJ) : mkI J = std := by subst h; rfl

section
variable {J : PF} (h : J = stdJ)
include h
theorem j_bin : J .bin = binI := by subst h; rfl
theorem j_cmp : J .cmp = cmpI := by subst h; rfl
theorem j_wrap (k : IntKind) (n : Int) : J .wrap k n = k.wrap n := by subst h; rfl
theorem j_not (a : Bool) : J .not a = !a := by subst h; rfl
theorem j_and (a b : Bool) : J .and a b = (a && b) := by subst h; rfl
theorem j_eqb (a b : Bool) : J .eqb a b = (a == b) := by subst h; rfl
theorem j_toNat (a : Int) : J .toNat a = a.toNat := by subst h; rfl
theorem j_ofNat (a : Nat) : J .ofNat a = Int.ofNat a := by subst h; rfl
theorem j_idx (o i k : Nat) : J .idx o i k = o + i * k := by subst h; rfl
theorem j_add (a b : Nat) : J .add a b = a + b := by subst h; rfl
theorem j_sub (a b : Nat) : J .sub a b = a - b := by subst h; rfl
theorem j_rdI (l : List D) (i : Nat) : J .rdI l i = (l.getD i default).toI := by subst h; rfl
theorem j_rdB (l : List D) (i : Nat) : J .rdB l i = (l.getD i default).toB := by subst h; rfl
theorem j_rdC (l : List D) (i : Nat) : J .rdC l i = (l.getD i default).toC := by subst h; rfl
theorem j_rdN (l : List D) (i : Nat) : J .rdN l i = (l.getD i default).toN := by subst h; rfl
theorem j_app (a b : List D) : J .app a b = a ++ b := by subst h; rfl
theorem j_take (a : List D) (n : Nat) : J .take a n = a.take n := by subst h; rfl
theorem j_drop (a : List D) (n : Nat) : J .drop a n = a.drop n := by subst h; rfl
theorem j_set (a : List D) (n : Nat) (d : D) : J .set a n d = a.set n d := by subst h; rfl
theorem j_rep (n : Nat) (d : D) : J .rep n d = List.replicate n d := by subst h; rfl
theorem j_repL (n : Nat) (d : List D) : J .repL n d = (List.replicate n d).flatten := by subst h; rfl
theorem j_minI (a b : Int) : J .minI a b = if b < a then b else a := by subst h; rfl
theorem j_maxI (a b : Int) : J .maxI a b = if b > a then b else a := by subst h; rfl
theorem j_selI (c : Bool) (a b : Int) : J .selI c a b = if c then a else b := by subst h; rfl
theorem j_selB (c : Bool) (a b : Bool) : J .selB c a b = if c then a else b := by subst h; rfl
theorem j_eqN (a b : Nat) : J .eqN a b = (a == b) := by subst h; rfl
theorem j_inR (lo i : Int) (n : Nat) : J .inR lo i n = (lo ≤ i ∧ i < (n : Int)) := by subst h; rfl
theorem j_leN (a b : Nat) : J .leN a b = (a ≤ b) := by subst h; rfl
theorem j_has (l : List D) (i : Nat) (d : D) : J .has l i d = (l[i]? = some d) := by subst h; rfl
theorem j_nz (a : Int) : J .nz a = (a ≠ 0) := by subst h; rfl
theorem j_len (l : List D) : J .len l = l.length := by subst h; rfl
theorem j_mulNat (a b : Nat) : J .mulNat a b = a * b := by subst h; rfl
end

def ints (l : List Int) : List D := l.map (.int .i64)

theorem ints_len (l : List Int) : (ints l).length = l.length := by simp [ints]
theorem ints_rd (l : List Int) (i : Nat) : ((ints l).getD i default).toI = l.getD i 0 := by
  by_cases h : i < l.length
  · simp [ints, List.getD_eq_getElem?_getD, h, D.toI]
  · simp [ints, List.getD_eq_getElem?_getD, h]; rfl
theorem ints_has (l : List Int) (i : Nat) : ((ints l)[i]? = some (.int .i64 (l.getD i 0))) ↔ i < l.length := by
  by_cases h : i < l.length
  · simp [ints, h]
  · simp [ints, h]
theorem ints_app (a b : List Int) : ints a ++ ints b = ints (a ++ b) := by simp [ints]
theorem ints_take (a : List Int) (n : Nat) : (ints a).take n = ints (a.take n) := by simp [ints, List.map_take]
theorem ints_drop (a : List Int) (n : Nat) : (ints a).drop n = ints (a.drop n) := by simp [ints, List.map_drop]
theorem ints_set (a : List Int) (n : Nat) (x : Int) : (ints a).set n (.int .i64 x) = ints (a.set n x) := by simp [ints, List.map_set]
theorem rd_of {l : List Int} {cs : List D} (h : ints l = cs) (i : Nat) : (cs.getD i default).toI = l.getD i 0 := by subst h; exact ints_rd l i
theorem has_of {l : List Int} {cs : List D} (h : ints l = cs) (i : Nat) : (cs[i]? = some (.int .i64 (l.getD i 0))) = (i < l.length) := by subst h; exact propext (ints_has l i)
theorem len_of {l : List Int} {cs : List D} (h : ints l = cs) : cs.length = l.length := by subst h; exact ints_len l
theorem toNat_of (i : Nat) : (Int.ofNat i).toNat = i := rfl
theorem rd1 {J : PF} (hJ : J = stdJ) {l : List Int} {cs : List D} (h : ints l = cs) (x : Int) : J .rdI cs (J .add (J .idx 0 (J .toNat x) 1) 0) = l.getD x.toNat 0 := by
  rw [j_rdI hJ, j_add hJ, j_idx hJ, j_toNat hJ, rd_of h]; simp
theorem in1 {J : PF} (hJ : J = stdJ) {i n : Nat} (h : i < n) : J .inR 0 (Int.ofNat i) n := by
  rw [j_inR hJ]; exact ⟨Int.natCast_nonneg _, Int.ofNat_lt.2 h⟩
theorem has1 {J : PF} (hJ : J = stdJ) {l : List Int} {cs : List D} (h : ints l = cs) {i : Nat} (hi : i < l.length) : J .has cs (J .add (J .idx 0 (J .toNat (Int.ofNat i)) 1) 0) (.int .i64 (l.getD i 0)) := by
  rw [j_has hJ, j_add hJ, j_idx hJ, j_toNat hJ, toNat_of, Nat.zero_add, Nat.mul_one, Nat.add_zero, has_of h]; exact hi
theorem in1x {J : PF} (hJ : J = stdJ) {x : Int} {n : Nat} (h : 0 ≤ x ∧ x < (n : Int)) : J .inR 0 x n := by
  rw [j_inR hJ]; exact h
theorem has1x {J : PF} (hJ : J = stdJ) {l : List Int} {cs : List D} (h : ints l = cs) {x : Int} {n : Nat} (hn : l.length = n) (hx : 0 ≤ x ∧ x < (n : Int)) : J .has cs (J .add (J .idx 0 (J .toNat x) 1) 0) (.int .i64 (l.getD x.toNat 0)) := by
  rw [j_has hJ, j_add hJ, j_idx hJ, j_toNat hJ, Nat.zero_add, Nat.mul_one, Nat.add_zero, has_of h]; omega
theorem set1 {J : PF} (hJ : J = stdJ) {l : List Int} {cs : List D} (h : ints l = cs) (x v : Int) : J .set cs (J .add (J .idx 0 (J .toNat x) 1) 0) (.int .i64 v) = ints (l.set x.toNat v) := by
  subst h hJ
  show (ints l).set (0 + x.toNat * 1 + 0) _ = _
  rw [Nat.zero_add, Nat.mul_one, Nat.add_zero]
  simp [ints, List.map_set]
theorem le1x {J : PF} (hJ : J = stdJ) {l : List Int} {cs : List D} (h : ints l = cs) {x : Int} {n : Nat} (hn : l.length = n) (hx : 0 ≤ x ∧ x < (n : Int)) : J .leN (J .add (J .idx 0 (J .toNat x) 1) 1) (J .len cs) := by
  subst h hJ
  show 0 + x.toNat * 1 + 1 ≤ (ints l).length
  rw [ints_len]; omega
theorem le3 {J : PF} (hJ : J = stdJ) {i n : Nat} (h : i < n) : J .leN (J .add (J .idx 0 (J .toNat (Int.ofNat i)) 1) 1) n := by
  subst hJ
  show 0 + (Int.ofNat i).toNat * 1 + 1 ≤ n
  rw [toNat_of]; omega
theorem sel1 {J : PF} (hJ : J = stdJ) (s k : Nat) (a b : Int) : J .selI (J .eqN (J .idx 0 (J .toNat (Int.ofNat s)) 1) k) a b = if s = k then a else b := by
  subst hJ
  show (if (0 + (Int.ofNat s).toNat * 1 == k) = true then a else b) = _
  rw [toNat_of, Nat.zero_add, Nat.mul_one]; simp
theorem getD_set {l : List Int} {k n : Nat} (hn : l.length = n) (h : k < n) (v : Int) : (l.set k v).getD k 0 = v := by
  subst hn; simp [List.getD_eq_getElem?_getD, h]
theorem j_inc {J : PF} (hJ : J = stdJ) {i : Nat} (h : i ≤ 4611686018427387904) : J .bin .add .i64 (Int.ofNat i) 1 = Int.ofNat (i + 1) := by
  rw [j_bin hJ]
  simp only [binI]
  rw [IntKind.wrap_i64]
  have : Int.ofNat i = (i : Int) := rfl
  have : Int.ofNat (i + 1) = (i : Int) + 1 := rfl
  omega
theorem j_lss {J : PF} (hJ : J = stdJ) (i n : Nat) : J .cmp .lss (Int.ofNat i) (J .ofNat n) = decide (i < n) := by
  subst hJ; show cmpI .lss (Int.ofNat i) (Int.ofNat n) = _; simp [cmpI]
theorem j_eql {J : PF} (hJ : J = stdJ) (a b : Int) : J .cmp .eql a b = decide (a = b) := by
  subst hJ; show cmpI .eql a b = _; simp [cmpI]; rfl
theorem j_neq {J : PF} (hJ : J = stdJ) (a b : Int) : J .cmp .neq a b = decide (a ≠ b) := by
  subst hJ; show cmpI .neq a b = _; simp [cmpI]; rfl
theorem j_lt {J : PF} (hJ : J = stdJ) (a b : Int) : J .cmp .lss a b = decide (a < b) := by
  subst hJ; rfl
theorem j_le {J : PF} (hJ : J = stdJ) (a b : Int) : J .cmp .leq a b = decide (a ≤ b) := by
  subst hJ; rfl
theorem j_gt {J : PF} (hJ : J = stdJ) (a b : Int) : J .cmp .gtr a b = decide (b < a) := by
  subst hJ; rfl
theorem j_ge {J : PF} (hJ : J = stdJ) (a b : Int) : J .cmp .geq a b = decide (b ≤ a) := by
  subst hJ; rfl
theorem inR_nat (i n : Nat) : ((0 : Int) ≤ Int.ofNat i ∧ Int.ofNat i < (n : Int)) ↔ i < n := by
  constructor
  · rintro ⟨_, h⟩; exact Int.ofNat_lt.1 h
  · intro h; exact ⟨Int.natCast_nonneg _, Int.ofNat_lt.2 h⟩

section
variable {J : PF} {tt : TT} {rs : List ResultVar} {st : St}
theorem fin_d {x : D} (hX : resV tt st rs = some (.d x)) : FinP (mkI J) tt rs st ⟨.d x, [], 0, True⟩ := ⟨[], st, _, [], rfl, hX, rfl, rfl⟩
theorem fin_own {id n k : Nat} {l : List D} {k' : Nat} {e : TypeId} (hX : resV tt st rs = some (.own id n k)) (ha : look st.aw id = some (.row l k' e)) : FinP (mkI J) tt rs st ⟨.own 0 n k, [(0, .row l k' e)], 1, True⟩ := by
  refine ⟨[], st, _, [(id, 0)], rfl, hX, ?_, ?_⟩
  · simp [V.out, look]
  · simp [St.view, outEnv, outAw, ha, Blk.out, distinctN, news, allLt, keys, memN]; rfl
end
end Go.AX
