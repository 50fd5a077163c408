/- The abstract executor: whatever operation there is. The abstract executor: maps; structs that hold arrays, compared. The abstract executor: operations on maps, in the machine. The abstract executor: a map that is gone through. The abstract executor: regions, code, calls. The abstract executor: it is sound, where regions run in order. The abstract executor: a state seen anew: blocks renamed, those that are let go frozen. The abstract executor: loops, code. The abstract executor: what a function comes to. The abstract executor: calls. The abstract executor: regions that draw their order. The abstract executor: regions that draw their order, run. The abstract executor: regions that draw their order are sound. The abstract executor: arithmetic, told by a function that is a variable. -/
import Derived.MapKept
import Derived.Lib.SliceRun
import Derived.Orders
import Derived.IntWalk
import Derived.Test.YtgphlcbjgcogkaaKa
namespace Go.AX
set_option autoImplicit false
set_option linter.unusedVariables false

def okEq (P : Program) : List (Nat × TI) → Bool
  | [] => true
  | (t, ti) :: r => (!ti.eq || (match kinds ti.leaves, eqTy P 40 t with | some a, some b => decide (a = b) | _, _ => false) && !P.eqGuardType P.depth t) && okEq P r

/-- Of a struct whose fields are whole numbers: each can be a key. -/
def flatKey (P : Program) (t : TypeId) : Bool :=
  match P.underlying t with
  | some (.int _) => true
  | some (.struct fs) => fs.toList.all fun f => (P.info? f.type).isSome && Nat.ble (f.offset + P.cellsOf f.type) (P.cellsOf t) && Nat.blt 0 (P.cellsOf f.type) && (match P.underlying f.type with | some (.int _) => true | _ => false)
  | _ => false

def okKeys (P : Program) : List (Nat × TI) → Bool
  | [] => true
  | (t, ti) :: r => (match ti.td with | .map k _ => flatKey P k | _ => true) && okKeys P r
theorem okKeys_ok {P : Program} : ∀ {l : List (Nat × TI)}, okKeys P l = true → ∀ t ti k e, look l t = some ti → ti.td = .map k e → flatKey P k = true
  | [], _ => fun t ti k e h => by cases h
  | (t', ti') :: r, h => fun t ti k e hl ht => by
    simp only [okKeys, Bool.and_eq_true] at h
    rw [look_cons] at hl
    split at hl
    · rename_i eq; cases hl; have := h.1; rw [ht] at this; exact this
    · exact okKeys_ok h.2 t ti k e hl ht

structure TabOK (P : Program) (tt : TT) : Prop where
  types : TTok P tt
  eqs : ∀ t ti, tt t = some ti → ti.eq = true → ∃ ks, kinds ti.leaves = some ks ∧ eqTy P 40 t = some ks ∧ P.eqGuardType P.depth t = false
  keys : ∀ t ti k e, tt t = some ti → ti.td = .map k e → flatKey P k = true

theorem okEq_ok {P : Program} : ∀ {tt : List (Nat × TI)}, okEq P tt = true → ∀ t ti, look tt t = some ti → ti.eq = true → ∃ ks, kinds ti.leaves = some ks ∧ eqTy P 40 t = some ks ∧ P.eqGuardType P.depth t = false
  | [], _ => fun t ti h => by cases h
  | (t', ti') :: r, h => fun t ti hl he => by
    simp only [okEq, Bool.and_eq_true] at h
    rw [look_cons] at hl
    split at hl
    · rename_i e
      cases hl; subst e
      have h1 := h.1
      rw [he] at h1
      simp only [Bool.not_true, Bool.false_or, Bool.and_eq_true, Bool.not_eq_true'] at h1
      obtain ⟨h1, h2⟩ := h1
      split at h1
      · rename_i a b ha hb
        have := of_decide_eq_true h1
        subst this
        exact ⟨a, ha, hb, h2⟩
      · cases h1
    · exact okEq_ok h.2 t ti hl he

theorem tabOK {P : Program} {l : List (Nat × TI)} (h : (okTT P l && okEq P l && okKeys P l) = true) : TabOK P (look l) := by
  simp only [Bool.and_eq_true] at h
  exact ⟨okTT_ok h.1.1, okEq_ok h.1.2, okKeys_ok h.2⟩

section
variable {P : Program} {w0 : World} {M : Nat → Prop} {E : Emb} {aw : List (Nat × Blk)} {n : Nat} {w : World}

theorem op_eqAgg (hW : WR w0 M E aw n w) {o : Oper} {a : Act} {t t' : TypeId} {ti : TI} {b : BinOp} {x y : Operand} (hT : TIok P t ti) (ha : ti.agg = true) {ks : List (Option IntKind)} (hk : eqTy P 40 t = some ks) (hg : P.eqGuardType P.depth t = false)
    (ho : o.op = .binOp b t x y t') {v u : V} (hv : repV E v (a.eval x)) (hu : repV E u (a.eval y)) {r : Res} (h : rEqAgg std ks b v u = some r) : OpDid P o a aw E n w r := by
  unfold rEqAgg at h
  split at h
  case h_2 => cases h
  rename_i l m
  simp only [repV] at hv hu
  obtain ⟨xs, hx, hxc⟩ := hv
  obtain ⟨ys, hy, hyc⟩ := hu
  obtain ⟨i, z, d, _, _, _, _, _, hun, _, hag, _⟩ := hT.info
  rw [ha] at hag
  have hw : ∀ zs : Array Value, wrapV P t zs.toList = .agg zs := by
    intro zs; unfold wrapV; rw [hun]
    cases d <;> first | rfl | cases hag
  have run : ∀ (q : List Bool), eqList std ks l m = some q → (Op.equalIn 10000 t (.agg xs) (.agg ys)).run P w = .ok (q.all id) w := by
    intro q hq
    have h1 := eqList_vals ks l m q hq _ _ hxc hyc
    have h2 := eq_run 40 t ks hk _ _ _ h1 10000 w (by omega)
    rwa [hw, hw] at h2
  have hex : ∀ z, (binOp b t (.agg xs) (.agg ys)).run P w = .ok z w → (execOp a.eval o).run P w = .ok (.value z) w := by
    intro z hz
    refine exec_value (do eqGuard b t x y (a.eval x) (a.eval y); binOp b t (a.eval x) (a.eval y)) (by unfold execOp; simp only [ho]) ?_
    rw [hx, hy]
    simp only [Sem.run_bind, run_eqGuard_agg w b t x y xs ys hg, Result.andThen_ok, hz]
  split at h
  · rename_i q hq
    cases h
    refine OpDid.pure hW (v := .bool (q.all id)) (hex _ ?_) rfl (by simp only [repV, repD, conj_std])
    rw [run_eql_struct w t xs ys, run q hq]; rfl
  · rename_i q hq
    cases h
    refine OpDid.pure hW (v := .bool (!(q.all id))) (hex _ ?_) rfl (by simp only [repV, repD, conj_std]; rfl)
    rw [run_neq_struct w t xs ys, run q hq]; rfl
  · cases h

theorem tdSlice_eq {tt : TT} {t e : TypeId} {te : TI} (hTT : TTok P tt) (h : tdSlice tt t = some (e, te)) : P.underlying t = some (.slice e) ∧ TIok P e te := by
  unfold tdSlice at h
  split at h
  · rename_i ti hti
    split at h
    · rename_i e' htd
      split at h
      · rename_i te' hte
        cases h
        exact ⟨(hTT t ti hti).slice htd, hTT _ _ hte⟩
      · cases h
    · cases h
  · cases h

theorem op_two {a : Act} {b : Builtin} {args : Array Operand} {ts : Array TypeId} {op : Op} {vs : List V} {mx : Bool} {r : Res} {C : Prop} (ho : op = .call ⟨.builtin b, args, ts⟩) (hvs : repVs E vs (op.operands.toList.map a.eval)) (h : rMinMax std mx vs = some r)
    (k : ∀ x y, args = #[x, y] → ∀ u v, repV E u (a.eval x) → repV E v (a.eval y) → rMinMax std mx [u, v] = some r → C) : C := by
  subst ho
  have h4 : repVs E vs (args.toList.map a.eval) := by simpa [Op.operands, Call.operands] using hvs
  have h0 := h
  unfold rMinMax at h
  split at h
  · obtain ⟨u, v, he, hu, hv⟩ := repVs_two h4
    have hl : args.toList.length = 2 := by have := congrArg List.length he; simpa using this
    obtain ⟨y, z, hyz⟩ : ∃ y z, args.toList = [y, z] := by
      match hh : args.toList, hl with
      | [y, z], _ => exact ⟨y, z, rfl⟩
    rw [hyz] at he
    cases he
    exact k y z (Array.toList_inj.1 hyz) _ _ hu hv h0
  · cases h

/-- WHATEVER OPERATION THERE IS: what the abstract executor says, the machine does. -/
theorem op_ok {tt : TT} (hTT : TabOK P tt) (hW : WR w0 M E aw n w) {o : Oper} {a : Act} {vs : List V} (hvs : repVs E vs (o.op.operands.toList.map a.eval)) {bs : List Blk} (hbs : blks aw (accOf o.op vs) = some bs)
    {r : Res} (h : opR std tt o.op vs bs n = some r) (hs : r.side) : OpDid P o a aw E n w r := by
  obtain ⟨dst, op, ty, pos, after, guard⟩ := o
  simp only at hvs hbs h
  unfold opR at h
  split at h
  · -- move
    rename_i x v
    cases h
    obtain ⟨u, e, hv⟩ := repVs_one (by simpa [Op.operands] using hvs)
    cases e
    exact op_move hW (.inl rfl) hv
  · rename_i x v
    cases h
    obtain ⟨u, e, hv⟩ := repVs_one (by simpa [Op.operands] using hvs)
    cases e
    exact op_move hW (.inr rfl) hv
  · rename_i t x v
    simp only [cond_eq_ite] at h
    split at h
    · rename_i hn
      cases h
      obtain ⟨u, e, hv⟩ := repVs_one (by simpa [Op.operands] using hvs)
      cases e
      exact op_box hW rfl hv hn
    · cases h
  · rename_i t
    split at h
    · rename_i ti hti
      cases h
      exact op_alloc hW (hTT.types _ _ hti) rfl
    · cases h
  · -- build
    rename_i t parts
    have hv : repVs E vs (parts.toList.map fun p => a.eval p.2) := by simpa [Op.operands, Function.comp_def] using hvs
    split at h
    · rename_i ti hti
      have hT := hTT.types _ _ hti
      split at h
      · rename_i fs htd
        split at h
        · rename_i l hl
          cases h
          obtain ⟨gs, h1, h2, h3⟩ := hT.struct htd
          refine op_build hW hT rfl (.inl ⟨gs, h1, h3, fun i o' s hp => ?_⟩) hv hl
          split at hp
          · rename_i o2 ft hof
            split at hp
            · rename_i tf htf
              cases hp
              obtain ⟨g, hg1, hg2, hg3⟩ := fsEq_get _ _ h2 _ _ _ hof
              obtain ⟨inf, _, _, hi, hsz, _⟩ := (hTT.types _ _ htf).info
              exact ⟨g, inf, hg1, by rw [hg3]; exact hi, hg2, hsz⟩
            · cases hp
          · cases hp
        · cases h
      · rename_i m e htd
        split at h
        · rename_i te hte
          split at h
          · rename_i l hl
            cases h
            obtain ⟨inf, _, _, hi, hsz, _⟩ := (hTT.types _ _ hte).info
            exact op_build hW hT rfl (.inr ⟨m, e, inf, hT.array htd, hi, fun i o' s hp => by cases hp; exact ⟨by rw [hsz]; rfl, hsz.symm⟩⟩) hv hl
          · cases h
        · cases h
      · cases h
    · cases h
  · -- buildSlice
    rename_i t len parts
    have hv : repVs E vs (parts.toList.map fun p => a.eval p.2) := by simpa [Op.operands, Function.comp_def] using hvs
    split at h
    · rename_i e te hsl
      obtain ⟨h1, h2⟩ := tdSlice_eq hTT.types hsl
      simp only [cond_eq_ite, Bool.and_eq_true, Bool.not_eq_true'] at h
      split at h
      · rename_i hc
        obtain ⟨⟨⟨⟨hz, hl⟩, hlv⟩, hin⟩, hsz⟩ := hc
        split at h
        · rename_i ds hds
          cases h
          exact op_buildSlice hW h1 h2 (by intro e; rw [e] at hz; cases hz) rfl hv (Nat.eq_of_beq_eq_true hl) (Nat.eq_of_beq_eq_true hlv) hin hsz hds hs
        · cases h
      · cases h
    · cases h
  · -- load
    rename_i t x v
    obtain ⟨u, e, hv⟩ := repVs_one (by simpa [Op.operands] using hvs)
    cases e
    split at h
    · rename_i ti hti
      exact op_load hW (hTT.types _ _ hti) rfl hv hbs h hs
    · cases h
  · -- store
    rename_i t x y v u
    obtain ⟨p, q, e, hv, hu⟩ := repVs_two (by simpa [Op.operands] using hvs)
    cases e
    split at h
    · rename_i ti hti
      exact op_store hW (hTT.types _ _ hti) rfl hv hu hbs h hs
    · cases h
  · -- nilCheck
    rename_i x v
    obtain ⟨u, e, hv⟩ := repVs_one (by simpa [Op.operands] using hvs)
    cases e
    have hp : ∃ p, a.eval x = .pointer (some p) := by
      split at h
      · simp only [repV] at hv; obtain ⟨_, _, h⟩ := hv; exact ⟨_, h⟩
      · simp only [repV] at hv; obtain ⟨_, _, _, h⟩ := hv; exact ⟨_, h⟩
      · simp only [repV] at hv; obtain ⟨_, _, h⟩ := hv; exact ⟨_, h⟩
      · simp only [repV] at hv; obtain ⟨_, _, _, _, _, h, _⟩ := hv; exact ⟨_, h⟩
      · cases h
    have hr : r = ⟨v, [], 0, True⟩ := by
      split at h <;> first | (cases h; rfl) | cases h
    subst hr
    exact op_nilCheck hW rfl hv hp
  · -- binOp
    rename_i b t x y t' v u
    obtain ⟨p, q, e, hv, hu⟩ := repVs_two (by simpa [Op.operands] using hvs)
    cases e
    split at h
    · split at h
      · rename_i ti hti
        simp only [cond_eq_ite, Bool.and_eq_true] at h
        split at h
        · rename_i hc
          obtain ⟨ks, hk, hk2, hg⟩ := hTT.eqs _ _ hti hc.2
          rw [hk] at h
          exact op_eqAgg hW (hTT.types _ _ hti) hc.1 hk2 hg rfl hv hu h
        · cases h
      · cases h
    · split at h
      · rename_i ti hti
        split at h
        · rename_i htd
          exact op_bin hW rfl hv hu h hs (fun z _ => (hTT.types _ _ hti).boolT htd)
        · cases h
      · cases h
    · rename_i hne1 hne2
      exact op_bin hW rfl hv hu h hs (fun z hz => absurd hz (hne2 z))
  · -- unOp
    rename_i u t x v
    obtain ⟨p, e, hv⟩ := repVs_one (by simpa [Op.operands] using hvs)
    cases e
    exact op_un hW rfl hv h
  · -- pick
    rename_i x y z c u v
    have hvs3 := hvs
    simp only [Op.operands, List.map_cons, List.map_nil, repVs] at hvs3
    obtain ⟨p1, q1, e1, hv, p2, q2, e2, hu, p3, q3, e3, hz, e4⟩ := hvs3
    cases e1; cases e2; cases e3
    exact op_pick hW rfl hv hu hz h hs
  · -- convert
    rename_i s t x v
    obtain ⟨p, e, hv⟩ := repVs_one (by simpa [Op.operands] using hvs)
    cases e
    split at h
    case h_2 => cases h
    rename_i si hsi
    split at h
    · rename_i k j y hk
      cases h
      unfold kindOf at hk
      split at hk
      · rename_i ti hti
        split at hk
        · rename_i k' htd
          cases hk
          exact op_convert hW (by obtain ⟨_, _, d, _, _, _, _, _, hd, _⟩ := (hTT.types _ _ hsi).info; exact ⟨d, hd⟩) ((hTT.types _ _ hti).int htd) rfl hv
        · cases hk
      · cases hk
    · cases h
  · -- field
    rename_i t x f v
    obtain ⟨p, e, hv⟩ := repVs_one (by simpa [Op.operands] using hvs)
    cases e
    split at h
    · rename_i ti hti
      split at h
      · rename_i fs htd
        split at h
        · rename_i off ft hof
          split at h
          · rename_i tf htf
            exact op_field hW (hTT.types _ _ hti) (hTT.types _ _ htf) htd hof rfl hv h
          · cases h
        · cases h
      · cases h
    · cases h
  · -- fieldAddr
    rename_i t x f v
    obtain ⟨p, e, hv⟩ := repVs_one (by simpa [Op.operands] using hvs)
    cases e
    split at h
    · rename_i ti hti
      split at h
      · rename_i fs htd
        split at h
        · rename_i off ft hof
          split at h
          · rename_i tf htf
            simp only [cond_eq_ite] at h
            split at h
            · cases h
            · rename_i hz
              exact op_fieldAddr hW (hTT.types _ _ hti) (hTT.types _ _ htf) htd hof (by intro e; rw [e] at hz; exact hz rfl) rfl hv h
          · cases h
        · cases h
      · cases h
    · cases h
  · -- indexAddr
    rename_i t x ix v i
    obtain ⟨p, q, e, hv, hu⟩ := repVs_two (by simpa [Op.operands] using hvs)
    cases e
    split at h
    · rename_i ti hti
      split at h
      · rename_i m e htd
        split at h
        · rename_i te hte
          exact op_indexAddr hW litIx_eq (hTT.types _ _ hte) (arr := some m) ((hTT.types _ _ hti).array htd) rfl hv hu h hs
        · cases h
      · rename_i e htd
        split at h
        · rename_i te hte
          exact op_indexAddr hW (fun _ h => h) (hTT.types _ _ hte) (arr := none) ((hTT.types _ _ hti).slice htd) rfl hv hu h hs
        · cases h
      · cases h
    · cases h
  · -- index
    rename_i t x ix v i
    obtain ⟨p, q, e, hv, hu⟩ := repVs_two (by simpa [Op.operands] using hvs)
    cases e
    split at h
    · rename_i ti hti
      split at h
      · rename_i m e htd
        split at h
        · rename_i te hte
          exact op_index hW ((hTT.types _ _ hti).array htd) (hTT.types _ _ hte) rfl hv hu litIx_eq h hs
        · cases h
      · cases h
    · cases h
  · -- extract
    rename_i x i l
    obtain ⟨p, e, hv⟩ := repVs_one (by simpa [Op.operands] using hvs)
    cases e
    split at h
    · rename_i v hn
      cases h
      exact op_extract hW rfl hv hn
    · cases h
  · -- slice
    rename_i t x lo hi
    split at h
    · rename_i ti hti
      split at h
      · rename_i e htd
        split at h
        · rename_i te hte
          have ht := (hTT.types _ _ hti).slice htd
          have hE := hTT.types _ _ hte
          split at h
          · obtain ⟨p, e, hv⟩ := repVs_one (by simpa [Op.operands] using hvs)
            cases e
            exact op_slice hW ht hE rfl hv trivial trivial h hs
          · obtain ⟨p, q, e, hv, hu⟩ := repVs_two (by simpa [Op.operands] using hvs)
            cases e
            simp only [cond_eq_ite] at h
            split at h
            · exact op_slaFrom hW ht hE rfl hv h hs
            · exact op_slice hW ht hE rfl hv hu trivial h hs
          · obtain ⟨p, q, e, hv, hu⟩ := repVs_two (by simpa [Op.operands] using hvs)
            cases e
            exact op_slice hW ht hE rfl hv trivial hu h hs
          · have hvs3 := hvs
            simp only [Op.operands, Option.toArray_some, Option.toArray_none, Array.toList_append, List.map_cons, List.map_nil, List.cons_append, List.nil_append, List.append_nil, repVs] at hvs3
            obtain ⟨p1, q1, e1, hv, p2, q2, e2, hu, p3, q3, e3, hz, e4⟩ := hvs3
            cases e1; cases e2; cases e3
            exact op_slice hW ht hE rfl hv hu hz h hs
          · cases h
        · cases h
      · rename_i m e htd
        split at h
        · rename_i te hte
          have ht := (hTT.types _ _ hti).array htd
          have hE := hTT.types _ _ hte
          split at h
          · obtain ⟨p, e, hv⟩ := repVs_one (by simpa [Op.operands] using hvs)
            cases e
            exact op_sliceArr hW ht hE rfl hv trivial h hs
          · obtain ⟨p, q, e, hv, hu⟩ := repVs_two (by simpa [Op.operands] using hvs)
            cases e
            exact op_sliceArr hW ht hE rfl hv hu h hs
          · obtain ⟨p, q, e, hv, hu⟩ := repVs_two (by simpa [Op.operands] using hvs)
            cases e
            exact op_arrFrom hW ht hE rfl hv h hs
          · cases h
        · cases h
      · cases h
    · cases h
  · -- makeSlice
    rename_i t x y l c
    obtain ⟨p, q, e, hv, hu⟩ := repVs_two (by simpa [Op.operands] using hvs)
    cases e
    split at h
    · rename_i e te hsl
      obtain ⟨h1, h2⟩ := tdSlice_eq hTT.types hsl
      simp only [cond_eq_ite] at h
      split at h
      · cases h
      · rename_i hz
        exact op_make hW h1 h2 rfl hv hu h hs (by intro e; rw [e] at hz; exact hz rfl)
    · cases h
  · -- makeFunc
    rename_i f first cap
    simp only [cond_eq_ite] at h
    split at h
    · rename_i hz
      cases h
      have hz := Nat.eq_of_beq_eq_true hz
      have hfe : first = #[] := Array.eq_empty_of_size_eq_zero hz
      exact op_makeFunc hW hz rfl (by subst hfe; simpa [Op.operands] using hvs)
    · cases h
  · -- len
    rename_i args ts x
    split at h
    · rename_i t hts
      split at h
      · rename_i ti hti
        split at h
        · rename_i e htd
          have h1 : ts = #[t] := Array.toList_inj.1 hts
          have h2 : repVs E [x] (args.toList.map a.eval) := by simpa [Op.operands, Call.operands] using hvs
          obtain ⟨u, he, hv⟩ := repVs_one h2
          obtain ⟨y, hy, rfl⟩ := List.map_eq_singleton_iff.1 he
          have h3 : args = #[y] := Array.toList_inj.1 hy
          subst h1 h3
          exact op_len hW ((hTT.types _ _ hti).slice htd) rfl hv h
        · cases h
      · cases h
    · cases h
  · -- append
    rename_i args ts s x
    split at h
    · rename_i t t' hts
      simp only [cond_eq_ite] at h
      split at h
      · rename_i hb
        have hb := Nat.eq_of_beq_eq_true hb
        subst hb
        split at h
        · rename_i e te hsl
          obtain ⟨h1, h2⟩ := tdSlice_eq hTT.types hsl
          split at h
          · cases h
          · rename_i hz
            have h3 : ts = #[t, t] := Array.toList_inj.1 hts
            have h4 : repVs E [s, x] (args.toList.map a.eval) := by simpa [Op.operands, Call.operands] using hvs
            obtain ⟨u, v, he, hu, hv⟩ := repVs_two h4
            have hl : args.toList.length = 2 := by have := congrArg List.length he; simpa using this
            obtain ⟨y, z, hyz⟩ : ∃ y z, args.toList = [y, z] := by
              match hh : args.toList, hl with
              | [y, z], _ => exact ⟨y, z, rfl⟩
            rw [hyz] at he
            cases he
            have h5 : args = #[y, z] := Array.toList_inj.1 hyz
            subst h3 h5
            exact op_append hW h1 h2 (by intro e; rw [e] at hz; exact hz rfl) rfl hu hv hbs h hs
        · cases h
      · split at h
        · rename_i k e te hk hsl
          obtain ⟨h1, h2⟩ := tdSlice_eq hTT.types hsl
          split at h
          · cases h
          · rename_i hz
            have hk' : P.underlying t' = some (.int k) := by
              unfold kindOf at hk
              split at hk
              · rename_i ti hti
                split at hk
                · rename_i k' htd
                  cases hk
                  exact (hTT.types _ _ hti).int htd
                · cases hk
              · cases hk
            have h3 : ts = #[t, t'] := Array.toList_inj.1 hts
            have h4 : repVs E [s, x] (args.toList.map a.eval) := by simpa [Op.operands, Call.operands] using hvs
            obtain ⟨u, v, he, hu, hv⟩ := repVs_two h4
            have hl : args.toList.length = 2 := by have := congrArg List.length he; simpa using this
            obtain ⟨y, z, hyz⟩ : ∃ y z, args.toList = [y, z] := by
              match hh : args.toList, hl with
              | [y, z], _ => exact ⟨y, z, rfl⟩
            rw [hyz] at he
            cases he
            have h5 : args = #[y, z] := Array.toList_inj.1 hyz
            subst h3 h5
            exact op_grow0 hW h1 hk' h2 (by intro e; rw [e] at hz; exact hz rfl) rfl hu hv h hs
        · cases h
    · cases h
  · -- min
    rename_i args ts
    exact op_two rfl hvs h (fun x y ha u v hu hv hr => by subst ha; exact op_minmax hW (mx := false) rfl hu hv hr)
  · -- max
    rename_i args ts
    exact op_two rfl hvs h (fun x y ha u v hu hv hr => by subst ha; exact op_minmax hW (mx := true) rfl hu hv hr)
  · -- cap of nil
    rename_i args ts
    split at h
    · rename_i t hts
      split at h
      · rename_i et hsl
        cases h
        obtain ⟨h1, _⟩ := tdSlice_eq (e := et.1) (te := et.2) hTT.types hsl
        have h4 : ts = #[t] := Array.toList_inj.1 hts
        have h2 : repVs E [.d .nils] (args.toList.map a.eval) := by simpa [Op.operands, Call.operands] using hvs
        obtain ⟨u, he, hv⟩ := repVs_one h2
        obtain ⟨y, hy, rfl⟩ := List.map_eq_singleton_iff.1 he
        have h3 : args = #[y] := Array.toList_inj.1 hy
        subst h3 h4
        simp only [repV, repD] at hv
        refine OpDid.pure hW (v := .int .i64 0) ?_ rfl (by simp only [repV, repD])
        rw [exec_builtin rfl]
        simp only [builtin, List.map_toArray, List.map_cons, List.map_nil, hv, Sem.run_bind]
        have : (Builtin.cap_ #[t] ty #[.slice none 0 0]).run P w = .ok (.int .i64 0) w := by
          simp [Builtin.cap_, run_underlying h1]; rfl
        rw [this]; rfl
      · cases h
    · cases h
  · -- copy
    rename_i args ts s x
    split at h
    · rename_i t t' hts
      simp only [cond_eq_ite] at h
      split at h
      · rename_i hb
        have hb := Nat.eq_of_beq_eq_true hb
        subst hb
        split at h
        · rename_i e te hsl
          obtain ⟨h1, h2⟩ := tdSlice_eq hTT.types hsl
          split at h
          · cases h
          · rename_i hz
            have h3 : ts = #[t, t] := Array.toList_inj.1 hts
            have h4 : repVs E [s, x] (args.toList.map a.eval) := by simpa [Op.operands, Call.operands] using hvs
            obtain ⟨u, v, he, hu, hv⟩ := repVs_two h4
            have hl : args.toList.length = 2 := by have := congrArg List.length he; simpa using this
            obtain ⟨y, z, hyz⟩ : ∃ y z, args.toList = [y, z] := by
              match hh : args.toList, hl with
              | [y, z], _ => exact ⟨y, z, rfl⟩
            rw [hyz] at he
            cases he
            have h5 : args = #[y, z] := Array.toList_inj.1 hyz
            subst h3 h5
            exact op_copy hW h1 h2 rfl hu hv hbs h hs
        · cases h
      · cases h
    · cases h
  · -- clear
    rename_i args ts s
    split at h
    · rename_i t hts
      split at h
      · rename_i e te hsl
        obtain ⟨h1, h2⟩ := tdSlice_eq hTT.types hsl
        simp only [cond_eq_ite] at h
        split at h
        · cases h
        · rename_i hz
          have h3 : ts = #[t] := Array.toList_inj.1 hts
          have h4 : repVs E [s] (args.toList.map a.eval) := by simpa [Op.operands, Call.operands] using hvs
          obtain ⟨u, he, hu⟩ := repVs_one h4
          have hl : args.toList.length = 1 := by have := congrArg List.length he; simpa using this
          obtain ⟨y, hyz⟩ : ∃ y, args.toList = [y] := List.length_eq_one_iff.1 hl
          rw [hyz] at he
          cases he
          have h5 : args = #[y] := Array.toList_inj.1 hyz
          subst h3 h5
          exact op_clear hW h1 h2 (by simpa using hz) rfl hu hbs h hs
      · cases h
    · cases h
  · cases h
end
end Go.AX

namespace Go.AX
set_option autoImplicit false
set_option linter.unusedVariables false
set_option linter.unusedSimpArgs false

def bEq : Bool → Bool → Bool
  | true, b => b
  | false, b => !b
theorem bEq_eq {a b : Bool} (h : bEq a b = true) : a = b := by cases a <;> cases b <;> first | rfl | cases h
def D.same : D → D → Bool
  | .int j a, .int k b => decide (j = k) && a == b
  | .bool a, .bool b => a == b
  | _, _ => false
def sameL : List D → List D → Bool
  | [], [] => true
  | a :: s, b :: t => a.same b && sameL s t
  | _, _ => false
def mget : List (List D × List D) → List D → Option (List D)
  | [], _ => none
  | p :: t, q => if sameL q p.1 then some p.2 else mget t q
def mset : List (List D × List D) → List D → List D → List (List D × List D)
  | [], q, v => [(q, v)]
  | p :: t, q, v => if sameL q p.1 then (q, v) :: t else p :: mset t q v
def mdel : List (List D × List D) → List D → List (List D × List D)
  | [], _ => []
  | p :: t, q => if sameL q p.1 then t else p :: mdel t q

/-- Cells of some kinds (none: a bool). -/
def ofKinds : List (Option IntKind) → List D → Prop
  | [], [] => True
  | some k :: ks, .int j _ :: t => j = k ∧ ofKinds ks t
  | none :: ks, .bool _ :: t => ofKinds ks t
  | _, _ => False

/-- Are two values of a type with arrays the same? -/
def eqLs : List Leaf → List V → List V → Bool → Prop
  | [], [], [], b => b = true
  | .int k :: ls, .d (.int j x) :: s, .d (.int j' y) :: t, b => j = k ∧ j' = k ∧ ∃ c, eqLs ls s t c ∧ b = ((x == y) && c)
  | .bool :: ls, .d (.bool x) :: s, .d (.bool y) :: t, b => ∃ c, eqLs ls s t c ∧ b = ((x == y) && c)
  | .big n k :: ls, .big m l :: s, .big m' l' :: t, b => m = n ∧ m' = n ∧ ∃ (xs ys : List Int) (c : Bool), l = xs.map (.int k) ∧ l' = ys.map (.int k) ∧ xs.length = n ∧ ys.length = n ∧ eqLs ls s t c ∧ b = ((xs == ys) && c)
  | _, _, _, _ => False

/-- What an operation on a map asks. -/
inductive MA where
  | lk (kk : List (Option IntKind)) (te : TI) (es : List (List D × List D)) (ks : List D) (ck : Bool)
  | up (kk : List (Option IntKind)) (id : Nat) (ka va : Bool) (es : List (List D × List D)) (ks ds : List D)
  | del (kk : List (Option IntKind)) (id : Nat) (ka va : Bool) (es : List (List D × List D)) (ks : List D)
  | mk (ka va : Bool)
  | eq (neg : Bool) (ls : List Leaf) (a b : List V)
  | nilp (neg : Bool)

def tdMap (tt : TT) (t : TypeId) : Option (List (Option IntKind) × TI × TI) :=
  match tt t with
  | some ti => (match ti.td with
      | .map k e => (match tt k, tt e with
          | some tk, some te => (match kinds tk.leaves with
              | some kk => bif (tk.eq && leavesSmall tk.leaves) then some (kk, tk, te) else none
              | none => none)
          | _, _ => none)
      | _ => none)
  | none => none
where leavesSmall : List Leaf → Bool
  | [] => true
  | .int _ :: t => leavesSmall t
  | _ => false

def mpArgs (I : Prims) (tt : TT) (op : Op) (vs : List V) (bs : List Blk) : Option MA :=
  match op, vs, bs with
  | .lookup t _ _ ck, [.map id, k], [.mp ka va es] => (match tdMap tt t, plain I k.cells with
      | some (kk, tk, te), some ks => bif (bEq ka tk.agg && bEq va te.agg && Nat.beq (szs k.cells) tk.size && k.notTup && aggOk tk k) then some (.lk kk te es ks ck) else none
      | _, _ => none)
  | .mapUpdate t _ _ _, [.map id, k, x], [.mp ka va es] => (match tdMap tt t, plain I k.cells, plain I x.cells with
      | some (kk, tk, te), some ks, some ds => bif (bEq ka tk.agg && bEq va te.agg && Nat.beq (szs k.cells) tk.size && Nat.beq (szs x.cells) te.size && k.notTup && x.notTup && aggOk tk k && aggOk te x) then some (.up kk id ka va es ks ds) else none
      | _, _, _ => none)
  | .call ⟨.builtin .delete, _, ts⟩, [.map id, k], [.mp ka va es] => (match ts.toList with
      | [t, t'] => (match tdMap tt t, plain I k.cells with
          | some (kk, tk, te), some ks => bif (bEq ka tk.agg && Nat.beq (szs k.cells) tk.size && k.notTup && aggOk tk k) then some (.del kk id ka va es ks) else none
          | _, _ => none)
      | _ => none)
  | .makeMap t none, [], _ => (match tdMap tt t with
      | some (kk, tk, te) => some (.mk tk.agg te.agg)
      | none => none)
  | .binOp .eql t _ _ _, [.d (.lit (.pointer none)), .d (.lit (.pointer none))], _ => (match tt t with
      | some ti => (match ti.td with | .pointer _ => some (.nilp false) | _ => none)
      | none => none)
  | .binOp .neq t _ _ _, [.d (.lit (.pointer none)), .d (.lit (.pointer none))], _ => (match tt t with
      | some ti => (match ti.td with | .pointer _ => some (.nilp true) | _ => none)
      | none => none)
  | .binOp .eql t _ _ _, [.agg a, .agg b], _ => (match tt t with
      | some ti => bif (ti.agg && ti.eq) then some (.eq false ti.leaves a b) else none
      | none => none)
  | .binOp .neq t _ _ _, [.agg a, .agg b], _ => (match tt t with
      | some ti => bif (ti.agg && ti.eq) then some (.eq true ti.leaves a b) else none
      | none => none)
  | _, _, _ => none
where
  /-- Is a value of its type's form? -/
  aggOk (ti : TI) : V → Bool
  | .agg _ => ti.agg
  | .d _ => !ti.agg
  | _ => false

def opM : MA → Nat → Res → Prop
  | .lk kk te es ks ck, n, r => ofKinds kk ks ∧ (∀ p ∈ es, ofKinds kk p.1) ∧ ∃ (v : V) (b : Bool) (l : List V) (ds : List D), r = ⟨bif ck then .tup [v, .d (.bool b)] else v, [], 0, True⟩ ∧ asVal te.agg l = some v ∧
      ((mget es ks = some ds ∧ b = true) ∨ (mget es ks = none ∧ b = false ∧ plain std (zeroL std te.leaves) = some ds)) ∧ ds.length = te.size ∧ ∃ s, rdLs std ds 0 te.leaves 0 = some (l, s) ∧ s
  | .up kk id ka va es ks ds, n, r => ofKinds kk ks ∧ (∀ p ∈ es, ofKinds kk p.1) ∧ r = ⟨.tup [], [(id, .mp ka va (mset es ks ds))], 0, True⟩
  | .del kk id ka va es ks, n, r => ofKinds kk ks ∧ (∀ p ∈ es, ofKinds kk p.1) ∧ r = ⟨.tup [], [(id, .mp ka va (mdel es ks))], 0, True⟩
  | .mk ka va, n, r => r = ⟨.map n, [(n, .mp ka va [])], 1, True⟩
  | .nilp neg, n, r => r = ⟨.d (.bool (!neg)), [], 0, True⟩
  | .eq neg ls a b, n, r => ∃ q, eqLs ls a b q ∧ r = ⟨.d (.bool (bif neg then !q else q)), [], 0, True⟩

/-- A datum of a key, as a value. -/
def D.key : D → Value
  | .int k n => .int k n
  | .bool b => .bool b
  | _ => .bool false

theorem rep_key {H : Nat → Option Obj} : ∀ (kk : List (Option IntKind)) (l : List D) (vs : List Value), ofKinds kk l → repDs H l vs → vs.length = l.length → vs = l.map D.key
  | [], [], vs, _, _, hl => List.eq_nil_of_length_eq_zero hl
  | some k :: ks, .int j a :: t, vs, h, hr, hl => by
    simp only [ofKinds] at h
    simp only [repDs, repD] at hr
    obtain ⟨u, us, rfl, rfl, h2⟩ := hr
    simp only [List.map_cons, D.key]
    rw [rep_key ks t us h.2 h2 (by simpa using hl)]
  | none :: ks, .bool b :: t, vs, h, hr, hl => by
    simp only [ofKinds] at h
    simp only [repDs, repD] at hr
    obtain ⟨u, us, rfl, rfl, h2⟩ := hr
    simp only [List.map_cons, D.key]
    rw [rep_key ks t us h h2 (by simpa using hl)]
  | [], d :: t, vs, h, _, _ => h.elim
  | some k :: ks, [], vs, h, _, _ => h.elim
  | none :: ks, [], vs, h, _, _ => h.elim
  | some k :: ks, .bool _ :: t, vs, h, _, _ => h.elim
  | some k :: ks, .str _ :: t, vs, h, _, _ => h.elim
  | some k :: ks, .nils :: t, vs, h, _, _ => h.elim
  | some k :: ks, .lst _ _ :: t, vs, h, _, _ => h.elim
  | some k :: ks, .lit _ :: t, vs, h, _, _ => h.elim
  | none :: ks, .int _ _ :: t, vs, h, _, _ => h.elim
  | none :: ks, .str _ :: t, vs, h, _, _ => h.elim
  | none :: ks, .nils :: t, vs, h, _, _ => h.elim
  | none :: ks, .lst _ _ :: t, vs, h, _, _ => h.elim
  | none :: ks, .lit _ :: t, vs, h, _, _ => h.elim

theorem ofKinds_cases {q : Option IntKind} {ks : List (Option IntKind)} {l : List D} (h : ofKinds (q :: ks) l) : ∃ d t, l = d :: t ∧ ofKinds ks t ∧ ((∃ k a, q = some k ∧ d = .int k a) ∨ (∃ b, q = none ∧ d = .bool b)) := by
  cases q with
  | some k =>
    cases l with
    | nil => exact h.elim
    | cons d t => cases d with
      | int j a => simp only [ofKinds] at h; obtain ⟨rfl, h⟩ := h; exact ⟨_, _, rfl, h, .inl ⟨_, _, rfl, rfl⟩⟩
      | _ => exact h.elim
  | none =>
    cases l with
    | nil => exact h.elim
    | cons d t => cases d with
      | bool b => exact ⟨_, _, rfl, h, .inr ⟨_, rfl, rfl⟩⟩
      | _ => exact h.elim

theorem same_vals : ∀ (kk : List (Option IntKind)) (l m : List D), ofKinds kk l → ofKinds kk m → eqVals kk (l.map D.key) (m.map D.key) = some (sameL l m)
  | [], [], [], _, _ => rfl
  | [], [], _ :: _, _, h => h.elim
  | [], _ :: _, _, h, _ => h.elim
  | q :: ks, l, m, h1, h2 => by
    obtain ⟨d, t, rfl, g1, g2⟩ := ofKinds_cases h1
    obtain ⟨e, s, rfl, k1, k2⟩ := ofKinds_cases h2
    have ih := same_vals ks t s g1 k1
    have one : eqVals [q] [d.key] [e.key] = some (d.same e) := by
      rcases g2 with ⟨k, a, rfl, rfl⟩ | ⟨b, rfl, rfl⟩
      · rcases k2 with ⟨k', a', hq, rfl⟩ | ⟨b', hq, rfl⟩
        · cases hq; simp [eqVals, D.key, D.same]
        · cases hq
      · rcases k2 with ⟨k', a', hq, rfl⟩ | ⟨b', hq, rfl⟩
        · cases hq
        · simp [eqVals, D.key, D.same]
    simpa [sameL] using eqVals_join one ih

theorem same_eq : ∀ (kk : List (Option IntKind)) (l m : List D), ofKinds kk l → ofKinds kk m → sameL l m = true → l = m
  | [], [], [], _, _, _ => rfl
  | [], [], _ :: _, _, h, _ => h.elim
  | [], _ :: _, _, h, _, _ => h.elim
  | q :: ks, l, m, h1, h2, hs => by
    obtain ⟨d, t, rfl, g1, g2⟩ := ofKinds_cases h1
    obtain ⟨e, s, rfl, k1, k2⟩ := ofKinds_cases h2
    simp only [sameL, Bool.and_eq_true] at hs
    rw [same_eq ks t s g1 k1 hs.2]
    congr 1
    rcases g2 with ⟨k, a, rfl, rfl⟩ | ⟨b, rfl, rfl⟩
    · rcases k2 with ⟨k', a', hq, rfl⟩ | ⟨b', hq, rfl⟩
      · cases hq
        have := hs.1
        simp [D.same] at this
        rw [this]
      · cases hq
    · rcases k2 with ⟨k', a', hq, rfl⟩ | ⟨b', hq, rfl⟩
      · cases hq
      · have := hs.1
        simp [D.same] at this
        rw [this]

theorem sameBits_key (m : Nat) : ∀ (kk : List (Option IntKind)) (l : List D), ofKinds kk l → (((l.map D.key).zip (l.map D.key)).all fun (x, y) => Instr.sameBits (m + 1) x y) = true
  | [], [], _ => rfl
  | [], _ :: _, h => h.elim
  | q :: ks, l, h => by
    obtain ⟨d, t, rfl, g1, g2⟩ := ofKinds_cases h
    have ih := sameBits_key m ks t g1
    simp only [List.map_cons, List.zip_cons_cons, List.all_cons, ih, Bool.and_true]
    rcases g2 with ⟨k, a, rfl, rfl⟩ | ⟨b, rfl, rfl⟩ <;> simp [D.key, Instr.sameBits]

section
variable {P : Program} {w0 : World} {M : Nat → Prop} {E : Emb} {aw : List (Nat × Blk)} {n : Nat} {w : World}

/-- A key's value. -/
def keyV (agg : Bool) (l : List D) : Value := match agg with | true => .agg (l.map D.key).toArray | false => (l.map D.key).headD undef

theorem repKV_key {H : Nat → Option Obj} {agg : Bool} {kk : List (Option IntKind)} {l : List D} {v : Value} (h : repKV H agg l v) (hk : ofKinds kk l) : v = keyV agg l := by
  cases agg with
  | true =>
    obtain ⟨cs, rfl, h2, h3, h4⟩ := h
    simp only [keyV]
    congr 1
    apply Array.toList_inj.1
    simp
    exact rep_key kk l _ hk h3 (by simpa using h2)
  | false =>
    obtain ⟨d, rfl, h2⟩ := h
    simp only [keyV]
    have := rep_key kk [d] [v] hk (by simp only [repDs]; exact ⟨v, [], rfl, h2, trivial⟩) rfl
    simp at this
    simp [this]

/-- A type whose values may be keys, and of what kinds they are. -/
structure KeyOK (P : Program) (t : TypeId) (agg : Bool) (kk : List (Option IntKind)) : Prop where
  eq : ∀ (l m : List D), ofKinds kk l → ofKinds kk m → ∀ w : World, (Op.equal t (keyV agg l) (keyV agg m)).run P w = .ok (sameL l m) w
  ck : ∀ (e : Bool) (m : Nat) (l : List D), ofKinds kk l → ∀ w : World, (Instr.checkKey e (m + 2) t (keyV agg l)).run P w = .ok () w
  now : ∃ d, P.underlying t = some d ∧ ((∃ k, d = .int k ∧ agg = false ∧ kk = [some k]) ∨ (agg = true ∧ ∀ x y, Instr.sameNow d x y = none))
  bits : ∀ (l : List D) (m : Nat), ofKinds kk l → Instr.sameBits (m + 2) (keyV agg l) (keyV agg l) = true

def midx : List (List D × List D) → List D → Nat → Option Nat
  | [], _, _ => none
  | p :: t, q, i => if sameL q p.1 then some i else midx t q (i + 1)

theorem repE_len {H : Nat → Option Obj} {ka va : Bool} : ∀ (l : List (List D × List D)) (es : List MapEntry), repE H ka va l es → es.length = l.length
  | [], es, h => by simp only [repE] at h; subst h; rfl
  | p :: t, es, h => by obtain ⟨e, r, rfl, _, _, h4⟩ := h; simp [repE_len t r h4]

theorem find_run {t : TypeId} {ka va : Bool} {kk : List (Option IntKind)} (hK : KeyOK P t ka kk) {H : Nat → Option Obj} {q : List D} (hq : ofKinds kk q) (w : World) :
    ∀ (l : List (List D × List D)) (es : List MapEntry) (i : Nat), repE H ka va l es → (∀ p ∈ l, ofKinds kk p.1) →
      ∃ r, (Instr.findAsking t (keyV ka q) es i).run P w = .ok r w ∧ (match midx l q i with
        | none => r = none
        | some j => i ≤ j ∧ ∃ e, es[j - i]? = some e ∧ r = some (j, e.val)) ∧ (∀ k, ka = false → kk = [some k] → Instr.findNow (.int k) (keyV ka q) es i = some r)
  | [], es, i, h, _ => by
    simp only [repE] at h; subst h
    exact ⟨none, rfl, rfl, fun _ _ _ => rfl⟩
  | p :: t', es, i, h, hk => by
    obtain ⟨e, r, rfl, h1, h2, h3⟩ := h
    have hp := hk p List.mem_cons_self
    have he := repKV_key h1 hp
    obtain ⟨x, k1, k2, k3⟩ := find_run hK hq w t' r (i + 1) h3 (fun p hp => hk p (List.mem_cons_of_mem _ hp))
    have hE := hK.eq q p.1 hq hp w
    have hnow : ∀ k, ka = false → kk = [some k] → Instr.sameNow (.int k) (keyV ka q) e.key = some (sameL q p.1) := by
      intro k h1 h2
      subst h1 h2
      obtain ⟨d, s, rfl, g1, g2⟩ := ofKinds_cases hq
      obtain ⟨d', s', hp1, g1', g2'⟩ := ofKinds_cases hp
      cases s with
      | cons _ _ => exact g1.elim
      | nil =>
      cases s' with
      | cons _ _ => exact g1'.elim
      | nil =>
      rw [he, hp1]
      rcases g2 with ⟨k1, a, hq1, rfl⟩ | ⟨b, hq1, rfl⟩
      · cases hq1
        rcases g2' with ⟨k2, a2, hq2, rfl⟩ | ⟨b, hq2, rfl⟩
        · cases hq2
          simp [Instr.sameNow, keyV, D.key, sameL, D.same]
        · cases hq2
      · cases hq1
    by_cases hs : sameL q p.1 = true
    · refine ⟨some (i, e.val), ?_, ?_, ?_⟩
      · simp only [Instr.findAsking, Sem.run_bind, he, hE, hs, Result.andThen_ok, if_true, Sem.run_pure]
      · simp only [midx, hs, if_true]
        exact ⟨Nat.le_refl _, e, by simp, rfl⟩
      · intro k h1 h2
        simp only [Instr.findNow, hnow k h1 h2, hs]
    · have hs' : sameL q p.1 = false := by cases h : sameL q p.1 <;> simp_all
      refine ⟨x, ?_, ?_, ?_⟩
      · simp only [Instr.findAsking, Sem.run_bind, he, hE, hs', Result.andThen_ok, Bool.false_eq_true, if_false, k1]
      · simp only [midx, hs', Bool.false_eq_true, if_false]
        cases hm : midx t' q (i + 1) with
        | none => rw [hm] at k2; exact k2
        | some j =>
          rw [hm] at k2
          obtain ⟨j1, e', j2, j3⟩ := k2
          refine ⟨by omega, e', ?_, j3⟩
          rw [show j - i = (j - (i + 1)) + 1 by omega, List.getElem?_cons_succ]; exact j2
      · intro k h1 h2
        simp only [Instr.findNow, hnow k h1 h2, hs', k3 k h1 h2]

theorem findKey_run {t : TypeId} {ka va : Bool} {kk : List (Option IntKind)} (hK : KeyOK P t ka kk) {H : Nat → Option Obj} {q : List D} (hq : ofKinds kk q) (w : World)
    {l : List (List D × List D)} {es : List MapEntry} (h : repE H ka va l es) (hk : ∀ p ∈ l, ofKinds kk p.1) :
    ∃ r, (Instr.findKey t (keyV ka q) es).run P w = .ok r w ∧ (match midx l q 0 with
        | none => r = none
        | some j => ∃ e, es[j]? = some e ∧ r = some (j, e.val)) := by
  obtain ⟨r, h1, h2, h3⟩ := find_run hK hq w l es 0 h hk
  refine ⟨r, ?_, ?_⟩
  · obtain ⟨d, hd, hn⟩ := hK.now
    rcases hn with ⟨k, rfl, ha, hkk⟩ | ⟨ha, hn⟩
    · simp only [Instr.findKey, Sem.run_bind, run_underlying hd, Result.andThen_ok, h3 k ha hkk, Sem.run_pure]
    · cases es with
      | nil =>
        simp only [Instr.findAsking, Sem.run_pure] at h1
        simp only [Instr.findKey, Sem.run_bind, run_underlying hd, Result.andThen_ok, Instr.findNow, Sem.run_pure]
        exact h1
      | cons e es =>
        simp only [Instr.findKey, Sem.run_bind, run_underlying hd, Result.andThen_ok, Instr.findNow, hn, h1]
  · cases hm : midx l q 0 with
    | none => rw [hm] at h2; exact h2
    | some j => rw [hm] at h2; obtain ⟨_, e, h4, h5⟩ := h2; exact ⟨e, by simpa using h4, h5⟩

theorem mget_midx (q : List D) : ∀ (l : List (List D × List D)) (i : Nat), (match midx l q i with
    | none => mget l q = none
    | some j => i ≤ j ∧ ∃ p, l[j - i]? = some p ∧ sameL q p.1 = true ∧ mget l q = some p.2)
  | [], i => rfl
  | p :: t, i => by
    simp only [midx, mget]
    by_cases hs : sameL q p.1 = true
    · simp only [hs, if_true]; exact ⟨Nat.le_refl _, p, by simp, hs, rfl⟩
    · simp only [hs, Bool.false_eq_true, if_false]
      have := mget_midx q t (i + 1)
      cases hm : midx t q (i + 1) with
      | none => rw [hm] at this; exact this
      | some j =>
        rw [hm] at this
        obtain ⟨h1, p', h2, h3⟩ := this
        refine ⟨by omega, p', ?_, h3⟩
        rw [show j - i = (j - (i + 1)) + 1 by omega, List.getElem?_cons_succ]; exact h2

theorem mset_none {q v : List D} : ∀ (l : List (List D × List D)) (i : Nat), midx l q i = none → mset l q v = l ++ [(q, v)]
  | [], i, h => rfl
  | p :: t, i, h => by
    simp only [midx] at h
    split at h
    · cases h
    · rename_i hs
      simp only [mset, hs, Bool.false_eq_true, if_false, List.cons_append, mset_none t (i + 1) h]
theorem mset_some {q v : List D} : ∀ (l : List (List D × List D)) (i j : Nat), midx l q i = some j → mset l q v = l.set (j - i) (q, v)
  | [], i, j, h => by cases h
  | p :: t, i, j, h => by
    have hi := mget_midx q (p :: t) i
    rw [h] at hi
    simp only [midx] at h
    split at h
    · rename_i hs; cases h; simp only [mset, hs, if_true, Nat.sub_self, List.set_cons_zero]
    · rename_i hs
      have hle := mget_midx q t (i + 1)
      rw [h] at hle
      have := hle.1
      simp only [mset, hs, Bool.false_eq_true, if_false, mset_some t (i + 1) j h]
      rw [show j - i = (j - (i + 1)) + 1 by omega, List.set_cons_succ]
theorem mdel_none {q : List D} : ∀ (l : List (List D × List D)) (i : Nat), midx l q i = none → mdel l q = l
  | [], i, h => rfl
  | p :: t, i, h => by
    simp only [midx] at h
    split at h
    · cases h
    · rename_i hs
      simp only [mdel, hs, Bool.false_eq_true, if_false, mdel_none t (i + 1) h]
theorem mdel_some {q : List D} : ∀ (l : List (List D × List D)) (i j : Nat), midx l q i = some j → mdel l q = l.eraseIdx (j - i)
  | [], i, j, h => by cases h
  | p :: t, i, j, h => by
    simp only [midx] at h
    split at h
    · rename_i hs; cases h; simp only [mdel, hs, if_true, Nat.sub_self, List.eraseIdx_zero, List.tail_cons]
    · rename_i hs
      have hle := mget_midx q t (i + 1)
      rw [h] at hle
      have := hle.1
      simp only [mdel, hs, Bool.false_eq_true, if_false, mdel_some t (i + 1) j h]
      rw [show j - i = (j - (i + 1)) + 1 by omega, List.eraseIdx_cons_succ]

theorem repE_get {H : Nat → Option Obj} {ka va : Bool} : ∀ (l : List (List D × List D)) (es : List MapEntry), repE H ka va l es → ∀ (j : Nat) (p : List D × List D), l[j]? = some p → ∃ e, es[j]? = some e ∧ repKV H ka p.1 e.key ∧ repKV H va p.2 e.val
  | [], es, h, j, p, hp => by cases hp
  | x :: t, es, h, j, p, hp => by
    obtain ⟨e, r, rfl, h1, h2, h3⟩ := h
    cases j with
    | zero => cases hp; exact ⟨e, rfl, h1, h2⟩
    | succ j => simpa using repE_get t r h3 j p (by simpa using hp)
theorem repE_app {H : Nat → Option Obj} {ka va : Bool} : ∀ (l m : List (List D × List D)) (es fs : List MapEntry), repE H ka va l es → repE H ka va m fs → repE H ka va (l ++ m) (es ++ fs)
  | [], m, es, fs, h, hm => by simp only [repE] at h; subst h; exact hm
  | x :: t, m, es, fs, h, hm => by
    obtain ⟨e, r, rfl, h1, h2, h3⟩ := h
    exact ⟨e, r ++ fs, rfl, h1, h2, repE_app t m r fs h3 hm⟩
theorem repE_set {H : Nat → Option Obj} {ka va : Bool} {k v : List D} {e : MapEntry} (h1 : repKV H ka k e.key) (h2 : repKV H va v e.val) : ∀ (l : List (List D × List D)) (es : List MapEntry) (j : Nat), repE H ka va l es → repE H ka va (l.set j (k, v)) (es.set j e)
  | [], es, j, h => by simp only [repE] at h; subst h; exact rfl
  | x :: t, es, j, h => by
    obtain ⟨f, r, rfl, g1, g2, g3⟩ := h
    cases j with
    | zero => exact ⟨e, r, rfl, h1, h2, g3⟩
    | succ j => exact ⟨f, r.set j e, rfl, g1, g2, repE_set h1 h2 t r j g3⟩
theorem repE_erase {H : Nat → Option Obj} {ka va : Bool} : ∀ (l : List (List D × List D)) (es : List MapEntry) (j : Nat), repE H ka va l es → repE H ka va (l.eraseIdx j) (es.eraseIdx j)
  | [], es, j, h => by simp only [repE] at h; subst h; exact rfl
  | x :: t, es, j, h => by
    obtain ⟨f, r, rfl, g1, g2, g3⟩ := h
    cases j with
    | zero => simpa using g3
    | succ j => exact ⟨f, r.eraseIdx j, rfl, g1, g2, repE_erase t r j g3⟩
end
end Go.AX

namespace Go.AX
set_option autoImplicit false
set_option linter.unusedVariables false
set_option linter.unusedSimpArgs false

section
variable {P : Program} {w0 : World} {M : Nat → Prop} {E : Emb} {aw : List (Nat × Blk)} {n : Nat} {w : World}

theorem ck_loop {em : Bool} {m : Nat} {cs : Array Value} {w : World} {N : Nat} (hN : cs.size = N) : ∀ (l : List Field), (∀ f ∈ l, ((P.info? f.type).isSome && Nat.ble (f.offset + P.cellsOf f.type) N && Nat.blt 0 (P.cellsOf f.type) && (match P.underlying f.type with | some (.int _) => true | _ => false)) = true) →
    (forIn (m := Sem) l PUnit.unit (fun f (_ : PUnit) =>
        if f.name ≠ "_" then do
          let x ← part f.type cs f.offset
          Instr.checkKey em (m + 1) f.type x
          pure (ForInStep.yield PUnit.unit)
        else pure (ForInStep.yield PUnit.unit))).run P w = .ok PUnit.unit w
  | [], _ => rfl
  | f :: t, h => by
    have hf := h f List.mem_cons_self
    simp only [Bool.and_eq_true] at hf
    obtain ⟨⟨⟨h1, h2⟩, h3⟩, h4⟩ := hf
    split at h4
    case h_2 => cases h4
    rename_i k hu
    have hp := run_part (w := w) h1 hu cs f.offset (by have := Nat.le_of_ble_eq_true h2; omega) (.inl (by simpa using h3))
    have ih := ck_loop (em := em) (m := m) (cs := cs) (w := w) hN t (fun g hg => h g (List.mem_cons_of_mem _ hg))
    rw [List.forIn_cons]
    by_cases hn : f.name ≠ "_"
    · simp only [Sem.run_bind, if_pos hn, hp, Result.andThen_ok, Instr.checkKey, run_underlying hu, Sem.run_pure]
      exact ih
    · simp only [Sem.run_bind, if_neg hn, Result.andThen_ok, Sem.run_pure]
      exact ih

theorem eqTy_int {d : Nat} {t : TypeId} {ks : List (Option IntKind)} {k : IntKind} (h4 : eqTy P (d + 1) t = some ks) (hun : P.underlying t = some (.int k)) : ks = [some k] := by
  simp only [eqTy, cond_eq_ite] at h4
  split at h4
  · rw [hun] at h4
    simp only at h4
    split at h4
    · cases h4; rfl
    · cases h4
  · cases h4

theorem key_ok {tt : TT} (hTT : TabOK P tt) {t : TypeId} {ti : TI} (hti : tt t = some ti) (he : ti.eq = true) {kk : List (Option IntKind)} (hkk : kinds ti.leaves = some kk) (hf : flatKey P t = true) (hs : tdMap.leavesSmall ti.leaves = true) : KeyOK P t ti.agg kk := by
  obtain ⟨ks, h1, h2, h3⟩ := hTT.eqs t ti hti he
  rw [hkk] at h1; cases h1
  obtain ⟨i, z, d, hi, hsz, _, _, _, hun, _, hag, hzs, _⟩ := (hTT.types t ti hti).info
  have hw : ∀ l : List D, ofKinds kk l → keyV ti.agg l = wrapV P t (l.map D.key) := by
    intro l hl
    unfold wrapV keyV
    rw [hun, hag]
    cases d <;> rfl
  have hlen := eqTy_len _ _ _ h2
  have ol : ∀ (ks : List (Option IntKind)) (l : List D), ofKinds ks l → l.length = ks.length := by
    intro ks
    induction ks with
    | nil => intro l h; cases l with
      | nil => rfl
      | cons _ _ => exact h.elim
    | cons q ks ih => intro l h; obtain ⟨d, s, rfl, g, _⟩ := ofKinds_cases h; simp [ih s g]
  refine ⟨fun l m hl hm w => ?_, fun e m l hl w => ?_, ⟨d, hun, ?_⟩, fun l m hl => ?_⟩
  · rw [hw l hl, hw m hm]
    exact eq_run 40 t kk h2 _ _ _ (same_vals kk l m hl hm) 10000 w (by omega)
  · unfold flatKey at hf
    rw [hun] at hf
    split at hf
    · rename_i k hk
      cases hk
      simp only [Instr.checkKey, Sem.run_bind, run_underlying hun, Result.andThen_ok]
      cases keyV ti.agg l <;> rfl
    · rename_i fs hk
      cases hk
      simp only [isAggD] at hag
      rw [hag, show m + 2 = (m + 1) + 1 from rfl, Instr.checkKey]
      simp only [keyV, Sem.run_bind, run_underlying hun, Result.andThen_ok]
      rw [← Array.forIn_toList]
      have hN : ((l.map D.key).toArray).size = P.cellsOf t := by simp [ol kk l hl, hlen]
      have := ck_loop (P := P) (em := e) (m := m) (cs := (l.map D.key).toArray) (w := w) hN fs.toList (fun f hf' => List.all_eq_true.1 hf f hf')
      rw [this]; rfl
    · cases hf
  · unfold flatKey at hf
    rw [hun] at hf
    split at hf
    · rename_i k hk
      cases hk
      left
      refine ⟨k, rfl, hag, ?_⟩
      exact eqTy_int (d := 39) h2 hun
    · rename_i fs hk
      cases hk
      right
      exact ⟨hag, fun x y => by cases x <;> cases y <;> rfl⟩
    · cases hf
  · unfold flatKey at hf
    rw [hun] at hf
    split at hf
    · rename_i k hk
      cases hk
      have hag : ti.agg = false := hag
      rw [hag]
      have h4 := eqTy_int (d := 39) h2 hun
      subst h4
      obtain ⟨d, s, rfl, g1, g2⟩ := ofKinds_cases hl
      rcases g2 with ⟨k', a, _, rfl⟩ | ⟨b, _, rfl⟩ <;> simp [keyV, D.key, Instr.sameBits]
    · rename_i fs hk
      cases hk
      have hag : ti.agg = true := hag
      rw [hag]
      show Instr.sameBits ((m + 1) + 1) _ _ = true
      simp only [keyV, Instr.sameBits, beq_self_eq_true, Bool.true_and]
      exact sameBits_key m kk l hl
    · cases hf

theorem setMap_grown {b : Nat} {o o' : Obj} (hb : w.heap[b]? = some o) : w.grownBy { w with heap := w.heap.setIfInBounds b o' } (some b) := by
  refine ⟨rfl, rfl, rfl, by simp, fun k hk hne => ?_⟩
  show (w.heap.setIfInBounds b o')[k]? = _
  rw [Array.getElem?_setIfInBounds_ne (by intro e; exact hne (by rw [e]))]

theorem keyStays {t : TypeId} {agg : Bool} {kk : List (Option IntKind)} (hK : KeyOK P t agg kk) {l : List D} (hl : ofKinds kk l) (w : World) : (Instr.keyThatStays (keyV agg l) (keyV agg l)).run P w = .ok (keyV agg l) w := by
  have := hK.bits l 9998 hl
  simp only [Instr.keyThatStays]
  rw [if_pos this]; rfl

/-- A value that is a key, or an element, as a map keeps it. -/
theorem cells_repKV {tt : TT} (ti : TI) {x : V} {v : Value} (hv : repV E x v) {ds : List D} (hp : plain std x.cells = some ds) (ha : mpArgs.aggOk ti x = true) (hn : x.notTup = true) : repKV E.H ti.agg ds v := by
  cases x with
  | agg l =>
    simp only [mpArgs.aggOk] at ha
    rw [ha]
    simp only [repV] at hv
    obtain ⟨cs, rfl, h2⟩ := hv
    obtain ⟨h3, h4⟩ := plain_rep l ds hp _ h2
    exact ⟨cs, rfl, by rw [h4]; simp, h3, repC_one _ _ h2⟩
  | d y =>
    simp only [mpArgs.aggOk, Bool.not_eq_true'] at ha
    rw [ha]
    simp only [repV] at hv
    simp only [V.cells, plain, plainK] at hp
    cases hp
    exact ⟨y.nl, rfl, nl_rep hv⟩
  | _ => simp [mpArgs.aggOk] at ha

theorem run_getM {b : Nat} {es : Array MapEntry} {ck : Nat} (h : w.heap[b]? = some (.map es ck)) : (getObj b).run P w = .ok (.map es ck) w := Go.MapKept.run_getObj_map h
theorem run_setM {b : Nat} {es : Array MapEntry} {ck : Nat} (h : w.heap[b]? = some (.map es ck)) (o : Obj) : (setObj b o).run P w = .ok () { w with heap := w.heap.setIfInBounds b o } := Go.MapKept.run_setObj_map o h

theorem tdMap_eq {tt : TT} (hTT : TabOK P tt) {t : TypeId} {kk : List (Option IntKind)} {tk te : TI} (h : tdMap tt t = some (kk, tk, te)) :
    ∃ k e, P.underlying t = some (.map k e) ∧ TIok P e te ∧ TIok P k tk ∧ KeyOK P k tk.agg kk := by
  unfold tdMap at h
  split at h
  · rename_i ti hti
    split at h
    · rename_i k e htd
      split at h
      · rename_i tk' te' hk he
        split at h
        · rename_i kk' hkk
          simp only [cond_eq_ite, Bool.and_eq_true] at h
          split at h
          · rename_i hc
            cases h
            have hu : P.underlying t = some (.map k e) := by
              obtain ⟨⟨i, z, d, _, _, _, _, _, hu, htd', _⟩, _⟩ := hTT.types t ti hti
              rw [htd] at htd'
              cases d <;> first | (cases htd'; done) | skip
              simp only [tdOk, Bool.and_eq_true] at htd'
              rw [hu, Nat.eq_of_beq_eq_true htd'.1, Nat.eq_of_beq_eq_true htd'.2]
            exact ⟨k, e, hu, hTT.types _ _ he, hTT.types _ _ hk, key_ok hTT hk hc.1 hkk (hTT.keys t ti k e hti htd) hc.2⟩
          · cases h
        · cases h
      · cases h
    · cases h
  · cases h

/-- A key of whatever form, as a value. -/
theorem key_val {ti : TI} {kk : List (Option IntKind)} {t : TypeId} (hT : TIok P t ti) (hs : leavesSize ti.leaves = ti.size) {x : V} {v : Value} (hv : repV E x v) {ds : List D} (hp : plain std x.cells = some ds) (hk : ofKinds kk ds) (ha : mpArgs.aggOk ti x = true) (hn : x.notTup = true) : v = keyV ti.agg ds :=
  repKV_key (cells_repKV (tt := fun _ => none) ti hv hp ha hn) hk

theorem mpBlk {id : Nat} {ka va : Bool} {es : List (List D × List D)} (hW : WR w0 M E aw n w) {v : Value} (hv : repV E (.map id) v) (hb : look aw id = some (.mp ka va es)) :
    ∃ b ee ck, E.ρ id = some (some b) ∧ v = .map (some b) ∧ w.heap[b]? = some (.map ee ck) ∧ repM E.H ka va es ee ck := by
  obtain ⟨b, ee, ck, h1, h2, h3⟩ := hW.blk _ _ hb
  simp only [repV] at hv
  obtain ⟨b', h4, rfl⟩ := hv
  rw [h1] at h4; cases h4
  exact ⟨b, ee, ck, h1, rfl, h2, h3⟩

theorem op_lookup {tt : TT} (hTT : TabOK P tt) (hW : WR w0 M E aw n w) {o : Oper} {a : Act} {t : TypeId} {x ix : Operand} {ck : Bool} (ho : o.op = .lookup t x ix ck) {kk : List (Option IntKind)} {tk te : TI} (htd : tdMap tt t = some (kk, tk, te))
    {id : Nat} {k : V} (hv : repV E (.map id) (a.eval x)) (hk : repV E k (a.eval ix)) {ka va : Bool} {es : List (List D × List D)} (hb : look aw id = some (.mp ka va es)) (hka : ka = tk.agg) (hva : va = te.agg) (hn : k.notTup = true) (hag : mpArgs.aggOk tk k = true)
    {ks : List D} (hp : plain std k.cells = some ks) {r : Res} (h : opM (.lk kk te es ks ck) n r) : OpDid P o a aw E n w r := by
  obtain ⟨kt, e, hu, hE, hKT, hK⟩ := tdMap_eq hTT htd
  obtain ⟨b, ee, c, h1, h2, h3, ⟨hR, _⟩⟩ := mpBlk hW hv hb
  obtain ⟨hq, hes, v, bb, l, ds, rfl, hl, hcase, hdl, s, hrd, hs⟩ := h
  subst hka hva
  have hkey := key_val hKT hKT.leaves hk hp hq hag hn
  obtain ⟨rr, hf, hm⟩ := findKey_run hK hq w hR hes
  have hg := mget_midx ks es 0
  have hck := hK.ck ee.isEmpty 9998 ks hq w
  have fin : ∀ (val : Value), repV E v val → (∃ zz, (zeroValue e).run P w = .ok zz w ∧ (match rr with | some (_, q) => (q, true) | none => (zz, false)) = (val, bb)) → OpDid P o a aw E n w ⟨bif ck then .tup [v, .d (.bool bb)] else v, [], 0, True⟩ := by
    rintro val hval ⟨zz, hzz, heq⟩
    have hrun : (Instr.lookup t (a.eval x) (a.eval ix) ck).run P w = .ok (if ck then .tuple #[val, .bool bb] else val) w := by
      rw [h2, hkey]
      simp only [Instr.lookup, Sem.run_bind, run_underlying hu, Result.andThen_ok, run_getM h3, Sem.run_pure]
      rw [hck]
      simp only [Result.andThen_ok]
      rw [show ee.toList = ee.toList from rfl, hf]
      simp only [Result.andThen_ok]
      cases rr with
      | none =>
        simp only [Prod.mk.injEq] at heq
        obtain ⟨rfl, rfl⟩ := heq
        simp only [Sem.run_bind, hzz, Result.andThen_ok, Sem.run_pure]
        try (cases ck <;> rfl)
      | some p =>
        obtain ⟨i, q⟩ := p
        simp only [Prod.mk.injEq] at heq
        obtain ⟨rfl, rfl⟩ := heq
        simp only [Sem.run_pure, Result.andThen_ok]
        try (cases ck <;> rfl)
    refine OpDid.pure hW (v := if ck then .tuple #[val, .bool bb] else val) (exec_value _ (by unfold execOp; simp only [ho]) hrun) rfl ?_
    cases ck with
    | false => exact hval
    | true =>
      simp only [cond_true, if_true, repV]
      exact ⟨_, rfl, by simp only [repVs, repV, repD]; exact ⟨_, _, rfl, hval, _, _, rfl, rfl, rfl⟩⟩
  obtain ⟨zz, hzz, hzr, _, hzf⟩ := hE.zero' w
  rcases hcase with ⟨hmg, rfl⟩ | ⟨hmg, rfl, hpl⟩
  · cases hx : midx es ks 0 with
    | none => rw [hx] at hg; rw [hg] at hmg; cases hmg
    | some j =>
      rw [hx] at hg hm
      obtain ⟨_, p, g1, _, g3⟩ := hg
      rw [g3] at hmg; cases hmg
      obtain ⟨ent, g4, rfl⟩ := hm
      obtain ⟨ent', g5, _, g6⟩ := repE_get _ _ hR j p (by simpa using g1)
      rw [g4] at g5; cases g5
      refine fin ent.val ?_ ⟨zz, hzz, rfl⟩
      cases hag' : te.agg with
      | true =>
        rw [hag'] at g6 hl
        obtain ⟨cs, e1, e2, e3, e4⟩ := g6
        have hc := rdLs_rep (E := E) e3 te.leaves 0 l s hrd hs
        have hsz := rdLs_size _ _ _ _ hrd
        rcases asVal_rep hl hc with ⟨_, hv⟩ | ⟨h, _⟩
        · rw [e1]
          have : (List.take (szs l) (List.drop (0 + 0) cs.toList)).toArray = cs := by
            have hlen : szs l = cs.toList.length := by rw [hsz, hE.leaves, ← hdl, ← e2, Array.length_toList]
            rw [Nat.zero_add, List.drop_zero, hlen, List.take_length]
          rw [this] at hv; exact hv
        · cases h
      | false =>
        rw [hag'] at g6 hl
        obtain ⟨d, e1, e2⟩ := g6
        rw [e1] at hrd hdl
        have hc := rdLs_rep (E := E) (cells := [d]) (off := 0) (ws := [ent.val]) (by simp only [repDs]; exact ⟨_, _, rfl, e2, trivial⟩) te.leaves 0 l s hrd hs
        have hsz := rdLs_size _ _ _ _ hrd
        rcases asVal_rep hl hc with ⟨h, _⟩ | ⟨_, u, hu', hv⟩
        · cases h
        · have : u = ent.val := by
            rw [hsz, hE.leaves, ← hdl] at hu'
            simp at hu'
            exact hu'.symm
          rw [this] at hv; exact hv
  · cases hx : midx es ks 0 with
    | some j => rw [hx] at hg; obtain ⟨_, p, _, _, g3⟩ := hg; rw [g3] at hmg; cases hmg
    | none =>
      rw [hx] at hm
      subst hm
      refine fin zz ?_ ⟨zz, hzz, rfl⟩
      have hzc := hzr E
      obtain ⟨hrep, hpl2⟩ := plain_rep _ ds hpl _ hzc
      have hc := rdLs_rep (E := E) hrep te.leaves 0 l s hrd hs
      have hsz := rdLs_size _ _ _ _ hrd
      have hall : (zz.cells.toList.drop (0 + 0)).take (szs l) = zz.cells.toList := by
        rw [Nat.zero_add, List.drop_zero, hsz, hE.leaves, ← hdl, hpl2, List.take_length]
      rw [hall] at hc
      rcases asVal_rep hl hc with ⟨ha, hv⟩ | ⟨ha, u, hu', hv⟩
      · have hz : zz.cells.toList.toArray = zz.cells := by simp
        rw [hz] at hv
        rw [ha] at hzf
        cases zz <;> first | exact hv | (simp [zForm] at hzf)
      · rw [ha] at hzf
        have h1 : zz.oneCell' = true := by
          unfold zForm at hzf
          split at hzf
          · cases hzf
          · simpa using hzf
        have h2 : zz.cells = #[zz] := by cases zz <;> first | rfl | (cases h1)
        have : u = zz := by
          rw [h2] at hu'; simpa using hu'.symm
        rw [this] at hv; exact hv

theorem op_mapUpdate {tt : TT} (hTT : TabOK P tt) (hW : WR w0 M E aw n w) {o : Oper} {a : Act} {t : TypeId} {x ix y : Operand} (ho : o.op = .mapUpdate t x ix y) {kk : List (Option IntKind)} {tk te : TI} (htd : tdMap tt t = some (kk, tk, te))
    {id : Nat} {k u : V} (hv : repV E (.map id) (a.eval x)) (hk : repV E k (a.eval ix)) (hy : repV E u (a.eval y)) {ka va : Bool} {es : List (List D × List D)} (hb : look aw id = some (.mp ka va es)) (hka : ka = tk.agg) (hva : va = te.agg) (hn : k.notTup = true) (hag : mpArgs.aggOk tk k = true) (hn2 : u.notTup = true) (hag2 : mpArgs.aggOk te u = true)
    {ks ds : List D} (hp : plain std k.cells = some ks) (hp2 : plain std u.cells = some ds) {r : Res} (h : opM (.up kk id ka va es ks ds) n r) : OpDid P o a aw E n w r := by
  obtain ⟨kt, e, hu, hE, hKT, hK⟩ := tdMap_eq hTT htd
  obtain ⟨b, ee, c, h1, h2, h3, hR⟩ := mpBlk hW hv hb
  obtain ⟨hq, hes, rfl⟩ := h
  have hkey := key_val hKT hKT.leaves hk hp hq (by exact hag) hn
  have hkv : repKV E.H ka ks (a.eval ix) := by rw [hka]; exact cells_repKV (tt := tt) tk hk hp hag hn
  have hdv : repKV E.H va ds (a.eval y) := by rw [hva]; exact cells_repKV (tt := tt) te hy hp2 hag2 hn2
  rw [hka] at hR hkv
  obtain ⟨rr, hf, hm⟩ := findKey_run hK hq w hR.1 hes
  have hck := hK.ck false 9998 ks hq w
  have fin : ∀ (ee' : Array MapEntry) (c' : Nat), (Instr.mapUpdate t (a.eval x) (a.eval ix) (a.eval y)).run P w = .ok () { w with heap := w.heap.setIfInBounds b (.map ee' c') } → repM E.H ka va (mset es ks ds) ee' c' → OpDid P o a aw E n w ⟨.tup [], [(id, .mp ka va (mset es ks ds))], 0, True⟩ := by
    intro ee' c' hrun hrep
    refine ⟨E, { w with heap := w.heap.setIfInBounds b (.map ee' c') }, undef, .inr ⟨by unfold execOp; simp [ho, hrun], rfl⟩, did_put hW (setMap_grown h3) (fun q hq' => by cases hq'; exact h1) ?_ hb rfl (undef_rep E)⟩
    exact ⟨b, ee', c', h1, by
      have := (Array.getElem?_eq_some_iff.1 h3).1
      show (w.heap.setIfInBounds b _)[b]? = _
      rw [Array.getElem?_setIfInBounds_self_of_lt this], hrep⟩
  have hle := repE_len _ _ hR.1
  cases hx : midx es ks 0 with
  | none =>
    rw [hx] at hm
    subst hm
    refine fin (ee.push { key := a.eval ix, val := a.eval y, born := c }) (c + 1) ?_ ?_
    · rw [h2]
      simp only [Instr.mapUpdate, Sem.run_bind, run_underlying hu, Result.andThen_ok, run_getM h3]
      rw [hkey, hck]
      simp only [Result.andThen_ok, hf]
      exact run_setM h3 _
    · rw [mset_none es 0 hx, hka]
      refine ⟨by simpa using repE_app _ [(ks, ds)] _ [{ key := a.eval ix, val := a.eval y, born := c }] hR.1 ⟨_, _, rfl, hkv, hdv, rfl⟩, ?_, ?_⟩
      · simp only [Array.toList_push, List.map_append, List.map_cons, List.map_nil]
        rw [List.nodup_append]
        refine ⟨hR.2.1, by simp, ?_⟩
        intro p hp q hq' e
        simp at hq'
        subst hq' e
        obtain ⟨en, h4, h5⟩ := List.mem_map.1 hp
        have := hR.2.2 en h4; omega
      · intro en hen
        simp at hen
        rcases hen with hen | rfl
        · have := hR.2.2 en (by simpa using hen); omega
        · exact Nat.lt_succ_self _
  | some j =>
    rw [hx] at hm
    obtain ⟨ent, g1, rfl⟩ := hm
    have hg := mget_midx ks es 0
    rw [hx] at hg
    obtain ⟨_, p, g2, g3, g4⟩ := hg
    obtain ⟨ent', g5, g6, g7⟩ := repE_get _ _ hR.1 j p (by simpa using g2)
    rw [g1] at g5; cases g5
    have hpk := hes p (List.mem_of_getElem? g2)
    have hsame := same_eq kk ks p.1 hq hpk g3
    have hek : ent.key = keyV tk.agg ks := by rw [hsame]; exact repKV_key g6 hpk
    have hj : j < ee.size := by
      have := (List.getElem?_eq_some_iff.1 g1).1
      simpa using this
    have hej : ee[j]? = some ent := by
      rw [← Array.getElem?_toList]; exact g1
    refine fin (ee.modify j fun q => { q with key := keyV tk.agg ks, val := a.eval y }) c ?_ ?_
    · rw [h2]
      simp only [Instr.mapUpdate, Sem.run_bind, run_underlying hu, Result.andThen_ok, run_getM h3]
      rw [hkey, hck]
      simp only [Result.andThen_ok, hf, Sem.run_bind, hej, Option.map_some, Option.getD_some, hek]
      rw [keyStays hK hq w]
      simp only [Result.andThen_ok]
      exact run_setM h3 _
    · rw [mset_some es 0 j hx, Nat.sub_zero, hka]
      have hmod : (ee.modify j fun q => { q with key := keyV tk.agg ks, val := a.eval y }).toList = ee.toList.set j { ent with key := keyV tk.agg ks, val := a.eval y } := by
        apply List.ext_getElem?
        intro q
        rw [Array.getElem?_toList, Array.getElem?_modify, List.getElem?_set]
        by_cases hq' : j = q
        · subst hq'
          rw [if_pos rfl, if_pos rfl, hej]
          simp [hj]
        · rw [if_neg hq', if_neg hq', Array.getElem?_toList]
      have hmb : (ee.toList.set j { ent with key := keyV tk.agg ks, val := a.eval y }).map MapEntry.born = ee.toList.map MapEntry.born := by
        apply List.ext_getElem?
        intro q
        simp only [List.getElem?_map, List.getElem?_set]
        by_cases hq' : j = q
        · subst hq'
          rw [if_pos rfl, g1]
          simp [hj]
        · rw [if_neg hq']
      refine ⟨?_, ?_, ?_⟩
      · rw [hmod]
        exact repE_set (by rw [hkey] at hkv; exact hkv) hdv _ _ j hR.1
      · rw [hmod, hmb]; exact hR.2.1
      · intro en hen
        rw [hmod] at hen
        have : en.born ∈ (ee.toList.set j { ent with key := keyV tk.agg ks, val := a.eval y }).map MapEntry.born := List.mem_map.2 ⟨en, hen, rfl⟩
        rw [hmb] at this
        obtain ⟨e2, h4, h5⟩ := List.mem_map.1 this
        rw [← h5]; exact hR.2.2 e2 h4

theorem op_delete {tt : TT} (hTT : TabOK P tt) (hW : WR w0 M E aw n w) {o : Oper} {a : Act} {t t' : TypeId} {x ix : Operand} (ho : o.op = .call ⟨.builtin .delete, #[x, ix], #[t, t']⟩) {kk : List (Option IntKind)} {tk te : TI} (htd : tdMap tt t = some (kk, tk, te))
    {id : Nat} {k : V} (hv : repV E (.map id) (a.eval x)) (hk : repV E k (a.eval ix)) {ka va : Bool} {es : List (List D × List D)} (hb : look aw id = some (.mp ka va es)) (hka : ka = tk.agg) (hn : k.notTup = true) (hag : mpArgs.aggOk tk k = true)
    {ks : List D} (hp : plain std k.cells = some ks) {r : Res} (h : opM (.del kk id ka va es ks) n r) : OpDid P o a aw E n w r := by
  obtain ⟨kt, e, hu, hE, hKT, hK⟩ := tdMap_eq hTT htd
  obtain ⟨b, ee, c, h1, h2, h3, hR⟩ := mpBlk hW hv hb
  obtain ⟨hq, hes, rfl⟩ := h
  have hkey := key_val hKT hKT.leaves hk hp hq (by exact hag) hn
  have hR' := hR
  rw [hka] at hR'
  obtain ⟨rr, hf, hm⟩ := findKey_run hK hq w hR'.1 hes
  have hck := hK.ck ee.isEmpty 9998 ks hq w
  have fin : ∀ (ee' : Array MapEntry), (Builtin.delete_ #[t, t'] o.type #[a.eval x, a.eval ix]).run P w = .ok (.tuple #[]) { w with heap := w.heap.setIfInBounds b (.map ee' c) } → repM E.H ka va (mdel es ks) ee' c → OpDid P o a aw E n w ⟨.tup [], [(id, .mp ka va (mdel es ks))], 0, True⟩ := by
    intro ee' hrun hrep
    have hex : (execOp a.eval o).run P w = .ok (.value (.tuple #[])) { w with heap := w.heap.setIfInBounds b (.map ee' c) } := by
      rw [exec_builtin ho]
      simp only [builtin, List.map_toArray, List.map_cons, List.map_nil, Sem.run_bind, hrun, Result.andThen_ok, Sem.run_pure]
    refine OpDid.value (E' := E) hex (did_put hW (setMap_grown h3) (fun q hq' => by cases hq'; exact h1) ?_ hb rfl (undef_rep E))
    exact ⟨b, ee', c, h1, by
      have := (Array.getElem?_eq_some_iff.1 h3).1
      show (w.heap.setIfInBounds b _)[b]? = _
      rw [Array.getElem?_setIfInBounds_self_of_lt this], hrep⟩
  cases hx : midx es ks 0 with
  | none =>
    rw [hx] at hm
    subst hm
    refine fin ee ?_ (by rw [mdel_none es 0 hx]; exact hR)
    rw [h2]
    simp only [Builtin.delete_]
    show Sem.run P _ w = _
    simp only [Sem.run_bind, run_underlying hu, Result.andThen_ok, run_getM h3, List.getElem?_toArray, List.getElem?_cons_zero, List.getElem?_cons_succ]
    rw [hkey, hck]
    simp only [Result.andThen_ok, hf, Sem.run_bind]
    rw [run_setM h3]; rfl
  | some j =>
    rw [hx] at hm
    obtain ⟨ent, g1, rfl⟩ := hm
    have hj : j < ee.size := by
      have := (List.getElem?_eq_some_iff.1 g1).1
      simpa using this
    have hte : (ee.eraseIdxIfInBounds j).toList = ee.toList.eraseIdx j := by
      rw [Array.eraseIdxIfInBounds_eq, dif_pos hj]; simp
    refine fin (ee.eraseIdxIfInBounds j) ?_ ?_
    · rw [h2]
      simp only [Builtin.delete_]
      show Sem.run P _ w = _
      simp only [Sem.run_bind, run_underlying hu, Result.andThen_ok, run_getM h3, List.getElem?_toArray, List.getElem?_cons_zero, List.getElem?_cons_succ]
      rw [hkey, hck]
      simp only [Result.andThen_ok, hf, Sem.run_bind]
      rw [run_setM h3]; rfl
    · rw [mdel_some es 0 j hx, Nat.sub_zero]
      refine ⟨by rw [hte]; exact repE_erase _ _ j hR.1, ?_, ?_⟩
      · rw [hte]; exact hR.2.1.sublist ((List.eraseIdx_sublist _ _).map _)
      · intro en hen
        rw [hte] at hen
        exact hR.2.2 en (List.mem_of_mem_eraseIdx hen)

theorem op_makeMap (hW : WR w0 M E aw n w) {o : Oper} {a : Act} {t : TypeId} (ho : o.op = .makeMap t none) (ka va : Bool) : OpDid P o a aw E n w ⟨.map n, [(n, .mp ka va [])], 1, True⟩ := by
  have hn := hW.none_n
  refine OpDid.value (E' := E.add n (some w.heap.size) 0) (w' := w.alloc (.map #[] 0)) (v := .map (some w.heap.size)) (exec_value (Instr.makeMap t none) (by unfold execOp; simp only [ho]; rfl) rfl) ?_
  refine ⟨Emb.le_add hn, fun b o h => .inl h, ?_, ?_, ?_, ⟨_, GrownS.of (World.grownBy_alloc w _ none), fun k hk => by cases hk⟩, ?_, by simp only [repV]; exact ⟨_, Emb.add_new, rfl⟩⟩
  · intro i x hx
    by_cases e : i = n
    · subst e
      rw [Emb.add_new] at hx
      cases hx
      exact .inr ⟨Nat.le_refl _, Nat.lt_succ_self _, fun b hb => by cases hb; exact .inl ⟨Nat.le_refl _, by show _ < (w.heap.push _).size; simp⟩⟩
    · rw [Emb.add_ne e] at hx; exact .inl hx
  · intro i y b h1 h2 h3
    simp only [List.cons_append, List.nil_append, look_cons] at h1
    by_cases e : i = n
    · subst e
      rw [Emb.add_new] at h3; cases h3
      cases hH : E.H w.heap.size with
      | none => exact hH
      | some o => exact absurd (Array.getElem?_eq_some_iff.1 (hW.ro _ o hH)).1 (Nat.lt_irrefl _)
    · rw [Emb.add_ne e] at h3
      rw [if_neg (Ne.symm e)] at h1
      exact hW.own i y b h1 h2 h3
  · intro i j b x y h1 h2 h3 h4 h5 h6
    simp only [List.cons_append, List.nil_append, look_cons] at h1 h3
    by_cases ei : i = n <;> by_cases ej : j = n
    · rw [ei, ej]
    · subst ei
      rw [Emb.add_new] at h5; cases h5
      rw [Emb.add_ne ej] at h6
      exact absurd (hW.dom _ _ h6).1 (Nat.lt_irrefl _)
    · subst ej
      rw [Emb.add_new] at h6; cases h6
      rw [Emb.add_ne ei] at h5
      exact absurd (hW.dom _ _ h5).1 (Nat.lt_irrefl _)
    · rw [Emb.add_ne ei] at h5
      rw [Emb.add_ne ej] at h6
      rw [if_neg (Ne.symm ei)] at h1
      rw [if_neg (Ne.symm ej)] at h3
      exact hW.inj i j b x y h1 h2 h3 h4 h5 h6
  · intro i b hi
    simp only [look_cons] at hi
    split at hi
    · rename_i e
      cases hi; subst e
      exact ⟨w.heap.size, #[], 0, Emb.add_new, heap_alloc_new w _, rfl, by simp, by simp⟩
    · cases hi

theorem big_vals {H : Nat → Option Obj} {k : IntKind} {r : List (Option IntKind)} {x2 y2 : List Value} {c : Bool} : ∀ (as bs : List Int) (n : Nat) (x1 y1 : List Value), as.length = n → bs.length = n → x1.length = n → y1.length = n → repDs H (as.map (.int k)) x1 → repDs H (bs.map (.int k)) y1 →
    eqVals r x2 y2 = some c → eqVals (List.replicate n (some k) ++ r) (x1 ++ x2) (y1 ++ y2) = some ((as == bs) && c)
  | [], bs, n, x1, y1, h1, h2, h3, h4, h5, h6, h7 => by
    simp at h1
    subst h1
    have e1 := List.eq_nil_of_length_eq_zero h2
    have e2 := List.eq_nil_of_length_eq_zero h3
    have e3 := List.eq_nil_of_length_eq_zero h4
    subst e1 e2 e3
    simpa using h7
  | a :: as, bs, n, x1, y1, h1, h2, h3, h4, h5, h6, h7 => by
    cases n with
    | zero => simp at h1
    | succ n =>
      cases bs with
      | nil => simp at h2
      | cons b bs =>
        simp only [List.map_cons, repDs, repD] at h5 h6
        obtain ⟨_, x1, rfl, rfl, h5⟩ := h5
        obtain ⟨_, y1, rfl, rfl, h6⟩ := h6
        have ih := big_vals as bs n x1 y1 (by simpa using h1) (by simpa using h2) (by simpa using h3) (by simpa using h4) h5 h6 h7
        rw [List.replicate_succ, List.cons_append, List.cons_append, List.cons_append]
        rw [eqVals_join (q := some k) (x := .int k a) (y := .int k b) (r1 := a == b) (by simp [eqVals]) ih, ← Bool.and_assoc]
        rfl

theorem eqLs_vals {E : Emb} : ∀ (ls : List Leaf) (s t : List V) (b : Bool), eqLs ls s t b → ∀ kk, kinds ls = some kk → ∀ xs ys, repC E s xs → repC E t ys → eqVals kk xs ys = some b := by
  intro ls
  induction ls with
  | nil =>
    intro s t b h kk hk xs ys hx hy
    cases hk
    cases s <;> cases t <;> first | (simp only [eqLs] at h) | skip
    subst h
    simp only [repC] at hx hy
    subst hx hy; rfl
  | cons l ls ih =>
    intro s t b h kk hk xs ys hx hy
    cases l with
    | int k =>
      simp only [kinds] at hk
      split at hk
      case h_2 => cases hk
      rename_i r hr
      cases hk
      match s, t, h with
      | .d (.int j x) :: s, .d (.int j' y) :: t, h =>
        simp only [eqLs] at h
        obtain ⟨rfl, rfl, c, h1, rfl⟩ := h
        obtain ⟨x1, x2, rfl, e1, e2, e3⟩ := repC_cons.1 hx
        obtain ⟨y1, y2, rfl, f1, f2, f3⟩ := repC_cons.1 hy
        obtain ⟨x1, rfl⟩ := List.length_eq_one_iff.1 e1
        obtain ⟨y1, rfl⟩ := List.length_eq_one_iff.1 f1
        have g1 := repV_of_d e2
        have g2 := repV_of_d f2
        simp only [repD] at g1 g2
        subst g1 g2
        exact eqVals_join (by simp [eqVals]) (ih s t c h1 r hr _ _ e3 f3)
    | bool =>
      simp only [kinds] at hk
      split at hk
      case h_2 => cases hk
      rename_i r hr
      cases hk
      match s, t, h with
      | .d (.bool x) :: s, .d (.bool y) :: t, h =>
        simp only [eqLs] at h
        obtain ⟨c, h1, rfl⟩ := h
        obtain ⟨x1, x2, rfl, e1, e2, e3⟩ := repC_cons.1 hx
        obtain ⟨y1, y2, rfl, f1, f2, f3⟩ := repC_cons.1 hy
        obtain ⟨x1, rfl⟩ := List.length_eq_one_iff.1 e1
        obtain ⟨y1, rfl⟩ := List.length_eq_one_iff.1 f1
        have g1 := repV_of_d e2
        have g2 := repV_of_d f2
        simp only [repD] at g1 g2
        subst g1 g2
        exact eqVals_join (by simp [eqVals]) (ih s t c h1 r hr _ _ e3 f3)
    | big n k =>
      simp only [kinds] at hk
      split at hk
      case h_2 => cases hk
      rename_i r hr
      cases hk
      match s, t, h with
      | .big m l :: s, .big m' l' :: t, h =>
        simp only [eqLs] at h
        obtain ⟨hm1, hm2, as, bs, c, rfl, rfl, hn1, hn2, h1, rfl⟩ := h
        simp only [repC] at hx hy
        rcases hx with ⟨_, _, x1, x2, he, rfl, e1, e2, e3, e4⟩ | ⟨u, us, _, _, hu, _⟩
        case inr => simp only [repV] at hu
        rcases hy with ⟨_, _, y1, y2, he', rfl, f1, f2, f3, f4⟩ | ⟨u, us, _, _, hu, _⟩
        case inr => simp only [repV] at hu
        cases he; cases he'
        exact big_vals as bs _ x1 y1 hn1 hn2 (e1.trans hm1) (f1.trans hm2) e3 f3 (ih s t c h1 r hr _ _ e4 f4)
    | slc k => simp only [kinds] at hk; cases hk
    | lit v => simp only [kinds] at hk; cases hk
    | bigB n => simp only [kinds] at hk; cases hk


theorem repVs_three {x y z : V} {vs : List Value} (h : repVs E [x, y, z] vs) : ∃ u v q, vs = [u, v, q] ∧ repV E x u ∧ repV E y v ∧ repV E z q := by
  simp only [repVs] at h
  obtain ⟨u, us, rfl, h1, v, vs', rfl, h2, q, qs, rfl, h3, rfl⟩ := h
  exact ⟨u, v, q, rfl, h1, h2, h3⟩

theorem op_eqBig {tt : TT} (hTT : TabOK P tt) (hW : WR w0 M E aw n w) {o : Oper} {a : Act} {t t' : TypeId} {x y : Operand} {neg : Bool} (ho : o.op = .binOp (bif neg then .neq else .eql) t x y t') {ti : TI} (hti : tt t = some ti) (ha : ti.agg = true) (he : ti.eq = true)
    {l m : List V} (hv : repV E (.agg l) (a.eval x)) (hu : repV E (.agg m) (a.eval y)) {r : Res} (h : opM (.eq neg ti.leaves l m) n r) : OpDid P o a aw E n w r := by
  obtain ⟨kk, hkk, hk, hg⟩ := hTT.eqs t ti hti he
  obtain ⟨q, hq, rfl⟩ := h
  simp only [repV] at hv hu
  obtain ⟨xs, hx, hxc⟩ := hv
  obtain ⟨ys, hy, hyc⟩ := hu
  obtain ⟨i, z, d, _, _, _, _, _, hun, _, hag, _⟩ := (hTT.types t ti hti).info
  rw [ha] at hag
  have hw : ∀ zs : Array Value, wrapV P t zs.toList = .agg zs := by
    intro zs; unfold wrapV; rw [hun]
    cases d <;> first | rfl | cases hag
  have run : (Op.equalIn 10000 t (.agg xs) (.agg ys)).run P w = .ok q w := by
    have h2 := eq_run 40 t kk hk _ _ _ (eqLs_vals _ _ _ _ hq kk hkk _ _ hxc hyc) 10000 w (by omega)
    rwa [hw, hw] at h2
  have hex : ∀ b z, o.op = .binOp b t x y t' → (binOp b t (.agg xs) (.agg ys)).run P w = .ok z w → (execOp a.eval o).run P w = .ok (.value z) w := by
    intro b z ho hz
    refine exec_value (do eqGuard b t x y (a.eval x) (a.eval y); binOp b t (a.eval x) (a.eval y)) (by unfold execOp; simp only [ho]) ?_
    rw [hx, hy]
    simp only [Sem.run_bind, run_eqGuard_agg w b t x y xs ys hg, Result.andThen_ok, hz]
  cases neg with
  | false =>
    refine OpDid.pure hW (v := .bool q) (hex .eql _ ho ?_) rfl (by simp only [repV, repD]; rfl)
    rw [run_eql_struct w t xs ys, run]; rfl
  | true =>
    refine OpDid.pure hW (v := .bool (!q)) (hex .neq _ ho ?_) rfl (by simp only [repV, repD]; rfl)
    rw [run_neq_struct w t xs ys, run]; rfl

theorem run_equalIn_ptrnil (d : Nat) (t e : TypeId) (w : World) (h : P.underlying t = some (.pointer e)) : (Op.equalIn (d + 1) t (.pointer none) (.pointer none)).run P w = .ok true w := by
  simp [Op.equalIn, run_underlying h]
theorem op_nilp {tt : TT} (hTT : TabOK P tt) (hW : WR w0 M E aw n w) {o : Oper} {a : Act} {t t' : TypeId} {x y : Operand} {neg : Bool} (ho : o.op = .binOp (bif neg then .neq else .eql) t x y t') {ti : TI} (hti : tt t = some ti) {e : TypeId} (htd : ti.td = .pointer e)
    (hv : repV E (.d (.lit (.pointer none))) (a.eval x)) (hu : repV E (.d (.lit (.pointer none))) (a.eval y)) {r : Res} (h : opM (.nilp neg) n r) : OpDid P o a aw E n w r := by
  obtain rfl := h
  simp only [repV, repD] at hv hu
  obtain ⟨hx, _⟩ := hv
  obtain ⟨hy, _⟩ := hu
  obtain ⟨i, z, d, _, _, _, _, _, hun, htk, _⟩ := (hTT.types t ti hti).info
  rw [htd] at htk
  have hd : ∃ e', d = .pointer e' := by
    cases d <;> first | exact ⟨_, rfl⟩ | cases htk
  obtain ⟨e', rfl⟩ := hd
  have run : (Op.equal t (.pointer none) (.pointer none)).run P w = .ok true w := run_equalIn_ptrnil 9999 t e' w hun
  have hex : ∀ b z, o.op = .binOp b t x y t' → (binOp b t (.pointer none) (.pointer none)).run P w = .ok z w → (execOp a.eval o).run P w = .ok (.value z) w := by
    intro b z ho hz
    refine exec_value (do eqGuard b t x y (a.eval x) (a.eval y); binOp b t (a.eval x) (a.eval y)) (by unfold execOp; simp only [ho]) ?_
    rw [hx, hy]
    have hg : (eqGuard b t x y (.pointer none) (.pointer none)).run P w = .ok () w := by cases b <;> simp [eqGuard]
    simp only [Sem.run_bind, hg, Result.andThen_ok, hz]
  cases neg with
  | false =>
    refine OpDid.pure hW (v := .bool true) (hex .eql _ ho ?_) rfl (by simp only [repV, repD]; rfl)
    simp only [binOp]
    simp [run]
  | true =>
    refine OpDid.pure hW (v := .bool false) (hex .neq _ ho ?_) rfl (by simp only [repV, repD]; rfl)
    simp only [binOp]
    simp [run]

theorem op_okM {tt : TT} (hTT : TabOK P tt) (hW : WR w0 M E aw n w) {o : Oper} {a : Act} {vs : List V} (hvs : repVs E vs (o.op.operands.toList.map a.eval)) {bs : List Blk} (hbs : blks aw (accOf o.op vs) = some bs)
    {m : MA} (h : mpArgs std tt o.op vs bs = some m) {r : Res} (hr : opM m n r) : OpDid P o a aw E n w r := by
  obtain ⟨dst, op, ty, pos, after, guard⟩ := o
  simp only at hvs hbs h
  unfold mpArgs at h
  split at h
  · rename_i t x ix ck id k ka va es
    split at h
    · rename_i kk tk te ks htd hp
      simp only [cond_eq_ite, Bool.and_eq_true] at h
      split at h
      · rename_i hc
        obtain rfl := Option.some.inj h
        obtain ⟨⟨⟨⟨c1, c2⟩, c3⟩, c4⟩, c5⟩ := hc
        obtain ⟨u, v, e, hu, hv⟩ := repVs_two (by simpa [Op.operands] using hvs)
        cases e
        obtain ⟨b, hb, e⟩ := blks_one hbs
        cases e
        exact op_lookup hTT hW rfl htd hu hv hb (bEq_eq c1) (bEq_eq c2) c4 c5 hp hr
      · cases h
    · cases h
  · rename_i t x ix y id k u ka va es
    split at h
    · rename_i kk tk te ks ds htd hp hp2
      simp only [cond_eq_ite, Bool.and_eq_true] at h
      split at h
      · rename_i hc
        obtain rfl := Option.some.inj h
        obtain ⟨⟨⟨⟨⟨⟨⟨c1, c2⟩, c3⟩, c4⟩, c5⟩, c6⟩, c7⟩, c8⟩ := hc
        obtain ⟨u1, u2, u3, e, g1, g2, g3⟩ := repVs_three (by simpa [Op.operands] using hvs)
        cases e
        obtain ⟨b, hb, e⟩ := blks_one hbs
        cases e
        exact op_mapUpdate hTT hW rfl htd g1 g2 g3 hb (bEq_eq c1) (bEq_eq c2) c5 c7 c6 c8 hp hp2 hr
      · cases h
    · cases h
  · rename_i args ts id k ka va es
    split at h
    · rename_i t t' hts
      split at h
      · rename_i kk tk te ks htd hp
        simp only [cond_eq_ite, Bool.and_eq_true] at h
        split at h
        · rename_i hc
          obtain rfl := Option.some.inj h
          obtain ⟨⟨⟨c1, c2⟩, c3⟩, c4⟩ := hc
          have h4 : repVs E [.map id, k] (args.toList.map a.eval) := by simpa [Op.operands, Call.operands] using hvs
          obtain ⟨u, v, he, hu, hv⟩ := repVs_two h4
          have hl : args.toList.length = 2 := by have := congrArg List.length he; simpa using this
          obtain ⟨y, z, hyz⟩ : ∃ y z, args.toList = [y, z] := by
            match hh : args.toList, hl with
            | [y, z], _ => exact ⟨y, z, rfl⟩
          rw [hyz] at he
          cases he
          obtain ⟨b, hb, e⟩ := blks_one hbs
          cases e
          have ea : args = #[y, z] := Array.toList_inj.1 hyz
          have et : ts = #[t, t'] := Array.toList_inj.1 hts
          subst ea et
          exact op_delete hTT hW rfl htd hu hv hb (bEq_eq c1) c3 c4 hp hr
        · cases h
      · cases h
    · cases h
  · rename_i t
    split at h
    · rename_i kk tk te htd
      obtain rfl := Option.some.inj h
      simp only [opM] at hr
      subst hr
      exact op_makeMap hW rfl _ _
    · cases h
  · rename_i t x y t'
    split at h
    · rename_i ti hti
      split at h
      · rename_i e he
        obtain rfl := Option.some.inj h
        obtain ⟨u, v, e', hu, hv⟩ := repVs_two (by simpa [Op.operands] using hvs)
        cases e'
        exact op_nilp (neg := false) hTT hW rfl hti he hu hv hr
      · cases h
    · cases h
  · rename_i t x y t'
    split at h
    · rename_i ti hti
      split at h
      · rename_i e he
        obtain rfl := Option.some.inj h
        obtain ⟨u, v, e', hu, hv⟩ := repVs_two (by simpa [Op.operands] using hvs)
        cases e'
        exact op_nilp (neg := true) hTT hW rfl hti he hu hv hr
      · cases h
    · cases h
  · rename_i t x y t' l m
    split at h
    · rename_i ti hti
      simp only [cond_eq_ite, Bool.and_eq_true] at h
      split at h
      · rename_i hc
        obtain rfl := Option.some.inj h
        obtain ⟨u, v, e, hu, hv⟩ := repVs_two (by simpa [Op.operands] using hvs)
        cases e
        exact op_eqBig (neg := false) hTT hW rfl hti hc.1 hc.2 hu hv hr
      · cases h
    · cases h
  · rename_i t x y t' l m
    split at h
    · rename_i ti hti
      simp only [cond_eq_ite, Bool.and_eq_true] at h
      split at h
      · rename_i hc
        obtain rfl := Option.some.inj h
        obtain ⟨u, v, e, hu, hv⟩ := repVs_two (by simpa [Op.operands] using hvs)
        cases e
        exact op_eqBig (neg := true) hTT hW rfl hti hc.1 hc.2 hu hv hr
      · cases h
    · cases h
  · cases h

/-- What an operation comes to. -/
def OpS (tt : TT) (op : Op) (vs : List V) (bs : List Blk) (n : Nat) (r : Res) : Prop := (opR std tt op vs bs n = some r ∧ r.side) ∨ ∃ m, mpArgs std tt op vs bs = some m ∧ opM m n r
theorem op_okS {tt : TT} (hTT : TabOK P tt) (hW : WR w0 M E aw n w) {o : Oper} {a : Act} {vs : List V} (hvs : repVs E vs (o.op.operands.toList.map a.eval)) {bs : List Blk} (hbs : blks aw (accOf o.op vs) = some bs)
    {r : Res} (h : OpS tt o.op vs bs n r) : OpDid P o a aw E n w r := by
  rcases h with ⟨h, hs⟩ | ⟨m, h, hr⟩
  · exact op_ok hTT hW hvs hbs h hs
  · exact op_okM hTT hW hvs hbs h hr
end
end Go.AX

namespace Go.AX
set_option autoImplicit false
set_option linter.unusedVariables false
set_option linter.unusedSimpArgs false

/-- What goes through a map asks. -/
inductive RG where
  | range (id : Nat) (ka va : Bool) (es : List (List D × List D))
  | next (iid mid : Nat) (seen : List Nat) (ck : Nat) (ka va : Bool) (l : List (Nat × List D × List D)) (ck' : Nat)
  | entry (iid mid : Nat) (seen : List Nat) (ck : Nat) (ka va : Bool) (l : List (Nat × List D × List D)) (ck' : Nat)
  | del (kk : List (Option IntKind)) (id : Nat) (ka va : Bool) (l : List (Nat × List D × List D)) (ck : Nat) (ks : List D)

def rgArgs (I : Prims) (tt : TT) (draw : Bool) (op : Op) (vs : List V) (aw : List (Nat × Blk)) : Option RG :=
  match draw, op, vs with
  | false, .range t _, [.map id] => (match tdMap tt t, look aw id with
      | some _, some (.mp ka va es) => some (.range id ka va es)
      | _, _ => none)
  | false, .next _ false, [.ptr iid 0] => (match look aw iid with
      | some (.it mid seen ck) => (match look aw mid with
          | some (.mb ka va l ck') => some (.next iid mid seen ck ka va l ck')
          | _ => none)
      | _ => none)
  | false, .entry _, [.ptr iid 0] => (match look aw iid with
      | some (.it mid seen ck) => (match look aw mid with
          | some (.mb ka va l ck') => some (.entry iid mid seen ck ka va l ck')
          | _ => none)
      | _ => none)
  | false, .call ⟨.builtin .delete, _, ts⟩, [.map id, k] => (match ts.toList, look aw id with
      | [t, t'], some (.mb ka va l ck) => (match tdMap tt t, plain I k.cells with
          | some (kk, tk, te), some ks => bif (bEq ka tk.agg && Nat.beq (szs k.cells) tk.size && k.notTup && mpArgs.aggOk tk k) then some (.del kk id ka va l ck ks) else none
          | _, _ => none)
      | _, _ => none)
  | _, _, _ => none

theorem rgArgs_draw {I : Prims} {tt : TT} {op : Op} {vs : List V} {aw : List (Nat × Blk)} : rgArgs I tt true op vs aw = none := by
  unfold rgArgs
  simp

/-- Cells, read as a value. -/
def RdV (agg : Bool) (ds : List D) (v : V) : Prop := ∃ (ls : List Leaf) (l : List V) (s : Prop), leavesSize ls = ds.length ∧ rdLs std ds 0 ls 0 = some (l, s) ∧ s ∧ asVal agg l = some v

def mdelB : List (Nat × List D × List D) → List D → List (Nat × List D × List D)
  | [], _ => []
  | p :: t, q => if sameL q p.2.1 then t else p :: mdelB t q

def rgQ (m : RG) (n : Nat) (K : Res → Prop) : Prop :=
  match m with
  | .range id ka va es => ∀ (l : List (Nat × List D × List D)) (ck : Nat), l.map Prod.snd = es → (l.map Prod.fst).Nodup → K ⟨.ptr n 0, [(n, .it id [] ck), (id, .mb ka va l ck)], 1, True⟩
  | .next iid mid seen ck ka va l ck' => ck = ck' ∧ (∀ p ∈ l, p.1 ∉ seen → ∃ vk vv, RdV ka p.2.1 vk ∧ RdV va p.2.2 vv ∧ ∀ sn, sn = seen ++ [p.1] → K ⟨.tup [.d (.bool true), vk, vv], [(iid, .it mid sn ck)], 0, True⟩) ∧
      ((∀ p ∈ l, p.1 ∈ seen) → K ⟨.tup [.d (.bool false)], [], 0, True⟩)
  | .entry iid mid seen ck ka va l ck' => ck = ck' ∧ ∃ p ∈ l, seen.getLast? = some p.1 ∧ ∃ vk vv, RdV ka p.2.1 vk ∧ RdV va p.2.2 vv ∧ K ⟨.tup [vk, vv], [], 0, True⟩
  | .del kk id ka va l ck ks => ofKinds kk ks ∧ (∀ p ∈ l, ofKinds kk p.2.1) ∧ ∀ l', l' = mdelB l ks → K ⟨.tup [], [(id, .mb ka va l' ck)], 0, True⟩

section
variable {P : Program} {w0 : World} {M : Nat → Prop} {E : Emb} {aw : List (Nat × Blk)} {n : Nat} {w : World}

theorem rdV_rep {agg : Bool} {ds : List D} {x : V} {v : Value} (h : RdV agg ds x) (hr : repKV E.H agg ds v) : repV E x v := by
  obtain ⟨ls, l, s, h1, h2, h3, h4⟩ := h
  have hsz := rdLs_size _ _ _ _ h2
  cases agg with
  | true =>
    obtain ⟨cs, e1, e2, e3, e4⟩ := hr
    have hc := rdLs_rep (E := E) e3 ls 0 l s h2 h3
    rcases asVal_rep h4 hc with ⟨_, hv⟩ | ⟨h, _⟩
    · rw [e1]
      have : (List.take (szs l) (List.drop (0 + 0) cs.toList)).toArray = cs := by
        apply Array.toList_inj.1
        have hlen : szs l = cs.toList.length := by rw [hsz, h1, ← e2, Array.length_toList]
        rw [Nat.zero_add, List.drop_zero, hlen, List.take_length]
      rw [this] at hv; exact hv
    · cases h
  | false =>
    obtain ⟨d, e1, e2⟩ := hr
    rw [e1] at h2 h1
    have hc := rdLs_rep (E := E) (cells := [d]) (off := 0) (ws := [v]) (by simp only [repDs]; exact ⟨_, _, rfl, e2, trivial⟩) ls 0 l s h2 h3
    rcases asVal_rep h4 hc with ⟨h, _⟩ | ⟨_, u, hu', hv⟩
    · cases h
    · have : u = v := by
        rw [hsz, h1] at hu'
        simp at hu'
        exact hu'.symm
      rw [this] at hv; exact hv

theorem Did.more {v : V} {wr : List (Nat × Blk)} {dn : Nat} {s : Prop} {E' : Emb} {w' : World} {x : Value} {id : Nat} {y blk : Blk} (h : Did aw E n w ⟨v, wr, dn, s⟩ E' w' x) (hy : look aw id = some y) (hyl : y.live = true) (hwr : look wr id = none) (hb : BlkOK E' id w' blk) :
    Did aw E n w ⟨v, wr ++ [(id, blk)], dn, s⟩ E' w' x := by
  have back : ∀ i z, look ((wr ++ [(id, blk)]) ++ aw) i = some z → z.live = true → ∃ z', look (wr ++ aw) i = some z' ∧ z'.live = true := by
    intro i z h1 h2
    rw [List.append_assoc, look_append] at h1
    split at h1
    · rename_i q hq; cases h1; exact ⟨_, by rw [look_append, hq], h2⟩
    · rename_i hq
      rw [List.cons_append, List.nil_append, look_cons] at h1
      split at h1
      · rename_i e; subst e; exact ⟨y, by rw [look_append, hq]; exact hy, hyl⟩
      · exact ⟨z, by rw [look_append, hq]; exact h1, h2⟩
  refine ⟨h.le, h.h, h.new, ?_, ?_, ?_, ?_, h.val⟩
  · intro i z b h1 h2 h3
    obtain ⟨z', g1, g2⟩ := back i z h1 h2
    exact h.own i z' b g1 g2 h3
  · intro i j b z q h1 h2 h3 h4 h5 h6
    obtain ⟨z', g1, g2⟩ := back i z h1 h2
    obtain ⟨q', g3, g4⟩ := back j q h3 h4
    exact h.inj i j b z' q' g1 g2 g3 g4 h5 h6
  · obtain ⟨S, h1, h2⟩ := h.grown
    refine ⟨S, h1, fun k hk => ?_⟩
    obtain ⟨i, z, h3, h4, h5, h6⟩ := h2 k hk
    refine ⟨i, z, h3, h4, h5, ?_⟩
    rw [look_append]
    cases hq : look wr i with
    | some _ => rfl
    | none => rw [hq] at h6; cases h6
  · intro i b hb'
    rw [look_append] at hb'
    split at hb'
    · rename_i q hq; cases hb'; exact h.wr i _ hq
    · rw [look_cons] at hb'
      split at hb'
      · rename_i e; cases hb'; subst e; exact hb
      · cases hb'

theorem did_newObj (hW : WR w0 M E aw n w) {o : Obj} {blk : Blk} {val : V} {v : Value} {s : Prop} (hb : BlkOK (E.add n (some w.heap.size) 0) n (w.alloc o) blk) (hv : repV (E.add n (some w.heap.size) 0) val v) :
    Did aw E n w ⟨val, [(n, blk)], 1, s⟩ (E.add n (some w.heap.size) 0) (w.alloc o) v := by
  have hn := hW.none_n
  refine ⟨Emb.le_add hn, fun b o h => .inl h, ?_, ?_, ?_, ⟨_, GrownS.of (World.grownBy_alloc w _ none), fun k hk => by cases hk⟩, ?_, hv⟩
  · intro i x hx
    by_cases e : i = n
    · subst e
      rw [Emb.add_new] at hx
      cases hx
      exact .inr ⟨Nat.le_refl _, Nat.lt_succ_self _, fun b hb => by cases hb; exact .inl ⟨Nat.le_refl _, by show _ < (w.heap.push _).size; simp⟩⟩
    · rw [Emb.add_ne e] at hx; exact .inl hx
  · intro i y b h1 h2 h3
    simp only [List.cons_append, List.nil_append, look_cons] at h1
    by_cases e : i = n
    · subst e
      rw [Emb.add_new] at h3; cases h3
      cases hH : E.H w.heap.size with
      | none => exact hH
      | some o => exact absurd (Array.getElem?_eq_some_iff.1 (hW.ro _ o hH)).1 (Nat.lt_irrefl _)
    · rw [Emb.add_ne e] at h3
      rw [if_neg (Ne.symm e)] at h1
      exact hW.own i y b h1 h2 h3
  · intro i j b x y h1 h2 h3 h4 h5 h6
    simp only [List.cons_append, List.nil_append, look_cons] at h1 h3
    by_cases ei : i = n <;> by_cases ej : j = n
    · rw [ei, ej]
    · subst ei
      rw [Emb.add_new] at h5; cases h5
      rw [Emb.add_ne ej] at h6
      exact absurd (hW.dom _ _ h6).1 (Nat.lt_irrefl _)
    · subst ej
      rw [Emb.add_new] at h6; cases h6
      rw [Emb.add_ne ei] at h5
      exact absurd (hW.dom _ _ h5).1 (Nat.lt_irrefl _)
    · rw [Emb.add_ne ei] at h5
      rw [Emb.add_ne ej] at h6
      rw [if_neg (Ne.symm ei)] at h1
      rw [if_neg (Ne.symm ej)] at h3
      exact hW.inj i j b x y h1 h2 h3 h4 h5 h6
  · intro i b hi
    simp only [look_cons] at hi
    split at hi
    · rename_i e; cases hi; subst e; exact hb
    · cases hi

theorem zip_snd {α β : Type} : ∀ (bs : List α) (es : List β), bs.length = es.length → (bs.zip es).map Prod.snd = es ∧ (bs.zip es).map Prod.fst = bs
  | [], [], _ => ⟨rfl, rfl⟩
  | [], _ :: _, h => by cases h
  | _ :: _, [], h => by cases h
  | b :: bs, e :: es, h => by
    obtain ⟨h1, h2⟩ := zip_snd bs es (by simpa using h)
    exact ⟨by simp [h1], by simp [h2]⟩

theorem rg_range (hW : WR w0 M E aw n w) {o : Oper} {a : Act} {t k e : TypeId} {x : Operand} (ho : o.op = .range t x) (hu : P.underlying t = some (.map k e)) {id : Nat} {ka va : Bool} {es : List (List D × List D)} (hv : repV E (.map id) (a.eval x)) (hb : look aw id = some (.mp ka va es))
    {K : Res → Prop} (h : rgQ (.range id ka va es) n K) : ∃ r, K r ∧ OpDid P o a aw E n w r := by
  obtain ⟨b, ee, c, h1, h2, h3, hR⟩ := mpBlk hW hv hb
  have hl := repE_len _ _ hR.1
  obtain ⟨z1, z2⟩ := zip_snd (ee.toList.map MapEntry.born) es (by rw [List.length_map, hl])
  refine ⟨_, h ((ee.toList.map MapEntry.born).zip es) c z1 (by rw [z2]; exact hR.2.1), ?_⟩
  have hlt := (Array.getElem?_eq_some_iff.1 h3).1
  have hne : id ≠ n := by rintro rfl; rw [hW.none_n] at h1; cases h1
  have hrun : (Instr.range t (a.eval x)).run P w = .ok (.pointer (some ⟨w.heap.size, 0, none⟩)) (w.alloc (.mapIter (some b) c #[] c)) := by
    rw [h2]
    simp only [Instr.range, Sem.run_bind, run_underlying hu, Result.andThen_ok, run_getM h3, Sem.run_pure]
    rfl
  refine OpDid.value (E' := E.add n (some w.heap.size) 0) (exec_value (Instr.range t (a.eval x)) (by unfold execOp; simp only [ho]) hrun) ?_
  refine Did.more (wr := [(n, .it id [] c)]) (did_newObj hW (o := .mapIter (some b) c #[] c) ?_ ?_) hb rfl (by rw [look_cons, if_neg (Ne.symm hne)]; rfl) ?_
  · exact ⟨w.heap.size, b, Emb.add_new, by rw [Emb.add_ne hne]; exact h1, heap_alloc_new w _⟩
  · simp only [repV]; exact ⟨_, Emb.add_new, rfl⟩
  · refine ⟨b, ee, by rw [Emb.add_ne hne]; exact h1, ?_, by rw [z1]; exact hR, by rw [z2]⟩
    rw [← h3]
    exact heap_alloc_old w _ b hlt

theorem itBlk (hW : WR w0 M E aw n w) {iid mid : Nat} {seen : List Nat} {ck ck' : Nat} {ka va : Bool} {l : List (Nat × List D × List D)} {v : Value} (hv : repV E (.ptr iid 0) v) (h1 : look aw iid = some (.it mid seen ck)) (h2 : look aw mid = some (.mb ka va l ck')) :
    ∃ r m ee, v = .pointer (some ⟨r, 0, none⟩) ∧ E.ρ iid = some (some r) ∧ E.ρ mid = some (some m) ∧ w.heap[r]? = some (.mapIter (some m) ck seen.toArray ck) ∧ w.heap[m]? = some (.map ee ck') ∧ repM E.H ka va (l.map Prod.snd) ee ck' ∧ ee.toList.map MapEntry.born = l.map Prod.fst := by
  obtain ⟨r, m, g1, g2, g3⟩ := hW.blk _ _ h1
  obtain ⟨m', ee, k1, k2, k3, k4⟩ := hW.blk _ _ h2
  rw [g2] at k1; cases k1
  simp only [repV] at hv
  obtain ⟨b, e1, e2⟩ := hv
  rw [g1] at e1; cases e1
  exact ⟨r, m, ee, e2, g1, g2, g3, k2, k3, k4⟩

theorem run_getIt {r m ck : Nat} {seen : Array Nat} (h : w.heap[r]? = some (.mapIter (some m) ck seen ck)) : (getObj r).run P w = .ok (.mapIter (some m) ck seen ck) w := by
  simp [getObj, Sem.run, h]
theorem run_setIt {r m ck : Nat} {seen : Array Nat} {w : World} (h : w.heap[r]? = some (.mapIter (some m) ck seen ck)) (o : Obj) : (setObj r o).run P w = .ok () { w with heap := w.heap.setIfInBounds r o } := by
  simp [setObj, Sem.run, h]

/-- Entries and what they are told as, place by place. -/
theorem entry_at {H : Nat → Option Obj} {ka va : Bool} {l : List (Nat × List D × List D)} {ee : Array MapEntry} {ck : Nat} (hR : repM H ka va (l.map Prod.snd) ee ck) (hb : ee.toList.map MapEntry.born = l.map Prod.fst) {e : MapEntry} (he : e ∈ ee.toList) :
    ∃ p ∈ l, p.1 = e.born ∧ repKV H ka p.2.1 e.key ∧ repKV H va p.2.2 e.val := by
  obtain ⟨j, hj, he'⟩ := List.getElem_of_mem he
  have hl : ee.toList.length = l.length := by have := congrArg List.length hb; simpa using this
  have hjl : j < l.length := by omega
  obtain ⟨e2, g1, g2, g3⟩ := repE_get _ _ hR.1 j (l[j]).2 (by simp [hjl])
  have : e2 = e := by
    have h1 : ee.toList[j]? = some e := by rw [List.getElem?_eq_getElem hj, he']
    rw [h1] at g1; cases g1; rfl
  subst this
  refine ⟨l[j], List.getElem_mem hjl, ?_, g2, g3⟩
  have h1 : (ee.toList.map MapEntry.born)[j]? = (l.map Prod.fst)[j]? := by rw [hb]
  rw [List.getElem?_map, List.getElem?_map, List.getElem?_eq_getElem hj, List.getElem?_eq_getElem hjl, he'] at h1
  simp at h1; exact h1.symm

theorem rg_next (hW : WR w0 M E aw n w) {o : Oper} {a : Act} {x : Operand} (ho : o.op = .next x false) {iid mid : Nat} {seen : List Nat} {ck ck' : Nat} {ka va : Bool} {l : List (Nat × List D × List D)} (hv : repV E (.ptr iid 0) (a.eval x))
    (hi : look aw iid = some (.it mid seen ck)) (hm : look aw mid = some (.mb ka va l ck')) {K : Res → Prop} (h : rgQ (.next iid mid seen ck ka va l ck') n K) : ∃ r, K r ∧ OpDid P o a aw E n w r := by
  obtain ⟨r, m, ee, h1, h2, h3, h4, h5, hR, hbn⟩ := itBlk hW hv hi hm
  obtain ⟨rfl, hgo, hover⟩ := h
  have hlt : ∀ e ∈ ee.toList, e.born < ck := hR.2.2
  let left := ee.filter fun e => !seen.toArray.contains e.born
  have hleft : ∀ e ∈ left.toList, e ∈ ee.toList ∧ e.born ∉ seen := by
    intro e he
    have := Array.mem_filter.1 (Array.mem_toList_iff.1 he)
    exact ⟨Array.mem_toList_iff.2 this.1, by simpa using this.2⟩
  have hold : left.filter (fun e => decide (e.born < ck)) = left := by
    apply Array.filter_eq_self.2
    intro e he
    have := (hleft e (Array.mem_toList_iff.2 he)).1
    simpa using hlt e this
  have hnew : left.filter (fun e => decide (e.born ≥ ck)) = #[] := by
    apply Array.filter_eq_empty_iff.2
    intro e he
    have := hlt e (hleft e (Array.mem_toList_iff.2 he)).1
    simp; omega
  have hcond : ((!seen.toArray.isEmpty && !ee.isEmpty && ee.all fun e => decide (e.born ≥ ck)) = true) → False := by
    intro hc
    simp only [Bool.and_eq_true, Bool.not_eq_true', Array.all_eq_true] at hc
    obtain ⟨⟨_, hne⟩, hall⟩ := hc
    have h0 : 0 < ee.size := by
      rcases Nat.eq_zero_or_pos ee.size with h0 | h0
      · rw [Array.isEmpty_eq_false_iff] at hne
        exact absurd (Array.eq_empty_of_size_eq_zero h0) hne
      · exact h0
    have := hall 0 h0
    have h2 := hlt ee[0] (by simp)
    simp at this; omega
  have exec : ∀ z w', (Instr.next (a.eval x) false o.type).run P w = .ok z w' → (execOp a.eval o).run P w = .ok (.value z) w' := fun z w' hz => exec_value (Instr.next (a.eval x) false o.type) (by unfold execOp; simp only [ho]) hz
  by_cases hem : left.isEmpty = true
  · have hall : ∀ p ∈ l, p.1 ∈ seen := by
      intro p hp
      by_cases hs : p.1 ∈ seen
      · exact hs
      · exfalso
        have : p.1 ∈ ee.toList.map MapEntry.born := by rw [hbn]; exact List.mem_map.2 ⟨p, hp, rfl⟩
        obtain ⟨e, he, hb⟩ := List.mem_map.1 this
        have : e ∈ left := Array.mem_filter.2 ⟨Array.mem_toList_iff.1 he, by rw [hb]; simpa using hs⟩
        rw [Array.isEmpty_iff] at hem
        rw [hem] at this
        simp at this
    refine ⟨_, hover hall, ?_⟩
    refine OpDid.pure hW (v := .tuple #[.bool false]) (exec _ _ ?_) rfl (by simp only [repV, repVs, repD]; exact ⟨_, rfl, _, _, rfl, rfl, rfl⟩)
    rw [h1]
    simp only [Instr.next, Sem.run_bind, run_getIt h4, Result.andThen_ok, run_getM h5]
    rw [if_neg hcond]
    have hl0 : left = #[] := Array.isEmpty_iff.1 hem
    have e1 : (ee.filter fun e => !seen.toArray.contains e.born) = #[] := hl0
    simp only [Sem.run_bind, Sem.run_pure, Result.andThen_ok, e1]
    simp [choose, Sem.run, Question.forced]
  · have hne : left ≠ #[] := fun e => hem (by rw [e]; rfl)
    have hsz : 0 < left.size := by
      rcases Nat.eq_zero_or_pos left.size with h0 | h0
      · exact absurd (Array.eq_empty_of_size_eq_zero h0) hne
      · exact h0
    have pick : ∃ (i : Nat) (d : Nat), w.drawn ≤ d ∧ i < left.size ∧ ∀ (k : Nat → Sem Value), (choose (.mapNext (left.map some).size) >>= k).run P w = (k i).run P { w with drawn := d } := by
      by_cases hf : (left.map some).size ≤ 1
      · refine ⟨0, w.drawn, Nat.le_refl _, hsz, fun k => ?_⟩
        simp [choose, Sem.run, Question.forced, bind, Sem.bind, hf]
        intro h'
        simp at hf; omega
      · refine ⟨w.tape w.drawn (.mapNext (left.map some).size) % (left.map some).size, w.drawn + 1, Nat.le_succ _, ?_, fun k => ?_⟩
        · have := Nat.mod_lt (w.tape w.drawn (.mapNext (left.map some).size)) (show 0 < (left.map some).size by simpa using hsz)
          simpa using this
        · simp only [Bind.bind, choose, Sem.bind, Sem.run, Question.forced, Question.cut]
          exact if_neg (fun hd => hf (of_decide_eq_true hd))
    obtain ⟨i, d, hdr, hi', hpick⟩ := pick
    have hmem : left[i] ∈ left.toList := by simp
    obtain ⟨g1, g2⟩ := hleft _ hmem
    obtain ⟨p, hp, hpb, hpk, hpv⟩ := entry_at hR hbn g1
    obtain ⟨vk, vv, hk, hvv, hK⟩ := hgo p hp (by rw [hpb]; exact g2)
    refine ⟨_, hK _ rfl, ?_⟩
    let w2 : World := { w with drawn := d }
    have h4' : w2.heap[r]? = some (.mapIter (some m) ck seen.toArray ck) := h4
    have hrun : (Instr.next (a.eval x) false o.type).run P w = .ok (.tuple #[.bool true, left[i].key, left[i].val]) { w2 with heap := w2.heap.setIfInBounds r (.mapIter (some m) ck (seen.toArray.push left[i].born) ck) } := by
      rw [h1]
      simp only [Instr.next, Sem.run_bind, run_getIt h4, Result.andThen_ok, run_getM h5]
      rw [if_neg hcond]
      have hemp : (left.filter fun e => decide (e.born < ck)).isEmpty = false := by rw [hold]; simpa using hem
      have ec : (if (left.filter fun e => decide (e.born < ck)).isEmpty = true then #[none] else #[]) ++ ((left.filter fun e => decide (e.born < ck)) ++ (left.filter fun e => decide (e.born ≥ ck))).map some = left.map some := by
        rw [hemp, hold, hnew]; simp
      show Sem.run P (choose (.mapNext ((if (left.filter fun e : MapEntry => decide (e.born < ck)).isEmpty = true then #[none] else #[]) ++ ((left.filter fun e : MapEntry => decide (e.born < ck)) ++ (left.filter fun e : MapEntry => decide (e.born ≥ ck))).map some).size) >>= _) w = _
      rw [ec, hpick]
      have e2 : (left.map some)[i]? = some (some left[i]) := by simp [hi']
      simp only [e2, Sem.run_bind, Result.andThen_ok, Sem.run_pure]
      rw [show (⟨w.heap, w.tape, d, w.os, w.output⟩ : World) = w2 from rfl, run_setIt h4']
      rfl
    refine OpDid.value (E' := E) (exec _ _ hrun) (did_put hW (row := some r) ?_ (fun b hb => by cases hb; exact h2) ?_ hi rfl ?_ hdr)
    · refine ⟨rfl, rfl, rfl, by simp [w2], fun k hk hne => ?_⟩
      show (w.heap.setIfInBounds r _)[k]? = _
      rw [Array.getElem?_setIfInBounds_ne (by intro e; exact hne (by rw [e]))]
    · refine ⟨r, m, h2, h3, ?_⟩
      have := (Array.getElem?_eq_some_iff.1 h4).1
      show (w.heap.setIfInBounds r _)[r]? = _
      rw [Array.getElem?_setIfInBounds_self_of_lt this, hpb]
      simp
    · simp only [repV, repVs, repD]
      exact ⟨_, rfl, _, _, rfl, rfl, _, _, rfl, rdV_rep hk hpk, _, _, rfl, rdV_rep hvv hpv, rfl⟩

theorem nd_inj {l : List Nat} (h : l.Nodup) {i j : Nat} (hi : i < l.length) (hj : j < l.length) (e : l[i] = l[j]) : i = j := by
  have := List.pairwise_iff_getElem.1 h
  rcases Nat.lt_trichotomy i j with hlt | heq | hlt
  · exact absurd e (this i j hi hj hlt)
  · exact heq
  · exact absurd e.symm (this j i hj hi hlt)

theorem rg_entry (hW : WR w0 M E aw n w) {o : Oper} {a : Act} {x : Operand} (ho : o.op = .entry x) {iid mid : Nat} {seen : List Nat} {ck ck' : Nat} {ka va : Bool} {l : List (Nat × List D × List D)} (hv : repV E (.ptr iid 0) (a.eval x))
    (hi : look aw iid = some (.it mid seen ck)) (hm : look aw mid = some (.mb ka va l ck')) {K : Res → Prop} (h : rgQ (.entry iid mid seen ck ka va l ck') n K) : ∃ r, K r ∧ OpDid P o a aw E n w r := by
  obtain ⟨r, m, ee, h1, h2, h3, h4, h5, hR, hbn⟩ := itBlk hW hv hi hm
  obtain ⟨rfl, p, hp, hlast, vk, vv, hk, hvv, hK⟩ := h
  refine ⟨_, hK, ?_⟩
  have : p.1 ∈ ee.toList.map MapEntry.born := by rw [hbn]; exact List.mem_map.2 ⟨p, hp, rfl⟩
  obtain ⟨e, he, hb⟩ := List.mem_map.1 this
  have hfind : ee.find? (fun e => e.born == p.1) = some e := by
    rw [← Array.find?_toList]
    cases hf : ee.toList.find? (fun e => e.born == p.1) with
    | none =>
      have := List.find?_eq_none.1 hf e he
      simp [hb] at this
    | some e' =>
      have h6 := List.find?_some hf
      have h7 := List.mem_of_find?_eq_some hf
      congr 1
      obtain ⟨i, hi', e1⟩ := List.getElem_of_mem h7
      obtain ⟨j, hj, e2⟩ := List.getElem_of_mem he
      have hnd := hR.2.1
      have : i = j := by
        have g1 : (ee.toList.map MapEntry.born)[i]'(by simpa using hi') = (ee.toList.map MapEntry.born)[j]'(by simpa using hj) := by
          simp only [List.getElem_map, e1, e2, hb]; simpa using h6
        exact nd_inj hnd _ _ g1
      subst this
      rw [← e1, ← e2]
  obtain ⟨q, hq, hqb, hqk, hqv⟩ := entry_at hR hbn he
  have hqp : q = p := by
    obtain ⟨i, hi', e1⟩ := List.getElem_of_mem hq
    obtain ⟨j, hj, e2⟩ := List.getElem_of_mem hp
    have hnd : (l.map Prod.fst).Nodup := by rw [← hbn]; exact hR.2.1
    have : i = j := by
      have g1 : (l.map Prod.fst)[i]'(by simpa using hi') = (l.map Prod.fst)[j]'(by simpa using hj) := by
        simp only [List.getElem_map, e1, e2, hqb, hb]
      exact nd_inj hnd _ _ g1
    subst this
    rw [← e1, ← e2]
  subst hqp
  refine OpDid.pure hW (v := .tuple #[e.key, e.val]) (exec_value (Instr.entry (a.eval x)) (by unfold execOp; simp only [ho]) ?_) rfl ?_
  · rw [h1]
    have hback : seen.toArray.back? = some q.1 := by rw [← hlast]; simp
    simp only [Instr.entry, Sem.run_bind, run_getIt h4, Result.andThen_ok, hback, run_getM h5, bne_self_eq_false, Bool.false_eq_true, if_false, Sem.run_pure, hfind]
  · simp only [repV, repVs]
    exact ⟨_, rfl, _, _, rfl, rdV_rep hk hqk, _, _, rfl, rdV_rep hvv hqv, rfl⟩

theorem mdelB_map (q : List D) : ∀ (l : List (Nat × List D × List D)), (mdelB l q).map Prod.snd = mdel (l.map Prod.snd) q
  | [] => rfl
  | p :: t => by
    simp only [mdelB, List.map_cons, mdel]
    split
    · rfl
    · simp only [List.map_cons, mdelB_map q t]
theorem mdelB_fst {q : List D} : ∀ (l : List (Nat × List D × List D)) (i : Nat), (match midx (l.map Prod.snd) q i with
    | none => mdelB l q = l
    | some j => i ≤ j ∧ mdelB l q = l.eraseIdx (j - i))
  | [], i => rfl
  | p :: t, i => by
    simp only [List.map_cons, midx, mdelB]
    by_cases hs : sameL q p.2.1 = true
    · simp only [hs, if_true]; exact ⟨Nat.le_refl _, by simp⟩
    · simp only [hs, Bool.false_eq_true, if_false]
      have := mdelB_fst (q := q) t (i + 1)
      cases hm : midx (t.map Prod.snd) q (i + 1) with
      | none => rw [hm] at this; simp only [this]
      | some j =>
        rw [hm] at this
        obtain ⟨h1, h2⟩ := this
        refine ⟨by omega, ?_⟩
        rw [h2, show j - i = (j - (i + 1)) + 1 by omega, List.eraseIdx_cons_succ]

theorem rg_del {tt : TT} (hTT : TabOK P tt) (hW : WR w0 M E aw n w) {o : Oper} {a : Act} {t t' : TypeId} {x ix : Operand} (ho : o.op = .call ⟨.builtin .delete, #[x, ix], #[t, t']⟩) {kk : List (Option IntKind)} {tk te : TI} (htd : tdMap tt t = some (kk, tk, te))
    {id : Nat} {k : V} (hv : repV E (.map id) (a.eval x)) (hk : repV E k (a.eval ix)) {ka va : Bool} {l : List (Nat × List D × List D)} {c : Nat} (hb : look aw id = some (.mb ka va l c)) (hka : ka = tk.agg) (hn : k.notTup = true) (hag : mpArgs.aggOk tk k = true)
    {ks : List D} (hp : plain std k.cells = some ks) {K : Res → Prop} (h : rgQ (.del kk id ka va l c ks) n K) : ∃ r, K r ∧ OpDid P o a aw E n w r := by
  obtain ⟨hq, hes, hK⟩ := h
  refine ⟨_, hK _ rfl, ?_⟩
  obtain ⟨kt, e, hu, hE, hKT, hKO⟩ := tdMap_eq hTT htd
  obtain ⟨b, ee, h1, h3, hR, hbn⟩ := hW.blk _ _ hb
  have h2 : a.eval x = .map (some b) := by
    simp only [repV] at hv
    obtain ⟨b', g1, g2⟩ := hv
    rw [h1] at g1; cases g1; exact g2
  have hkey := key_val hKT hKT.leaves hk hp hq (by exact hag) hn
  have hR' := hR
  rw [hka] at hR'
  have hes' : ∀ p ∈ l.map Prod.snd, ofKinds kk p.1 := by
    intro p hp
    obtain ⟨q, hq, rfl⟩ := List.mem_map.1 hp
    exact hes q hq
  obtain ⟨rr, hf, hm⟩ := findKey_run hKO hq w hR'.1 hes'
  have hck := hKO.ck ee.isEmpty 9998 ks hq w
  have hmb := mdelB_fst (q := ks) l 0
  have fin : ∀ (ee' : Array MapEntry), (Builtin.delete_ #[t, t'] o.type #[a.eval x, a.eval ix]).run P w = .ok (.tuple #[]) { w with heap := w.heap.setIfInBounds b (.map ee' c) } → repM E.H ka va ((mdelB l ks).map Prod.snd) ee' c → ee'.toList.map MapEntry.born = (mdelB l ks).map Prod.fst →
      OpDid P o a aw E n w ⟨.tup [], [(id, .mb ka va (mdelB l ks) c)], 0, True⟩ := by
    intro ee' hrun hrep hborn
    have hex : (execOp a.eval o).run P w = .ok (.value (.tuple #[])) { w with heap := w.heap.setIfInBounds b (.map ee' c) } := by
      rw [exec_builtin ho]
      simp only [builtin, List.map_toArray, List.map_cons, List.map_nil, Sem.run_bind, hrun, Result.andThen_ok, Sem.run_pure]
    refine OpDid.value (E' := E) hex (did_put hW (setMap_grown h3) (fun q hq' => by cases hq'; exact h1) ?_ hb rfl (undef_rep E))
    exact ⟨b, ee', h1, by
      have := (Array.getElem?_eq_some_iff.1 h3).1
      show (w.heap.setIfInBounds b _)[b]? = _
      rw [Array.getElem?_setIfInBounds_self_of_lt this], hrep, hborn⟩
  cases hx : midx (l.map Prod.snd) ks 0 with
  | none =>
    rw [hx] at hm hmb
    subst hm
    refine fin ee ?_ (by rw [hmb]; exact hR) (by rw [hmb]; exact hbn)
    rw [h2]
    simp only [Builtin.delete_]
    show Sem.run P _ w = _
    simp only [Sem.run_bind, run_underlying hu, Result.andThen_ok, run_getM h3, List.getElem?_toArray, List.getElem?_cons_zero, List.getElem?_cons_succ]
    rw [hkey, hck]
    simp only [Result.andThen_ok, hf, Sem.run_bind]
    rw [run_setM h3]; rfl
  | some j =>
    rw [hx] at hm hmb
    obtain ⟨ent, g1, rfl⟩ := hm
    obtain ⟨_, hmb⟩ := hmb
    rw [Nat.sub_zero] at hmb
    have hj : j < ee.size := by
      have := (List.getElem?_eq_some_iff.1 g1).1
      simpa using this
    have hte : (ee.eraseIdxIfInBounds j).toList = ee.toList.eraseIdx j := by
      rw [Array.eraseIdxIfInBounds_eq, dif_pos hj]; simp
    have mapE : ∀ {α β : Type} (f : α → β) (l : List α) (j : Nat), (l.eraseIdx j).map f = (l.map f).eraseIdx j := by
      intro α β f l
      induction l with
      | nil => intro j; rfl
      | cons a t ih => intro j; cases j <;> simp [ih]
    refine fin (ee.eraseIdxIfInBounds j) ?_ ?_ ?_
    · rw [h2]
      simp only [Builtin.delete_]
      show Sem.run P _ w = _
      simp only [Sem.run_bind, run_underlying hu, Result.andThen_ok, run_getM h3, List.getElem?_toArray, List.getElem?_cons_zero, List.getElem?_cons_succ]
      rw [hkey, hck]
      simp only [Result.andThen_ok, hf, Sem.run_bind]
      rw [run_setM h3]; rfl
    · rw [hmb, mapE]
      refine ⟨by rw [hte]; exact repE_erase _ _ j hR.1, ?_, ?_⟩
      · rw [hte]; exact hR.2.1.sublist ((List.eraseIdx_sublist _ _).map _)
      · intro en hen
        rw [hte] at hen
        exact hR.2.2 en (List.mem_of_mem_eraseIdx hen)
    · rw [hte, hmb, mapE, mapE, hbn]

theorem rg_ok {tt : TT} (hTT : TabOK P tt) (hW : WR w0 M E aw n w) {o : Oper} {a : Act} {vs : List V} (hvs : repVs E vs (o.op.operands.toList.map a.eval)) {m : RG} (h : rgArgs std tt false o.op vs aw = some m) {K : Res → Prop} (hr : rgQ m n K) : ∃ r, K r ∧ OpDid P o a aw E n w r := by
  obtain ⟨dst, op, ty, pos, after, guard⟩ := o
  simp only at hvs h
  unfold rgArgs at h
  split at h
  · rename_i t x id
    split at h
    · rename_i q ka va es htd hb
      obtain rfl := Option.some.inj h
      obtain ⟨u, e, hu⟩ := repVs_one (by simpa [Op.operands] using hvs)
      cases e
      obtain ⟨kk, tk, te⟩ := q
      obtain ⟨k, e, hu', _⟩ := tdMap_eq hTT htd
      exact rg_range hW rfl hu' hu hb hr
    · cases h
  · rename_i x iid
    split at h
    · rename_i mid seen ck hi
      split at h
      · rename_i ka va l ck' hm
        obtain rfl := Option.some.inj h
        obtain ⟨u, e, hu⟩ := repVs_one (by simpa [Op.operands] using hvs)
        cases e
        exact rg_next hW rfl hu hi hm hr
      · cases h
    · cases h
  · rename_i x iid
    split at h
    · rename_i mid seen ck hi
      split at h
      · rename_i ka va l ck' hm
        obtain rfl := Option.some.inj h
        obtain ⟨u, e, hu⟩ := repVs_one (by simpa [Op.operands] using hvs)
        cases e
        exact rg_entry hW rfl hu hi hm hr
      · cases h
    · cases h
  · rename_i args ts id k _
    split at h
    · rename_i t t' ka va l ck hts hb
      split at h
      · rename_i kk tk te ks htd hp
        simp only [cond_eq_ite, Bool.and_eq_true] at h
        split at h
        · rename_i hc
          obtain rfl := Option.some.inj h
          obtain ⟨⟨⟨c1, c2⟩, c3⟩, c4⟩ := hc
          have h4 : repVs E [.map id, k] (args.toList.map a.eval) := by simpa [Op.operands, Call.operands] using hvs
          obtain ⟨u, v, he, hu, hv⟩ := repVs_two h4
          have hl : args.toList.length = 2 := by have := congrArg List.length he; simpa using this
          obtain ⟨y, z, hyz⟩ : ∃ y z, args.toList = [y, z] := by
            match hh : args.toList, hl with
            | [y, z], _ => exact ⟨y, z, rfl⟩
          rw [hyz] at he
          cases he
          have ea : args = #[y, z] := Array.toList_inj.1 hyz
          have et : ts = #[t, t'] := Array.toList_inj.1 hts
          subst ea et
          exact rg_del hTT hW rfl htd hu hv hb (bEq_eq c1) c3 c4 hp hr
        · cases h
      · cases h
    · cases h
  · cases h
end
end Go.AX

namespace Go.AX
set_option autoImplicit false
set_option linter.unusedVariables false

def ofConst : Value → Option V
  | .int k n => some (.d (.int k n))
  | .bool b => some (.d (.bool b))
  | .string s => some (.d (.str s))
  | .slice none 0 0 => some (.d .nils)
  | .nilFunc => some (.d (.lit .nilFunc))
  | .pointer none => some (.d (.lit (.pointer none)))
  | .map none => some (.d (.lit (.map none)))
  | .nilIface => some (.d (.lit .nilIface))
  | _ => none

def St.ev (st : St) : Operand → Option V
  | .tmp t => look st.env t
  | .const v => ofConst v
  | .func f => some (.fn f [])
  | .global _ => none

def evs (st : St) : List Operand → Option (List V)
  | [] => some []
  | x :: t => match st.ev x, evs st t with
    | some v, some r => some (v :: r)
    | _, _ => none

/-- What an operation touches: the slot it writes, those it reads, blocks it looks at, blocks it writes, operations it waits for. -/
structure Fp where
  dst : Option Nat
  uses : List Nat
  acc : List Nat
  wr : List Nat
  pre : List Nat

def tmpsOf : List Operand → List Nat
  | [] => []
  | .tmp t :: r => t :: tmpsOf r
  | _ :: r => tmpsOf r

def memN : List Nat → Nat → Bool
  | [], _ => false
  | a :: t, x => Nat.beq a x || memN t x

def apartN : List Nat → List Nat → Bool
  | [], _ => true
  | a :: t, l => !memN l a && apartN t l

def optL : Option Nat → List Nat
  | none => []
  | some x => [x]

/-- Two operations whose order doesn't matter. -/
def Fp.apart (x y : Fp) : Bool :=
  apartN (optL x.dst) y.uses && apartN (optL y.dst) x.uses && apartN (optL x.dst) (optL y.dst) && apartN x.wr y.acc && apartN y.wr x.acc && apartN x.wr y.wr

/-- Of operations, told last first, each two that aren't ordered are apart. -/
def indep1 (y : Fp) : List Fp → Nat → Bool
  | [], _ => true
  | x :: t, n => (memN y.pre (t.length) || x.apart y) && indep1 y t n

def indep : List Fp → Bool
  | [] => true
  | y :: t => indep1 y t 0 && indep t

/-- The operations that one waits for, all of them. -/
def preds (acc : List Fp) : List Edge → List Nat
  | [] => []
  | e :: t => bif Region.binds .any e then e.on :: ((bif Nat.blt e.on acc.length then (match acc[Nat.sub (Nat.sub acc.length e.on) 1]? with | some f => f.pre | none => []) else []) ++ preds acc t) else preds acc t

def backE : List Edge → Nat → Bool
  | [], _ => true
  | e :: t, n => (!Region.binds .any e || Nat.blt e.on n) && backE t n

def backs : List Oper → Nat → Bool
  | [], _ => true
  | o :: t, n => backE o.after.toList n && backs t (Nat.succ n)

def Enters (P : Program) (g : FuncId) : Prop := ∃ fn, P.funcs[g]? = some fn ∧ (fn.name == "runtime.NumGoroutine") = false ∧ fn.body.isNone = false

def CallOK (P : Program) (g : FuncId) (vs : List V) (aw : List (Nat × Blk)) (acc : List Nat) (n : Nat) (r : Res) : Prop :=
  Enters P g ∧ ∀ (aw' : List (Nat × Blk)), (∀ i, memN acc i = true → look aw' i = look aw i) → ∀ (w0 : World) (M : Nat → Prop) (E : Emb) (w : World) (xs : Array Value), WR w0 M E aw' n w → (∀ i, n ≤ i → i < n + r.dn → E.ρ i = none) →
    repVs E vs xs.toList → Calls P g xs w (fun e w' => ∃ v E', e = .returned v ∧ Did aw' E n w r E' w' v)

structure CRes where
  res : Res
  acc : List Nat

inductive CallP (P : Program) (I : Prims) (g : FuncId) (vs : List V) (st : St) (K : CRes → Prop) : Prop
  | mk (r : CRes) (h : CallOK P g vs st.aw r.acc st.n r.res) (k : K r)

def keys {α : Type} : List (Nat × α) → List Nat
  | [] => []
  | (a, _) :: t => a :: keys t

def isCall : Op → Option (Operand × List Operand)
  | .call ⟨.value f, args, _⟩ => some (f, args.toList)
  | _ => none

def guseOf (ops : List Oper) : Option (Nat × Bool) → List Nat
  | none => []
  | some (j, _) => match ops[j]? with | some g => optL g.dst | none => []

def goOps (P : Program) (I : Prims) (tt : TT) (draw : Bool) (ops : List Oper) (Q : Exit → St → Prop) : List Oper → List Fp → St → Prop
  | [], acc, st => (match draw with | true => ∀ _ : Unit, (indep acc && backs ops 0) = true | false => True) ∧ Q .normal st
  | o :: rest, acc, st =>
    let pre := preds acc o.after.toList
    let guse := guseOf ops o.guard
    let run : Prop := match isCall o.op with
      | some (f, args) => (match st.ev f, evs st args with
          | some (.fn g caps), some vs => dstOk st o.dst = true ∧ CallP P I g (vs ++ caps) st (fun c => goOps P I tt draw ops Q rest (⟨o.dst, guse ++ tmpsOf (f :: args), c.acc, keys c.res.wr, pre⟩ :: acc) (st.app o.dst c.res))
          | _, _ => False)
      | none => (match evs st o.op.operands.toList with
          | some vs => (match nilOf tt draw o.op vs with
              | some (e, some n) => dstOk st o.dst = true ∧ ∀ b, (b = e → n = 0) → goOps P I tt draw ops Q rest (⟨o.dst, guse ++ tmpsOf o.op.operands.toList, [], [], pre⟩ :: acc) (st.app o.dst ⟨.d (.bool b), [], 0, True⟩)
              | some (e, none) => dstOk st o.dst = true ∧ goOps P I tt draw ops Q rest (⟨o.dst, guse ++ tmpsOf o.op.operands.toList, [], [], pre⟩ :: acc) (st.app o.dst ⟨.d (.bool e), [], 0, True⟩)
              | none => (match blks st.aw (accOf o.op vs) with
                  | some bs => (match opR I tt o.op vs bs st.n with
                      | some r => dstOk st o.dst = true ∧ r.side ∧ goOps P I tt draw ops Q rest (⟨o.dst, guse ++ tmpsOf o.op.operands.toList, accOf o.op vs, keys r.wr, pre⟩ :: acc) (st.app o.dst r)
                      | none => (match mpArgs I tt o.op vs bs with
                          | some m => ∃ r, opM m st.n r ∧ dstOk st o.dst = true ∧ goOps P I tt draw ops Q rest (⟨o.dst, guse ++ tmpsOf o.op.operands.toList, accOf o.op vs, keys r.wr, pre⟩ :: acc) (st.app o.dst r)
                          | none => (match rgArgs I tt draw o.op vs st.aw with
                              | some m => dstOk st o.dst = true ∧ rgQ m st.n (fun r => goOps P I tt draw ops Q rest (⟨o.dst, guse ++ tmpsOf o.op.operands.toList, accOf o.op vs, keys r.wr, pre⟩ :: acc) (st.app o.dst r))
                              | none => False)))
                  | none => False))
          | none => False)
    let skip : Prop := dstOk st o.dst = true ∧ goOps P I tt draw ops Q rest (⟨o.dst, guse, [], [], pre⟩ :: acc) (st.app o.dst ⟨.tup [], [], 0, True⟩)
    match o.guard with
    | none => run
    | some (j, want) => (match ops[j]? with
        | some g => (match g.dst with
            | some d => (match look st.env d with
                | some (.d (.bool b)) => (b = want → run) ∧ (b = !want → skip)
                | some (.tup []) => skip
                | _ => False)
            | none => False)
        | none => False)

end Go.AX

namespace Go.AX
set_option autoImplicit false
set_option linter.unusedVariables false

section
variable {P : Program} {w0 : World} {M : Nat → Prop} {H0 : Emb} {tt : TT}

def QR (w0 : World) (M : Nat → Prop) (H0 : Emb) (Q : Exit → St → Prop) : Exit → Act → World → Prop :=
  fun e a w => ∃ E st, R w0 M H0 E st a w ∧ Q e st

theorem ofConst_rep {E : Emb} {c : Value} {v : V} (h : ofConst c = some v) : repV E v c := by
  unfold ofConst at h
  split at h <;> first
    | (cases h; done)
    | (cases h; simp [repV, repD]; done)
    | (cases h; simp [repV, repD, Value.oneCell']; done)

theorem ev_rep {E : Emb} {st : St} {a : Act} (hE : EnvOK E st.env a.tmps) {x : Operand} {v : V} (h : st.ev x = some v) : repV E v (a.eval x) := by
  cases x with
  | tmp t =>
    obtain ⟨u, hu, hr⟩ := hE t v h
    simp only [Act.eval]
    rw [show a.tmps.getD t undef = u by simp [Array.getD_eq_getD_getElem?, hu]]
    exact hr
  | const c => exact ofConst_rep h
  | func f => cases h; simp only [Act.eval, repV]; exact ⟨#[], rfl, by simp [repVs]⟩
  | global g => cases h

theorem evs_rep {E : Emb} {st : St} {a : Act} (hE : EnvOK E st.env a.tmps) : ∀ (l : List Operand) (vs : List V), evs st l = some vs → repVs E vs (l.map a.eval)
  | [], vs, h => by cases h; simp [repVs]
  | x :: t, vs, h => by
    simp only [evs] at h
    split at h
    · rename_i v r h1 h2
      cases h
      simp only [List.map_cons, repVs]
      exact ⟨_, _, rfl, ev_rep hE h1, evs_rep hE t r h2⟩
    · cases h

theorem repVs_append {E : Emb} : ∀ {l m : List V} {xs ys : List Value}, repVs E l xs → repVs E m ys → repVs E (l ++ m) (xs ++ ys)
  | [], m, xs, ys, h1, h2 => by simp only [repVs] at h1; subst h1; exact h2
  | v :: l, m, xs, ys, h1, h2 => by
    simp only [repVs] at h1
    obtain ⟨u, us, rfl, h3, h4⟩ := h1
    simp only [List.cons_append, repVs]
    exact ⟨u, _, rfl, h3, repVs_append h4 h2⟩

theorem exec_call {o : Oper} {a : Act} {w : World} {f : Operand} {args : Array Operand} {ts : Array TypeId} (ho : o.op = .call ⟨.value f, args, ts⟩) {g : FuncId} {cs : Array Value} (hf : a.eval f = .func (.func g) #[] cs) (hg : Enters P g) :
    (execOp a.eval o).run P w = .ok (.enter g (args.map a.eval ++ cs)) w := by
  obtain ⟨fn, h1, h2, h3⟩ := hg
  unfold execOp
  simp only [ho, resolve, hf, Deferred.ofValue, Sem.run_bind, Sem.run_pure, Result.andThen_ok, invoke, callFunc]
  have h2' : fn.name ≠ "runtime.NumGoroutine" := by simpa using h2
  have h3' : fn.body ≠ none := by intro e; rw [e] at h3; cases h3
  simp [h1, h2', h3']

theorem isCall_eq {op : Op} {f : Operand} {args : List Operand} (h : isCall op = some (f, args)) : ∃ ts, op = .call ⟨.value f, args.toArray, ts⟩ := by
  unfold isCall at h
  split at h
  · cases h; exact ⟨_, rfl⟩
  · cases h

theorem eqGuard_slice (w : World) (op : BinOp) (t : TypeId) (x y : Operand) (ad bd : Option Addr) (l c l' c' : Nat) : (eqGuard op t x y (.slice ad l c) (.slice bd l' c')).run P w = .ok () w := by
  cases op <;> simp [eqGuard]

theorem nil_run {E : Emb} {aw : List (Nat × Blk)} {n : Nat} {w : World} (hTT : TabOK P tt) (hW : WR w0 M E aw n w) {o : Oper} {a : Act} {vs : List V} (hvs : repVs E vs (o.op.operands.toList.map a.eval)) {e : Bool} {m : Option Nat} (h : nilOf tt false o.op vs = some (e, m)) :
    ∃ ad, (execOp a.eval o).run P w = .ok (.value (.bool (bif e then Option.isNone ad else !Option.isNone ad))) w ∧ (ad = none → ∀ q, m = some q → q = 0) ∧ (m = none → (ad : Option Addr) = none) := by
  obtain ⟨dst, op, ty, pos, after, guard⟩ := o
  simp only at hvs h
  unfold nilOf at h
  split at h
  case h_2 => cases h
  rename_i b t x y t' v _
  obtain ⟨p, q, ee, hv, hu⟩ := repVs_two (by simpa [Op.operands] using hvs)
  simp only [List.cons.injEq, and_true] at ee
  obtain ⟨rfl, rfl⟩ := ee
  split at h
  case h_2 => cases h
  rename_i et hsl
  obtain ⟨h1, _⟩ := tdSlice_eq (e := et.1) (te := et.2) hTT.types hsl
  simp only [repV, repD] at hu
  have hex : ∀ (ad : Option Addr) (l c : Nat), a.eval x = .slice ad l c → (execOp a.eval ⟨dst, .binOp .eql t x y t', ty, pos, after, guard⟩).run P w = .ok (.value (.bool ad.isNone)) w := by
    intro ad l c hx
    refine exec_value (do eqGuard .eql t x y (a.eval x) (a.eval y); binOp .eql t (a.eval x) (a.eval y)) (by unfold execOp; rfl) ?_
    rw [hx, hu]
    simp only [Sem.run_bind]
    rw [eqGuard_slice, Result.andThen_ok]
    exact Lib.run_eql_slice_nil w t _ ad l c 0 0 h1
  have hex' : ∀ (ad : Option Addr) (l c : Nat), a.eval x = .slice ad l c → (execOp a.eval ⟨dst, .binOp .neq t x y t', ty, pos, after, guard⟩).run P w = .ok (.value (.bool (!ad.isNone))) w := by
    intro ad l c hx
    refine exec_value (do eqGuard .neq t x y (a.eval x) (a.eval y); binOp .neq t (a.eval x) (a.eval y)) (by unfold execOp; rfl) ?_
    rw [hx, hu]
    simp only [Sem.run_bind]
    rw [eqGuard_slice, Result.andThen_ok]
    simp only [binOp]
    simp [Op.equal, Op.maxDepth, Lib.run_equalIn_slice_nil w 9999 t _ ad l c 0 0 h1]
  have lst : ∀ {cells : List D} {n : Nat}, repD E.H (.lst cells n) (a.eval x) → ∃ ad c, a.eval x = .slice ad n c ∧ (ad = none → n = 0) := by
    intro cells n hr
    simp only [repD] at hr
    obtain ⟨ad, cap, h3, _, h4⟩ := hr
    refine ⟨ad, cap, h3, fun hn => ?_⟩
    rcases h4 with h4 | ⟨p, _, _, _, h4, _⟩
    · exact h4
    · rw [hn] at h4; cases h4
  have own : ∀ {id n k : Nat}, repV E (.own id n k) (a.eval x) → ∃ ad c, a.eval x = .slice ad n c ∧ (ad = none → n = 0) := by
    intro id n k hr
    simp only [repV] at hr
    rcases hr with ⟨_, rfl, h3⟩ | ⟨b, cap, _, h3, _⟩
    · exact ⟨none, 0, h3, fun _ => rfl⟩
    · exact ⟨_, cap, h3, fun hn => by cases hn⟩
  split at h
  · cases h
    simp only [repV, repD] at hv
    exact ⟨none, hex none 0 0 hv, fun _ q hq => (by cases hq), fun _ => rfl⟩
  · cases h
    simp only [repV, repD] at hv
    exact ⟨none, hex' none 0 0 hv, fun _ q hq => (by cases hq), fun _ => rfl⟩
  · cases h
    simp only [repV] at hv
    obtain ⟨ad, c, h3, h4⟩ := lst hv
    exact ⟨ad, hex ad _ c h3, fun hn q hq => (by cases hq; exact h4 hn), fun hq => (by cases hq)⟩
  · cases h
    simp only [repV] at hv
    obtain ⟨ad, c, h3, h4⟩ := lst hv
    exact ⟨ad, hex' ad _ c h3, fun hn q hq => (by cases hq; exact h4 hn), fun hq => (by cases hq)⟩
  · cases h
    obtain ⟨ad, c, h3, h4⟩ := own hv
    exact ⟨ad, hex ad _ c h3, fun hn q hq => (by cases hq; exact h4 hn), fun hq => (by cases hq)⟩
  · cases h
    obtain ⟨ad, c, h3, h4⟩ := own hv
    exact ⟨ad, hex' ad _ c h3, fun hn q hq => (by cases hq; exact h4 hn), fun hq => (by cases hq)⟩
  · cases h

theorem nil_ok {E : Emb} {aw : List (Nat × Blk)} {n : Nat} {w : World} (hTT : TabOK P tt) (hW : WR w0 M E aw n w) {o : Oper} {a : Act} {vs : List V} (hvs : repVs E vs (o.op.operands.toList.map a.eval)) {e : Bool} {m : Option Nat} (h : nilOf tt false o.op vs = some (e, m)) :
    ∃ b, (b = e → ∀ q, m = some q → q = 0) ∧ (execOp a.eval o).run P w = .ok (.value (.bool b)) w := by
  obtain ⟨ad, h1, h2, _⟩ := nil_run hTT hW hvs h
  refine ⟨_, fun hb => ?_, h1⟩
  cases ad with
  | none => exact h2 rfl
  | some x => cases e <;> simp at hb

theorem nil_sure {E : Emb} {aw : List (Nat × Blk)} {n : Nat} {w : World} (hTT : TabOK P tt) (hW : WR w0 M E aw n w) {o : Oper} {a : Act} {vs : List V} (hvs : repVs E vs (o.op.operands.toList.map a.eval)) {e : Bool} (h : nilOf tt false o.op vs = some (e, none)) {b : Bool}
    (hb : (execOp a.eval o).run P w = .ok (.value (.bool b)) w) : e = b := by
  obtain ⟨ad, h1, _, h2⟩ := nil_run hTT hW hvs h
  rw [h1] at hb
  have := h2 rfl
  subst this
  cases e <;> simp at hb <;> simp [hb]

/-- One operation, whatever it is, done by the machine as told. -/
def Steps' (P : Program) (o : Oper) (aw : List (Nat × Blk)) (n : Nat) (r : Res) : Prop := True

theorem goOps_sound (hTT : TabOK P tt) {ops : List Oper} {Q : Exit → St → Prop} : ∀ (l : List Oper) (acc : List Fp) (st : St), goOps P std tt false ops Q l acc st →
    ∀ (E : Emb) (a : Act) (w : World), R w0 M H0 E st a w → wpList P ops.toArray (QR w0 M H0 Q) l a w
  | [], acc, st, h, E, a, w, hR => by
    simp only [goOps] at h
    exact ⟨E, st, hR, h.2⟩
  | o :: rest, acc, st, h, E, a, w, hR => by
    simp only [goOps] at h
    have skip : ∀ (accs : List Fp) (r : Res), r = ⟨.tup [], [], 0, True⟩ → dstOk st o.dst = true → goOps P std tt false ops Q rest accs (st.app o.dst r) → wpList P ops.toArray (QR w0 M H0 Q) rest (a.put o.dst undef) w := by
      rintro accs r rfl hd hk
      exact goOps_sound hTT rest accs _ hk E _ w (hR.app hd (Did.same hR.wr rfl (undef_rep E)))
    have run : (match isCall o.op with
      | some (f, args) => (match st.ev f, evs st args with
          | some (.fn g caps), some vs => dstOk st o.dst = true ∧ CallP P std g (vs ++ caps) st (fun c => goOps P std tt false ops Q rest (⟨o.dst, guseOf ops o.guard ++ tmpsOf (f :: args), c.acc, keys c.res.wr, preds acc o.after.toList⟩ :: acc) (st.app o.dst c.res))
          | _, _ => False)
      | none => (match evs st o.op.operands.toList with
          | some vs => (match nilOf tt false o.op vs with
              | some (e, some n) => dstOk st o.dst = true ∧ ∀ b, (b = e → n = 0) → goOps P std tt false ops Q rest (⟨o.dst, guseOf ops o.guard ++ tmpsOf o.op.operands.toList, [], [], preds acc o.after.toList⟩ :: acc) (st.app o.dst ⟨.d (.bool b), [], 0, True⟩)
              | some (e, none) => dstOk st o.dst = true ∧ goOps P std tt false ops Q rest (⟨o.dst, guseOf ops o.guard ++ tmpsOf o.op.operands.toList, [], [], preds acc o.after.toList⟩ :: acc) (st.app o.dst ⟨.d (.bool e), [], 0, True⟩)
              | none => (match blks st.aw (accOf o.op vs) with
                  | some bs => (match opR std tt o.op vs bs st.n with
                      | some r => dstOk st o.dst = true ∧ r.side ∧ goOps P std tt false ops Q rest (⟨o.dst, guseOf ops o.guard ++ tmpsOf o.op.operands.toList, accOf o.op vs, keys r.wr, preds acc o.after.toList⟩ :: acc) (st.app o.dst r)
                      | none => (match mpArgs std tt o.op vs bs with
                          | some m => ∃ r, opM m st.n r ∧ dstOk st o.dst = true ∧ goOps P std tt false ops Q rest (⟨o.dst, guseOf ops o.guard ++ tmpsOf o.op.operands.toList, accOf o.op vs, keys r.wr, preds acc o.after.toList⟩ :: acc) (st.app o.dst r)
                          | none => (match rgArgs std tt false o.op vs st.aw with
                              | some m => dstOk st o.dst = true ∧ rgQ m st.n (fun r => goOps P std tt false ops Q rest (⟨o.dst, guseOf ops o.guard ++ tmpsOf o.op.operands.toList, accOf o.op vs, keys r.wr, preds acc o.after.toList⟩ :: acc) (st.app o.dst r))
                              | none => False)))
                  | none => False))
          | none => False)) → o.wp P a w (wpList P ops.toArray (QR w0 M H0 Q) rest) (QR w0 M H0 Q) := by
      intro h
      split at h
      · rename_i f args hc
        obtain ⟨ts, ho⟩ := isCall_eq hc
        split at h
        · rename_i g caps vs hf hvs
          obtain ⟨hd, c, hok, hk⟩ := h
          have hfr := ev_rep hR.env hf
          simp only [repV] at hfr
          obtain ⟨cs, hfe, hcs⟩ := hfr
          have hargs := evs_rep hR.env args vs hvs
          obtain ⟨hent, hok⟩ := hok
          unfold Oper.wp
          rw [exec_call ho hfe hent]
          simp only [Oper.upon]
          refine (hok st.aw (fun _ _ => rfl) w0 M E w _ hR.wr (fun i h1 h2 => ?_) ?_).mono ?_
          · cases hx : E.ρ i with
            | none => rfl
            | some x => have := hR.lt i x hx; omega
          · have := repVs_append hargs hcs
            simpa using this
          · rintro e w' ⟨v, E', rfl, hd'⟩
            exact goOps_sound hTT rest _ _ hk E' _ w' (hR.app hd hd')
        · exact h.elim
      · split at h
        · rename_i vs hvs
          split at h
          · rename_i e n hno
            obtain ⟨hd, hk⟩ := h
            obtain ⟨b, hb, hrun⟩ := nil_ok hTT hR.wr (evs_rep hR.env _ _ hvs) hno
            have hnext := goOps_sound hTT rest _ _ (hk b (fun h => hb h n rfl)) E _ w (hR.app hd (Did.same (v := .bool b) hR.wr rfl (by simp only [repV, repD])))
            unfold Oper.wp
            rw [hrun]; exact hnext
          · rename_i e hno
            obtain ⟨hd, hk⟩ := h
            obtain ⟨b, hb, hrun⟩ := nil_ok hTT hR.wr (evs_rep hR.env _ _ hvs) hno
            have hbe := nil_sure hTT hR.wr (evs_rep hR.env _ _ hvs) hno hrun
            subst hbe
            have hnext := goOps_sound hTT rest _ _ hk E _ w (hR.app hd (Did.same (v := .bool e) hR.wr rfl (by simp only [repV, repD])))
            unfold Oper.wp
            rw [hrun]; exact hnext
          · split at h
            · rename_i bs hbs
              split at h
              · rename_i r hr
                obtain ⟨hd, hs, hk⟩ := h
                obtain ⟨E', w', v, hrun, hdid⟩ := op_ok hTT hR.wr (evs_rep hR.env _ _ hvs) hbs hr hs
                have hnext := goOps_sound hTT rest _ _ hk E' _ w' (hR.app hd hdid)
                unfold Oper.wp
                rcases hrun with hrun | ⟨hrun, rfl⟩
                · rw [hrun]; exact hnext
                · rw [hrun]; exact hnext
              · split at h
                · rename_i m hm
                  obtain ⟨r, hr, hd, hk⟩ := h
                  obtain ⟨E', w', v, hrun, hdid⟩ := op_okM hTT hR.wr (evs_rep hR.env _ _ hvs) hbs hm hr
                  have hnext := goOps_sound hTT rest _ _ hk E' _ w' (hR.app hd hdid)
                  unfold Oper.wp
                  rcases hrun with hrun | ⟨hrun, rfl⟩
                  · rw [hrun]; exact hnext
                  · rw [hrun]; exact hnext
                · split at h
                  · rename_i m hm
                    obtain ⟨hd, hq⟩ := h
                    obtain ⟨r, hk, E', w', v, hrun, hdid⟩ := rg_ok hTT hR.wr (evs_rep hR.env _ _ hvs) hm hq
                    have hnext := goOps_sound hTT rest _ _ hk E' _ w' (hR.app hd hdid)
                    unfold Oper.wp
                    rcases hrun with hrun | ⟨hrun, rfl⟩
                    · rw [hrun]; exact hnext
                    · rw [hrun]; exact hnext
                  · exact h.elim
            · exact h.elim
        · exact h.elim
    cases hg : o.guard with
    | none =>
      rw [hg] at h run
      refine wpList_step fun K hK => ?_
      rw [if_pos (by simp [Region.wanted, hg])]
      exact Oper.wp_mono hK (run h)
    | some jw =>
      obtain ⟨j, want⟩ := jw
      rw [hg] at h run
      refine wpList_step fun K hK => ?_
      simp only at h
      split at h
      · rename_i g hgj
        split at h
        · rename_i d hgd
          have hy : ∀ v, look st.env d = some v → ∃ u, a.tmps[d]? = some u ∧ repV E v u := fun v hv => hR.env d v hv
          have hops : ops.toArray[j]? = some g := by simpa using hgj
          split at h
          · rename_i b hb
            obtain ⟨u, hu, hr⟩ := hy _ hb
            simp only [repV, repD] at hr
            subst hr
            have hyd : yielded ops.toArray a.tmps j = some b := by
              simp [yielded, hops, hgd, hu]
            by_cases hbw : b = want
            · rw [if_pos (by simp [Region.wanted, hg, hyd, hbw])]
              exact Oper.wp_mono hK (run (h.1 hbw))
            · rw [if_neg (by simp [Region.wanted, hg, hyd, hbw])]
              have hbn : b = !want := by cases b <;> cases want <;> simp_all
              obtain ⟨hd, hk⟩ := h.2 hbn
              exact hK _ _ (skip _ _ rfl hd hk)
          · rename_i hb
            obtain ⟨u, hu, hr⟩ := hy _ hb
            simp only [repV, repVs] at hr
            obtain ⟨cs, rfl, hcs⟩ := hr
            have hyd : yielded ops.toArray a.tmps j = none := by
              simp [yielded, hops, hgd, hu]
            rw [if_neg (by simp [Region.wanted, hg, hyd])]
            obtain ⟨hd, hk⟩ := h
            exact hK _ _ (skip _ _ rfl hd hk)
          · exact h.elim
        · exact h.elim
      · exact h.elim
end
end Go.AX

namespace Go.AX
set_option autoImplicit false
set_option linter.unusedVariables false

def rev (f : List (Nat × Nat)) (j : Nat) : Option Nat :=
  match f with
  | [] => none
  | (a, b) :: t => bif Nat.beq b j then some a else rev t j

def news : List (Nat × Nat) → List Nat
  | [] => []
  | (_, b) :: t => b :: news t

def distinctN : List Nat → Bool
  | [] => true
  | a :: t => !memN t a && distinctN t

def allLt : List Nat → Nat → Bool
  | [], _ => true
  | a :: t, m => Nat.blt a m && allLt t m

mutual
/-- A value, of blocks that are renamed or let go. -/
def V.out (I : Prims) (f : List (Nat × Nat)) (aw : List (Nat × Blk)) : V → Option V
  | .d x => some (.d x)
  | .own id len k => (match look f id with
      | some j => some (.own j len k)
      | none => (match look aw id with | some (.row l _ _) => some (.d (.lst l len)) | _ => none))
  | .slc id off len k => (match look f id with
      | some j => some (.slc j off len k)
      | none => (match look aw id with | some (.row l _ _) => some (.d (.lst (I.drop l off) len)) | _ => none))
  | .sla id s m k len => (match look f id with
      | some j => some (.sla j s m k len)
      | none => (match look aw id with
          | some (.box l) => (match cut l s (Nat.mul m k) with
              | some c => (match flatD I c with | some ds => some (.d (.lst ds len)) | none => none)
              | none => none)
          | _ => none))
  | .ptr id off => (match look f id with
      | some j => some (.ptr j off)
      | none => (match look aw id with
          | some (.box l) => (match flatD I l with | some ds => some (.lp ds off) | none => none)
          | _ => none))
  | .px id s m k i q => (match look f id with | some j => some (.px j s m k i q) | none => none)
  | .pr id off => (match look f id with | some j => some (.pr j off) | none => none)
  | .lp l off => some (.lp l off)
  | .map id => (match look f id with | some j => some (.map j) | none => none)
  | .fn g caps => (match outs I f aw caps with | some r => some (.fn g r) | none => none)
  | .agg l => (match outs I f aw l with | some r => some (.agg r) | none => none)
  | .big n l => some (.big n l)
  | .tup l => (match outs I f aw l with | some r => some (.tup r) | none => none)
def outs (I : Prims) (f : List (Nat × Nat)) (aw : List (Nat × Blk)) : List V → Option (List V)
  | [] => some []
  | v :: t => match V.out I f aw v, outs I f aw t with
    | some a, some b => some (a :: b)
    | _, _ => none
end

def Blk.out (I : Prims) (z : Nat) (f : List (Nat × Nat)) (aw : List (Nat × Blk)) : Blk → Option Blk
  | .box l => (match outs I f aw l with | some r => some (.box r) | none => none)
  | .row l k e => some (.row l k e)
  | .mp ka va l => some (.mp ka va l)
  | .mb ka va l ck => some (.mb ka va l ck)
  | .it mid seen ck => (match look f mid with | some j => some (.it j seen ck) | none => none)
  | .dead => some .dead

def frz (z : Nat) (aw : List (Nat × Blk)) : List (Nat × Blk) := aw
/-- Blocks that were handed in keep their numbers. -/
def keepsN (f : List (Nat × Nat)) : Nat → Bool
  | 0 => true
  | n + 1 => (match look f n with | some j => Nat.beq j n | none => false) && keepsN f n

def outEnv (I : Prims) (f : List (Nat × Nat)) (fa : List (Nat × Blk)) (st : St) : List Nat → Option (List (Nat × V))
  | [] => some []
  | t :: r => match look st.env t with
    | some v => (match V.out I f fa v, outEnv I f fa st r with
        | some a, some b => some ((t, a) :: b)
        | _, _ => none)
    | none => none

def outAw (I : Prims) (z : Nat) (f : List (Nat × Nat)) (fa : List (Nat × Blk)) (st : St) : List (Nat × Nat) → Option (List (Nat × Blk))
  | [] => some []
  | (i, j) :: r => match look st.aw i with
    | some b => (match Blk.out I z f fa b, outAw I z f fa st r with
        | some a, some q => some ((j, a) :: q)
        | _, _ => none)
    | none => none

def St.view (I : Prims) (z : Nat) (f : List (Nat × Nat)) (slots : List Nat) (m : Nat) (st : St) : Option St :=
  bif (distinctN (news f) && allLt (news f) m && distinctN (keys f) && keepsN f z) then (match outEnv I f (frz z st.aw) st slots, outAw I z f (frz z st.aw) st f with
    | some e, some a => some ⟨e, a, m, st.sz⟩
    | _, _ => none) else none

section
variable {P : Program} {w0 : World} {M : Nat → Prop} {H0 : Emb}

theorem memN_iff : ∀ (l : List Nat) (x : Nat), memN l x = true ↔ x ∈ l
  | [], x => by simp [memN]
  | a :: t, x => by
    simp only [memN, Bool.or_eq_true, List.mem_cons, memN_iff t x]
    constructor
    · rintro (h | h)
      · exact .inl (Nat.eq_of_beq_eq_true h).symm
      · exact .inr h
    · rintro (h | h)
      · exact .inl (by subst h; simp)
      · exact .inr h

theorem mem_of_look {α : Type} : ∀ {l : List (Nat × α)} {k : Nat} {x : α}, look l k = some x → (k, x) ∈ l
  | [], k, x, h => by cases h
  | (a, b) :: t, k, x, h => by
    rw [look_cons] at h
    split at h
    · rename_i e; cases h; subst e; exact List.mem_cons_self
    · exact List.mem_cons_of_mem _ (mem_of_look h)

theorem mem_news : ∀ {f : List (Nat × Nat)} {i j : Nat}, (i, j) ∈ f → j ∈ news f
  | (a, b) :: t, i, j, h => by
    rcases List.mem_cons.1 h with h | h
    · cases h; exact List.mem_cons_self
    · exact List.mem_cons_of_mem _ (mem_news h)

theorem mem_keys {α : Type} : ∀ {f : List (Nat × α)} {i : Nat} {x : α}, (i, x) ∈ f → i ∈ keys f
  | (a, b) :: t, i, j, h => by
    rcases List.mem_cons.1 h with h | h
    · cases h; exact List.mem_cons_self
    · exact List.mem_cons_of_mem _ (mem_keys h)

theorem keys_inj {α : Type} : ∀ {f : List (Nat × α)} {i : Nat} {x y : α}, distinctN (keys f) = true → (i, x) ∈ f → (i, y) ∈ f → x = y
  | (a, b) :: t, i, x, y, hd, h1, h2 => by
    simp only [keys, distinctN, Bool.and_eq_true, Bool.not_eq_true'] at hd
    have no : ∀ z, (a, z) ∈ t → False := by
      intro z hz
      have := (memN_iff _ _).2 (mem_keys hz)
      rw [hd.1] at this; cases this
    rcases List.mem_cons.1 h1 with h1 | h1 <;> rcases List.mem_cons.1 h2 with h2 | h2
    · cases h1; cases h2; rfl
    · cases h1; exact (no _ h2).elim
    · cases h2; exact (no _ h1).elim
    · exact keys_inj hd.2 h1 h2

theorem rev_cons (a b : Nat) (t : List (Nat × Nat)) (j : Nat) : rev ((a, b) :: t) j = if b = j then some a else rev t j := by
  simp only [rev]
  by_cases h : b = j
  · subst h; simp
  · have : Nat.beq b j = false := by
      cases hb : Nat.beq b j with
      | false => rfl
      | true => exact absurd (Nat.eq_of_beq_eq_true hb) h
    simp [this, h]

theorem rev_mem : ∀ {f : List (Nat × Nat)} {i j : Nat}, rev f j = some i → (i, j) ∈ f
  | [], i, j, h => by cases h
  | (a, b) :: t, i, j, h => by
    rw [rev_cons] at h
    split at h
    · rename_i e; cases h; subst e; exact List.mem_cons_self
    · exact List.mem_cons_of_mem _ (rev_mem h)

theorem rev_of_mem : ∀ {f : List (Nat × Nat)} {i j : Nat}, distinctN (news f) = true → (i, j) ∈ f → rev f j = some i
  | (a, b) :: t, i, j, hd, h => by
    simp only [news, distinctN, Bool.and_eq_true, Bool.not_eq_true'] at hd
    rw [rev_cons]
    rcases List.mem_cons.1 h with h | h
    · cases h; simp
    · have hne : b ≠ j := by
        rintro rfl
        have := (memN_iff _ _).2 (mem_news h)
        rw [hd.1] at this; cases this
      rw [if_neg hne]
      exact rev_of_mem hd.2 h

open Classical in
noncomputable def Emb.view (E : Emb) (f : List (Nat × Nat)) (aw : List (Nat × Blk)) (w : World) : Emb where
  ρ j := match rev f j with | some i => E.ρ i | none => none
  κ j := match rev f j with | some i => E.κ i | none => 0
  H b := match E.H b with
    | some o => some o
    | none => if ∃ i y, E.ρ i = some (some b) ∧ look aw i = some y ∧ y.live = true ∧ look f i = none then w.heap[b]? else none

variable {E : Emb} {f : List (Nat × Nat)} {aw : List (Nat × Blk)} {w : World} {n : Nat}

theorem view_ρ (hd : distinctN (news f) = true) {i j : Nat} (h : look f i = some j) : (E.view f aw w).ρ j = E.ρ i ∧ (E.view f aw w).κ j = E.κ i := by
  have := rev_of_mem hd (mem_of_look h)
  simp [Emb.view, this]

theorem view_H (b : Nat) (o : Obj) (h : E.H b = some o) : (E.view f aw w).H b = some o := by simp [Emb.view, h]

theorem view_frozen (hW : WR w0 M E aw n w) {i b : Nat} {y : Blk} (h1 : E.ρ i = some (some b)) (h2 : look aw i = some y) (h3 : y.live = true) (h4 : look f i = none) : (E.view f aw w).H b = w.heap[b]? := by
  have h5 := hW.own i y b h2 h3 h1
  simp only [Emb.view, h5]
  rw [if_pos ⟨i, y, h1, h2, h3, h4⟩]

mutual
theorem out_rep (hW : WR w0 M E aw n w) (hd : distinctN (news f) = true) : ∀ (v v' : V), V.out std f aw v = some v' → ∀ x, repV E v x → repV (E.view f aw w) v' x
  | .d x, v', h => by
    intro u hu
    simp only [V.out] at h; cases h
    simp only [repV] at hu ⊢
    exact repD_mono view_H _ _ hu
  | .own id len k, v', h => by
    intro u hu
    simp only [V.out] at h
    simp only [repV] at hu
    split at h
    · rename_i j hj
      cases h
      obtain ⟨h1, h2⟩ := view_ρ (E := E) (aw := aw) (w := w) hd hj
      simp only [repV, h1, h2]
      exact hu
    · rename_i hj
      split at h
      · rename_i l k' e hl
        cases h
        simp only [repV, repD]
        rcases hu with ⟨h1, rfl, rfl⟩ | ⟨b, cap, h1, rfl, h3, h4, h5⟩
        · exact ⟨_, _, rfl, Nat.le_refl _, .inl rfl⟩
        · obtain ⟨c, g1, g2, g3, g4⟩ := row_of (hW.blk _ _ hl) h1
          refine ⟨_, _, rfl, h3, .inr ⟨_, c, e, _, rfl, rfl, (view_frozen hW h1 hl rfl hj).trans g1, ?_⟩⟩
          exact repDs_mono view_H _ _ (by simpa using g4)
      · cases h
  | .slc id off len k, v', h => by
    intro u hu
    simp only [V.out] at h
    simp only [repV] at hu
    split at h
    · rename_i j hj
      cases h
      obtain ⟨h1, h2⟩ := view_ρ (E := E) (aw := aw) (w := w) hd hj
      simp only [repV, h1]
      exact hu
    · rename_i hj
      split at h
      · rename_i l k' e hl
        cases h
        simp only [repV, repD]
        obtain ⟨b, cap, o, h1, rfl, h3, h4⟩ := hu
        obtain ⟨c, g1, g2, g3, g4⟩ := row_of (hW.blk _ _ hl) h1
        refine ⟨_, _, rfl, h3, ?_⟩
        by_cases h0 : len = 0
        · exact .inl h0
        · have := h4 h0; subst this
          exact .inr ⟨_, c, e, _, rfl, rfl, (view_frozen hW h1 hl rfl hj).trans g1, repDs_mono view_H _ _ (repDs_drop g4 _)⟩
      · cases h
  | .sla id s m k len, v', h => by
    intro u hu
    simp only [V.out] at h
    simp only [repV] at hu
    split at h
    · rename_i j hj
      cases h
      obtain ⟨h1, h2⟩ := view_ρ (E := E) (aw := aw) (w := w) hd hj
      simp only [repV, h1]
      exact hu
    · rename_i hj
      split at h
      · rename_i l hl
        split at h
        · rename_i c hc
          split at h
          · rename_i ds hds
            cases h
            simp only [repV, repD]
            obtain ⟨b, cap, o, h1, rfl, h3, h4, h5⟩ := hu
            obtain ⟨b', c', e, g1, g2, g3⟩ := hW.blk _ _ hl
            rw [h1] at g1; cases g1
            obtain ⟨g4, g5⟩ := cut_rep _ _ _ _ hc _ g3
            obtain ⟨g6, g7⟩ := flatD_rep hds g5
            refine ⟨_, _, rfl, h5, ?_⟩
            by_cases h0 : len = 0
            · exact .inl h0
            · have := h4 h0; subst this
              refine .inr ⟨_, c', e, _, rfl, rfl, (view_frozen hW h1 hl rfl hj).trans g2, repDs_mono view_H _ _ ?_⟩
              have := repDs_pre (us := (c'.toList.drop o).drop (Nat.mul m k)) g6
              rwa [List.take_append_drop] at this
          · cases h
        · cases h
      · cases h
  | .ptr id off, v', h => by
    intro u hu
    simp only [V.out] at h
    simp only [repV] at hu
    split at h
    · rename_i j hj
      cases h
      simp only [repV, (view_ρ (E := E) (aw := aw) (w := w) hd hj).1]
      exact hu
    · rename_i hj
      split at h
      · rename_i l hl
        split at h
        · rename_i ds hds
          cases h
          obtain ⟨b, h1, rfl⟩ := hu
          obtain ⟨b', c', e, g1, g2, g3⟩ := hW.blk _ _ hl
          rw [h1] at g1; cases g1
          obtain ⟨g6, g7⟩ := flatD_rep hds g3
          simp only [repV]
          exact ⟨⟨b, off, none⟩, c', e, _, 0, rfl, rfl, (view_frozen hW h1 hl rfl hj).trans g2, by simp, repDs_mono view_H _ _ (by rw [List.drop_zero]; exact g6)⟩
        · cases h
      · cases h
  | .px id s m k i q, v', h => by
    intro u hu
    simp only [V.out] at h
    simp only [repV] at hu
    split at h
    · rename_i j hj
      cases h
      simp only [repV, (view_ρ (E := E) (aw := aw) (w := w) hd hj).1]
      exact hu
    · cases h
  | .pr id off, v', h => by
    intro u hu
    simp only [V.out] at h
    simp only [repV] at hu
    split at h
    · rename_i j hj
      cases h
      simp only [repV, (view_ρ (E := E) (aw := aw) (w := w) hd hj).1]
      exact hu
    · cases h
  | .lp l off, v', h => by
    intro u hu
    simp only [V.out] at h; cases h
    simp only [repV] at hu ⊢
    obtain ⟨p, c, e, fz, base, h1, h2, h3, h4, h5⟩ := hu
    exact ⟨p, c, e, fz, base, h1, h2, view_H _ _ h3, h4, repDs_mono view_H _ _ h5⟩
  | .map id, v', h => by
    intro u hu
    simp only [V.out] at h
    simp only [repV] at hu
    split at h
    · rename_i j hj
      cases h
      simp only [repV, (view_ρ (E := E) (aw := aw) (w := w) hd hj).1]
      exact hu
    · cases h
  | .fn g caps, v', h => by
    intro u hu
    simp only [V.out] at h
    simp only [repV] at hu
    split at h
    · rename_i r hr
      cases h
      obtain ⟨cs, h1, h2⟩ := hu
      simp only [repV]
      exact ⟨cs, h1, outs_rep hW hd _ _ hr _ h2⟩
    · cases h
  | .agg l, v', h => by
    intro u hu
    simp only [V.out] at h
    simp only [repV] at hu
    split at h
    · rename_i r hr
      cases h
      obtain ⟨cs, h1, h2⟩ := hu
      simp only [repV]
      exact ⟨cs, h1, outsC_rep hW hd _ _ hr _ h2⟩
    · cases h
  | .big m l, v', h => by
    intro u hu
    simp only [repV] at hu
  | .tup l, v', h => by
    intro u hu
    simp only [V.out] at h
    simp only [repV] at hu
    split at h
    · rename_i r hr
      cases h
      obtain ⟨cs, h1, h2⟩ := hu
      simp only [repV]
      exact ⟨cs, h1, outs_rep hW hd _ _ hr _ h2⟩
    · cases h
theorem outs_rep (hW : WR w0 M E aw n w) (hd : distinctN (news f) = true) : ∀ (l l' : List V), outs std f aw l = some l' → ∀ xs, repVs E l xs → repVs (E.view f aw w) l' xs
  | [], l', h => by
    intro xs hx
    simp only [outs] at h; cases h
    simpa only [repVs] using hx
  | v :: t, l', h => by
    intro xs hx
    simp only [outs] at h
    split at h
    · rename_i a b ha hb
      cases h
      simp only [repVs] at hx ⊢
      obtain ⟨u, us, h1, h2, h3⟩ := hx
      exact ⟨u, us, h1, out_rep hW hd v a ha u h2, outs_rep hW hd t b hb us h3⟩
    · cases h
theorem outsC_rep (hW : WR w0 M E aw n w) (hd : distinctN (news f) = true) : ∀ (l l' : List V), outs std f aw l = some l' → ∀ xs, repC E l xs → repC (E.view f aw w) l' xs
  | [], l', h => by
    intro xs hx
    simp only [outs] at h; cases h
    simpa only [repC] using hx
  | v :: t, l', h => by
    intro xs hx
    simp only [outs] at h
    split at h
    · rename_i a b ha hb
      cases h
      simp only [repC] at hx ⊢
      rcases hx with ⟨m, l, ys, zs, rfl, h1, h2, h3, h4, h5⟩ | ⟨u, us, h1, h2, h3, h4⟩
      · simp only [V.out] at ha; cases ha
        exact .inl ⟨m, l, ys, zs, rfl, h1, h2, h3, repDs_mono view_H _ _ h4, outsC_rep hW hd t b hb zs h5⟩
      · exact .inr ⟨u, us, h1, h2, out_rep hW hd v a ha u h3, outsC_rep hW hd t b hb us h4⟩
    · cases h
end
theorem outEnv_look {st : St} {fa : List (Nat × Blk)} : ∀ (slots : List Nat) (e : List (Nat × V)), outEnv std f fa st slots = some e → ∀ t v, look e t = some v → ∃ u, look st.env t = some u ∧ V.out std f fa u = some v
  | [], e, h => by simp only [outEnv] at h; cases h; intro t v h; cases h
  | s :: r, e, h => by
    simp only [outEnv] at h
    split at h
    · rename_i u hu
      split at h
      · rename_i a b ha hb
        cases h
        intro t v hv
        rw [look_cons] at hv
        split at hv
        · rename_i e; cases hv; subst e; exact ⟨u, hu, ha⟩
        · exact outEnv_look r b hb t v hv
      · cases h
    · cases h

theorem outAw_look {st : St} {z : Nat} {fa : List (Nat × Blk)} : ∀ (g : List (Nat × Nat)) (a : List (Nat × Blk)), outAw std z f fa st g = some a → ∀ j b, look a j = some b → ∃ i y, (i, j) ∈ g ∧ look st.aw i = some y ∧ Blk.out std z f fa y = some b
  | [], e, h => by simp only [outAw] at h; cases h; intro t v h; cases h
  | (i, j) :: r, e, h => by
    simp only [outAw] at h
    split at h
    · rename_i u hu
      split at h
      · rename_i a b ha hb
        cases h
        intro t v hv
        rw [look_cons] at hv
        split at hv
        · rename_i e; cases hv; subst e; exact ⟨i, u, List.mem_cons_self, hu, ha⟩
        · obtain ⟨i', y, h1, h2⟩ := outAw_look r b hb t v hv
          exact ⟨i', y, List.mem_cons_of_mem _ h1, h2⟩
      · cases h
    · cases h

theorem outAw_mem {st : St} {z : Nat} {fa : List (Nat × Blk)} : ∀ (g : List (Nat × Nat)) (a : List (Nat × Blk)), outAw std z f fa st g = some a → ∀ i j, (i, j) ∈ g → ∃ y, look st.aw i = some y
  | [], e, h => by intro i j h; cases h
  | (i, j) :: r, e, h => by
    simp only [outAw] at h
    split at h
    · rename_i u hu
      split at h
      · rename_i a b ha hb
        cases h
        intro i' j' hm
        rcases List.mem_cons.1 hm with hm | hm
        · cases hm
          exact ⟨u, hu⟩
        · exact outAw_mem r b hb i' j' hm
      · cases h
    · cases h

theorem outAw_some {st : St} {z : Nat} {fa : List (Nat × Blk)} : ∀ (g : List (Nat × Nat)) (a : List (Nat × Blk)), outAw std z f fa st g = some a → ∀ i j, (i, j) ∈ g → (look a j).isSome = true
  | [], e, h => by intro i j h; cases h
  | (i, j) :: r, e, h => by
    simp only [outAw] at h
    split at h
    · rename_i u hu
      split at h
      · rename_i a b ha hb
        cases h
        intro i' j' hm
        rw [look_cons]
        split
        · rfl
        · rename_i hne
          rcases List.mem_cons.1 hm with hm | hm
          · cases hm; exact absurd rfl hne
          · exact outAw_some r b hb i' j' hm
      · cases h
    · cases h

theorem allLt_mem : ∀ (l : List Nat) (m : Nat), allLt l m = true → ∀ x ∈ l, x < m
  | [], m, _ => by simp
  | a :: t, m, h => by
    simp only [allLt, Bool.and_eq_true] at h
    intro x hx
    rcases List.mem_cons.1 hx with rfl | hx
    · simpa using h.1
    · exact allLt_mem t m h.2 x hx

/-- A STATE SEEN ANEW holds of the same machine. -/
theorem frz_look {z : Nat} {aw : List (Nat × Blk)} {i : Nat} {y : Blk} (h : look (frz z aw) i = some y) : look aw i = some y := h
theorem keepsN_look {f : List (Nat × Nat)} : ∀ {z : Nat}, keepsN f z = true → ∀ i, i < z → look f i = some i
  | z + 1, h, i, hi => by
    simp only [keepsN, Bool.and_eq_true] at h
    by_cases e : i = z
    · subst e
      have h1 := h.1
      split at h1
      · rename_i j hj; rw [hj, Nat.eq_of_beq_eq_true h1]
      · cases h1
    · exact keepsN_look h.2 i (by omega)

theorem view_at {st C : St} {a : Act} {z : Nat} {slots : List Nat} {m : Nat} (hX : ∀ i x, H0.ρ i = some x → i < z) (hR : R w0 M H0 E st a w) (h : St.view std z f slots m st = some C) : R w0 M H0 (E.view f (frz z st.aw) w) C a w := by
  unfold St.view at h
  simp only [cond_eq_ite, Bool.and_eq_true] at h
  split at h
  case isFalse => cases h
  rename_i hc
  obtain ⟨⟨⟨hd, hm⟩, hdk⟩, hkeep⟩ := hc
  split at h
  case h_2 => cases h
  rename_i e q he hq
  cases h
  have hW := hR.wr
  have hWf : WR w0 M E (frz z st.aw) st.n w := hW
  have back : ∀ j x, (E.view f (frz z st.aw) w).ρ j = some x → ∃ i y, (i, j) ∈ f ∧ E.ρ i = some x ∧ look st.aw i = some y ∧ rev f j = some i := by
    intro j x hx
    cases hr : rev f j with
    | none => simp [Emb.view, hr] at hx
    | some i =>
      have hmem := rev_mem hr
      obtain ⟨y, hy⟩ := outAw_mem f q hq i j hmem
      exact ⟨i, y, hmem, by simpa [Emb.view, hr] using hx, hy, rfl⟩
  have key_look : ∀ i j, (i, j) ∈ f → ∃ j', look f i = some j' := by
    intro i j hij
    have : ∀ (g : List (Nat × Nat)), (i, j) ∈ g → ∃ j', look g i = some j' := by
      intro g
      induction g with
      | nil => intro h; cases h
      | cons p g ih =>
        obtain ⟨a, b⟩ := p
        intro h
        rw [look_cons]
        split
        · exact ⟨b, rfl⟩
        · rename_i hne
          rcases List.mem_cons.1 h with h | h
          · cases h; exact absurd rfl hne
          · exact ih h
    exact this f hij
  have hhnew : ∀ b o, (E.view f (frz z st.aw) w).H b = some o → H0.H b = some o ∨ w0.heap.size ≤ b ∨ M b := by
    intro b o hb
    simp only [Emb.view] at hb
    split at hb
    · rename_i o' ho; cases hb; exact hR.hnew b o ho
    · split at hb
      · rename_i hex
        obtain ⟨i, y, h1, h2, _⟩ := hex
        exact .inr (hW.dom i b h1).2
      · cases hb
  have hle : EmbLe H0 (E.view f (frz z st.aw) w) := by
    have hr : ∀ i x, H0.ρ i = some x → rev f i = some i := fun i x hx => rev_of_mem hd (mem_of_look (keepsN_look hkeep i (hX i x hx)))
    refine ⟨fun i x hx => ?_, fun i x hx => ?_, fun b o hb => view_H b o (hR.hle.2.2 b o hb)⟩
    · simp only [Emb.view, hr i x hx]; exact hR.hle.1 i x hx
    · simp only [Emb.view, hr i x hx]; exact hR.hle.2.1 i x hx
  have up : ∀ i x, look q i = some x → x.live = true → ∃ i' y, (i', i) ∈ f ∧ look st.aw i' = some y ∧ y.live = true := by
    intro i x h1 h2
    obtain ⟨i', y, k1, k2, k3⟩ := outAw_look f q hq i x h1
    refine ⟨i', y, k1, k2, ?_⟩
    cases y with
    | dead => simp only [Blk.out] at k3; cases k3; exact h2
    | row _ _ _ => rfl
    | mp _ _ _ => rfl
    | mb _ _ _ _ => rfl
    | it _ _ _ => rfl
    | box _ => rfl
  refine ⟨?_, ⟨?_, ?_, ?_, ?_, ?_, ?_, hW.frame⟩, ?_, hle, hhnew, hR.sz, hR.dfs⟩
  · intro t v hv
    obtain ⟨u, h1, h2⟩ := outEnv_look slots e he t v hv
    obtain ⟨x, h3, h4⟩ := hR.env t u h1
    exact ⟨x, h3, out_rep hWf hd u v h2 x h4⟩
  · intro j b hb
    obtain ⟨i, y, h1, h2, h3⟩ := outAw_look f q hq j b hb
    have hrev := rev_of_mem hd h1
    have hρ : (E.view f (frz z st.aw) w).ρ j = E.ρ i := by simp [Emb.view, hrev]
    have hκ : (E.view f (frz z st.aw) w).κ j = E.κ i := by simp [Emb.view, hrev]
    have hbk := hW.blk i y h2
    cases y with
    | dead => simp only [Blk.out] at h3; cases h3; trivial
    | mp ka va l =>
      simp only [Blk.out] at h3
      obtain rfl := Option.some.inj h3
      obtain ⟨b, c, e, g1, g2, g3⟩ := hbk
      simp only [BlkOK, hρ]
      exact ⟨b, c, e, g1, g2, repM_mono view_H g3⟩
    | mb ka va l ck =>
      simp only [Blk.out] at h3
      obtain rfl := Option.some.inj h3
      obtain ⟨b, c, g1, g2, g3, g4⟩ := hbk
      simp only [BlkOK, hρ]
      exact ⟨b, c, g1, g2, repM_mono view_H g3, g4⟩
    | it mid seen ck =>
      simp only [Blk.out] at h3
      split at h3
      · rename_i j' hj'
        obtain rfl := Option.some.inj h3
        obtain ⟨b, m, g1, g2, g3⟩ := hbk
        simp only [BlkOK, hρ]
        exact ⟨b, m, g1, by rw [(view_ρ (E := E) (aw := frz z st.aw) (w := w) hd hj').1]; exact g2, g3⟩
      · cases h3
    | row l k e =>
      simp only [Blk.out] at h3
      obtain rfl := Option.some.inj h3
      simp only [BlkOK, hρ, hκ]
      rcases hbk with hb | ⟨b, c, g1, g2, g3, g4, g5⟩
      · exact .inl hb
      · exact .inr ⟨b, c, g1, g2, g3, g4, repDs_mono view_H _ _ g5⟩
    | box l =>
      simp only [Blk.out] at h3
      split at h3
      · rename_i r hr
        obtain rfl := Option.some.inj h3
        obtain ⟨b, c, e, g1, g2, g3⟩ := hbk
        simp only [BlkOK, hρ]
        exact ⟨b, c, e, g1, g2, outsC_rep hWf hd _ _ hr _ g3⟩
      · cases h3
  · intro b o hb
    simp only [Emb.view] at hb
    split at hb
    · rename_i o' ho; cases hb; exact hW.ro b o ho
    · split at hb
      · exact hb
      · cases hb
  · intro i j b x y h1 h2 h3 h4 h5 h6
    obtain ⟨i', x', g1, g3, g4⟩ := up i x h1 h2
    obtain ⟨j', y', k1, k3, k4⟩ := up j y h3 h4
    have g2 : E.ρ i' = some (some b) := by simpa [Emb.view, rev_of_mem hd g1] using h5
    have k2 : E.ρ j' = some (some b) := by simpa [Emb.view, rev_of_mem hd k1] using h6
    have := hW.inj i' j' b x' y' g3 g4 k3 k4 g2 k2
    subst this
    exact keys_inj hdk g1 k1
  · intro j b hj
    obtain ⟨i, y, h1, h2, _⟩ := back j _ hj
    exact hW.dom i b h2
  · intro j x b h1 h2 h3
    obtain ⟨i, y, h1, h4, h5⟩ := up j x h1 h2
    have h2 : E.ρ i = some (some b) := by simpa [Emb.view, rev_of_mem hd h1] using h3
    simp only [Emb.view, hW.own i y b h4 h5 h2]
    rw [if_neg]
    rintro ⟨i', y', k1, k2, k3, k4⟩
    have := hW.inj i i' b y y' h4 h5 (frz_look k2) k3 h2 k1
    subst this
    obtain ⟨j', hj'⟩ := key_look _ _ h1
    rw [k4] at hj'; cases hj'
  · cases hx : (E.view f (frz z st.aw) w).ρ m with
    | none => rfl
    | some x =>
      obtain ⟨i, y, h1, _⟩ := back m x hx
      exact absurd (allLt_mem _ _ hm m (mem_news h1)) (Nat.lt_irrefl _)
  · intro j x hx
    obtain ⟨i, y, h1, _⟩ := back j x hx
    exact allLt_mem _ _ hm j (mem_news h1)

theorem view_ok {st C : St} {a : Act} {z : Nat} {slots : List Nat} {m : Nat} (hX : ∀ i x, H0.ρ i = some x → i < z) (hR : R w0 M H0 E st a w) (h : St.view std z f slots m st = some C) : ∃ E', R w0 M H0 E' C a w :=
  ⟨_, view_at hX hR h⟩
end
end Go.AX

namespace Go.AX
set_option autoImplicit false
set_option linter.unusedVariables false

/-- A nil slice, taken for a row of one's own that holds nothing yet: in a slot, or in a variable's cell. -/
inductive Vt where
  | slot (t j k : Nat) (e : TypeId)
  | cell (i c j k : Nat) (e : TypeId)
  | forget (i : Nat)
  | nlS (t c : Nat)
  | nlC (i c : Nat)

def repl {α : Type} : List (Nat × α) → Nat → α → List (Nat × α)
  | [], _, _ => []
  | (a, b) :: t, k, x => bif Nat.beq a k then (a, x) :: t else (a, b) :: repl t k x

def setNth : List V → Nat → V → List V
  | [], _, _ => []
  | _ :: t, 0, x => x :: t
  | v :: t, n + 1, x => v :: setNth t n x

def isNils : V → Bool
  | .d .nils => true
  | _ => false

def St.virt (v : Vt) (st : St) : Option St :=
  match v with
  | .slot t j k e => (match look st.env t with
      | some x => bif (isNils x && Nat.ble st.n j) then some ⟨repl st.env t (.own j 0 k), st.aw ++ [(j, .row [] k e)], Nat.succ j, st.sz⟩ else none
      | none => none)
  | .cell i c j k e => (match look st.aw i with
      | some (.box l) => (match nthV l c with
          | some x => bif (isNils x && Nat.ble st.n j) then some ⟨st.env, repl st.aw i (.box (setNth l c (.own j 0 k))) ++ [(j, .row [] k e)], Nat.succ j, st.sz⟩ else none
          | none => none)
      | _ => none)
  | .nlS t c => (match look st.env t with
      | some (.d .nils) => some ⟨repl st.env t (.d (.lst [] 0)), st.aw, st.n, st.sz⟩
      | some (.agg l) => (match nthV l c with
          | some x => bif isNils x then some ⟨repl st.env t (.agg (setNth l c (.d (.lst [] 0)))), st.aw, st.n, st.sz⟩ else none
          | none => none)
      | _ => none)
  | .nlC i c => (match look st.aw i with
      | some (.box l) => (match nthV l c with
          | some x => bif isNils x then some ⟨st.env, repl st.aw i (.box (setNth l c (.d (.lst [] 0)))), st.n, st.sz⟩ else none
          | none => none)
      | _ => none)
  | .forget i => (match look st.aw i with
      | some (.mb ka va l ck) => some ⟨st.env, repl st.aw i (.mp ka va (l.map Prod.snd)), st.n, st.sz⟩
      | _ => none)

def St.virts : List Vt → St → Option St
  | [], st => some st
  | v :: t, st => match st.virt v with
    | some s => St.virts t s
    | none => none

def St.anew (I : Prims) (z : Nat) (f : List (Nat × Nat)) (slots : List Nat) (m : Nat) (vs : List Vt) (st : St) : Option St :=
  match st.view I z f slots m with
  | some s => s.virts vs
  | none => none

/-- A loop, its states told by parameters. -/
inductive LoopP (I : Prims) (z : Nat) (body : (Exit → St → Prop) → St → Prop) (Q : Exit → St → Prop) (st : St) : Prop
  | mk (α : Type) (C : α → St) (μ : α → Nat) (slots : List Nat) (m0 : Nat) (f0 : List (Nat × Nat)) (vs : List Vt) (a0 : α) (start : St.anew I z f0 slots m0 vs st = some (C a0))
      (round : ∀ a, body (fun e st' => match e with | .normal => ∃ a' f m, St.anew I z f slots m [] st' = some (C a') ∧ μ a' < μ a | e => Q e st') (C a))

section
variable {P : Program} {w0 : World} {M : Nat → Prop} {H0 : Emb} {tt : TT} {E : Emb} {w : World} {n : Nat}

theorem look_repl {α : Type} : ∀ (l : List (Nat × α)) (k : Nat) (x : α) (q : Nat), look (repl l k x) q = if q = k then (look l k).map (fun _ => x) else look l q
  | [], k, x, q => by simp [repl, look]
  | (a, b) :: t, k, x, q => by
    by_cases h : a = k
    · subst h
      simp only [repl, Nat.beq_refl, cond_true, look_cons]
      by_cases hq : q = a
      · subst hq; simp
      · rw [if_neg (Ne.symm hq), if_neg hq, if_neg (Ne.symm hq)]
    · have hb : Nat.beq a k = false := by
        cases hb : Nat.beq a k with
        | false => rfl
        | true => exact absurd (Nat.eq_of_beq_eq_true hb) h
      simp only [repl, hb, cond_false, look_cons, look_repl t k x q]
      by_cases hq : q = k
      · subst hq; rw [if_neg h, if_pos rfl, if_pos rfl, if_neg h]
      · by_cases ha : a = q
        · subst ha; rw [if_pos rfl, if_neg hq, if_pos rfl]
        · rw [if_neg ha, if_neg hq, if_neg hq, if_neg ha]

theorem isNils_eq {x : V} (h : isNils x = true) : x = .d .nils := by
  unfold isNils at h
  split at h
  · rfl
  · cases h

theorem setNth_rep {j k : Nat} (hj : E.ρ j = none) : ∀ (l : List V) (c : Nat) (x : V), nthV l c = some x → x = .d .nils → ∀ cs, repC E l cs → repC (E.add j none 0) (setNth l c (.own j 0 k)) cs
  | [], c, x, h => by cases h
  | v :: t, c, x, h => by
    intro hx cs hc
    cases c with
    | zero =>
      cases h
      subst hx
      simp only [repC] at hc
      simp only [setNth, repC]
      rcases hc with ⟨n, l, a, b, e, _⟩ | ⟨u, us, rfl, h2, h3, h4⟩
      · cases e
      · refine .inr ⟨u, us, rfl, h2, ?_, repC_mono (Emb.le_add hj) _ _ h4⟩
        simp only [repV, repD] at h3 ⊢
        exact .inl ⟨Emb.add_new, by trivial, h3⟩
    | succ c =>
      obtain ⟨xs, ys, rfl, h1, h2, h3⟩ := repC_cons.1 hc
      exact repC_cons.2 ⟨xs, ys, rfl, h1, repC_mono (Emb.le_add hj) _ _ h2, setNth_rep hj t c x h hx ys h3⟩

theorem nil_lst' {H : Nat → Option Obj} {v : Value} (h : repD H .nils v) : repD H (.lst [] 0) v := by
  simp only [repD] at h ⊢
  exact ⟨none, 0, h, Nat.le_refl _, by simp⟩
theorem setNth_repL : ∀ (l : List V) (c : Nat) (x : V), nthV l c = some x → x = .d .nils → ∀ cs, repC E l cs → repC E (setNth l c (.d (.lst [] 0))) cs
  | [], c, x, h => by cases h
  | v :: t, c, x, h => by
    intro hx cs hc
    cases c with
    | zero =>
      cases h
      subst hx
      simp only [repC] at hc
      simp only [setNth, repC]
      rcases hc with ⟨n, l, a, b, e, _⟩ | ⟨u, us, rfl, h2, h3, h4⟩
      · cases e
      · refine .inr ⟨u, us, rfl, h2, ?_, h4⟩
        simp only [repV] at h3 ⊢
        exact nil_lst' h3
    | succ c =>
      obtain ⟨xs, ys, rfl, h1, h2, h3⟩ := repC_cons.1 hc
      exact repC_cons.2 ⟨xs, ys, rfl, h1, h2, setNth_repL t c x h hx ys h3⟩

theorem virt_ok {st C : St} {a : Act} {v : Vt} (hR : R w0 M H0 E st a w) (h : st.virt v = some C) : ∃ E', R w0 M H0 E' C a w := by
  have hW := hR.wr
  have free : ∀ j, st.n ≤ j → E.ρ j = none := by
    intro j hj
    cases hx : E.ρ j with
    | none => rfl
    | some x => have := hR.lt j x hx; omega
  have mk : ∀ (j k : Nat) (e : TypeId) (env : List (Nat × V)) (aw : List (Nat × Blk)), st.n ≤ j → EnvOK (E.add j none 0) env a.tmps →
      (∀ i b, look aw i = some b → BlkOK (E.add j none 0) i w b ∧ (b.live = true → ∃ b', look st.aw i = some b' ∧ b'.live = true)) → R w0 M H0 (E.add j none 0) ⟨env, aw ++ [(j, .row [] k e)], Nat.succ j, st.sz⟩ a w := by
    intro j k e env aw hj henv haw
    have hn := free j hj
    have hlk : ∀ i b, look (aw ++ [(j, Blk.row [] k e)]) i = some b → look aw i = some b ∨ (i = j ∧ b = .row [] k e) := by
      intro i b h
      rw [look_append] at h
      split at h
      · rename_i x hx; cases h; exact .inl hx
      · rw [look_cons] at h
        split at h
        · rename_i e; cases h; exact .inr ⟨e.symm, rfl⟩
        · cases h
    have old : ∀ i b, (E.add j none 0).ρ i = some (some b) → i ≠ j ∧ E.ρ i = some (some b) := by
      intro i b h
      by_cases hi : i = j
      · subst hi; rw [Emb.add_new] at h; cases h
      · rw [Emb.add_ne hi] at h; exact ⟨hi, h⟩
    refine ⟨henv, ⟨?_, hW.ro, ?_, ?_, ?_, ?_, hW.frame⟩, ?_, hR.hle.trans (Emb.le_add hn), hR.hnew, hR.sz, hR.dfs⟩
    · intro i b h
      rcases hlk i b h with h | ⟨rfl, rfl⟩
      · exact (haw i b h).1
      · exact .inl ⟨Emb.add_new, rfl⟩
    · intro i i' b x y h1 h2 h3 h4 h5 h6
      obtain ⟨hi, h5⟩ := old _ _ h5
      obtain ⟨hi', h6⟩ := old _ _ h6
      rcases hlk i x h1 with h1 | ⟨rfl, _⟩
      · rcases hlk i' y h3 with h3 | ⟨rfl, _⟩
        · obtain ⟨x', g1, g2⟩ := (haw i x h1).2 h2
          obtain ⟨y', g3, g4⟩ := (haw i' y h3).2 h4
          exact hW.inj i i' b x' y' g1 g2 g3 g4 h5 h6
        · exact absurd rfl hi'
      · exact absurd rfl hi
    · intro i b h
      exact hW.dom i b (old _ _ h).2
    · intro i y b h1 h2 h3
      obtain ⟨hi, h3⟩ := old _ _ h3
      rcases hlk i y h1 with h1 | ⟨rfl, _⟩
      · obtain ⟨x', g1, g2⟩ := (haw i y h1).2 h2
        exact hW.own i x' b g1 g2 h3
      · exact absurd rfl hi
    · show (E.add j none 0).ρ (Nat.succ j) = none
      rw [Emb.add_ne (by omega)]; exact free _ (by omega)
    · intro i x h
      show i < j + 1
      by_cases hi : i = j
      · omega
      · rw [Emb.add_ne hi] at h
        have := hR.lt i x h; omega
  unfold St.virt at h
  split at h
  · rename_i t j k e
    split at h
    · rename_i x hx
      simp only [cond_eq_ite, Bool.and_eq_true] at h
      split at h
      · rename_i hc
        cases h
        have hx' := isNils_eq hc.1
        subst hx'
        have hj := Nat.le_of_ble_eq_true hc.2
        refine ⟨_, mk j k e _ _ hj ?_ (fun i b hb => ⟨(hW.blk i b hb).keep (Emb.le_add (free j hj)) (fun _ _ => rfl), fun hl => ⟨b, hb, hl⟩⟩)⟩
        intro q y hy
        rw [look_repl] at hy
        split at hy
        · rename_i e'
          subst e'
          rw [hx] at hy; cases hy
          obtain ⟨u, hu, hr⟩ := hR.env q _ hx
          simp only [repV, repD] at hr
          refine ⟨u, hu, ?_⟩
          simp only [repV]
          exact .inl ⟨Emb.add_new, by trivial, hr⟩
        · obtain ⟨u, hu, hr⟩ := hR.env q y hy
          exact ⟨u, hu, repV_mono (Emb.le_add (free j hj)) _ _ hr⟩
      · cases h
    · cases h
  · rename_i i c j k e
    split at h
    · rename_i l hl
      split at h
      · rename_i x hx
        simp only [cond_eq_ite, Bool.and_eq_true] at h
        split at h
        · rename_i hc
          cases h
          have hx' := isNils_eq hc.1
          have hj := Nat.le_of_ble_eq_true hc.2
          refine ⟨_, mk j k e _ _ hj (hR.env.mono (Emb.le_add (free j hj))) (fun q b hb => ?_)⟩
          rw [look_repl] at hb
          split at hb
          · rename_i e'
            subst e'
            rw [hl] at hb; cases hb
            obtain ⟨b, cc, ee, h1, h2, h3⟩ := hW.blk _ _ hl
            exact ⟨⟨b, cc, ee, (Emb.le_add (free j hj)).1 _ _ h1, h2, setNth_rep (free j hj) l c x hx hx' _ h3⟩, fun _ => ⟨_, hl, rfl⟩⟩
          · exact ⟨(hW.blk q b hb).keep (Emb.le_add (free j hj)) (fun _ _ => rfl), fun hl => ⟨b, hb, hl⟩⟩
        · cases h
      · cases h
    · cases h
  · rename_i t c
    split at h
    · rename_i hx
      cases h
      refine ⟨E, ?_, hW, hR.lt, hR.hle, hR.hnew, hR.sz, hR.dfs⟩
      intro q y hy
      rw [look_repl] at hy
      split at hy
      · rename_i e'
        subst e'
        rw [hx] at hy; cases hy
        obtain ⟨u, hu, hr⟩ := hR.env q _ hx
        exact ⟨u, hu, by simp only [repV] at hr ⊢; exact nil_lst' hr⟩
      · exact hR.env q y hy
    · rename_i l hx
      split at h
      · rename_i x hn
        simp only [cond_eq_ite] at h
        split at h
        · rename_i hc
          cases h
          refine ⟨E, ?_, hW, hR.lt, hR.hle, hR.hnew, hR.sz, hR.dfs⟩
          intro q y hy
          rw [look_repl] at hy
          split at hy
          · rename_i e'
            subst e'
            rw [hx] at hy; cases hy
            obtain ⟨u, hu, hr⟩ := hR.env q _ hx
            refine ⟨u, hu, ?_⟩
            simp only [repV] at hr ⊢
            obtain ⟨cs, e1, e2⟩ := hr
            exact ⟨cs, e1, setNth_repL l c x hn (isNils_eq hc) _ e2⟩
          · exact hR.env q y hy
        · cases h
      · cases h
    · cases h
  · rename_i i c
    split at h
    · rename_i l hl
      split at h
      · rename_i x hx
        simp only [cond_eq_ite] at h
        split at h
        · rename_i hc
          cases h
          have back : ∀ q b, look (repl st.aw i (.box (setNth l c (.d (.lst [] 0))))) q = some b → b.live = true → ∃ b', look st.aw q = some b' ∧ b'.live = true := by
            intro q b hb hbl
            rw [look_repl] at hb
            split at hb
            · rename_i e; subst e; exact ⟨_, hl, rfl⟩
            · exact ⟨b, hb, hbl⟩
          refine ⟨E, hR.env, ⟨?_, hW.ro, ?_, hW.dom, ?_, hW.none_n, hW.frame⟩, hR.lt, hR.hle, hR.hnew, hR.sz, hR.dfs⟩
          · intro q b hb
            rw [look_repl] at hb
            split at hb
            · rename_i e; subst e
              rw [hl] at hb; cases hb
              obtain ⟨b, cc, ee, h1, h2, h3⟩ := hW.blk _ _ hl
              exact ⟨b, cc, ee, h1, h2, setNth_repL l c x hx (isNils_eq hc) _ h3⟩
            · exact hW.blk q b hb
          · intro q q' b x y h1 h2 h3 h4 h5 h6
            obtain ⟨x', g1, g2⟩ := back q x h1 h2
            obtain ⟨y', g3, g4⟩ := back q' y h3 h4
            exact hW.inj q q' b x' y' g1 g2 g3 g4 h5 h6
          · intro q y b h1 h2 h3
            obtain ⟨x', g1, g2⟩ := back q y h1 h2
            exact hW.own q x' b g1 g2 h3
        · cases h
      · cases h
    · cases h
  · rename_i i
    split at h
    · rename_i ka va l ck hl
      cases h
      have back : ∀ q b, look (repl st.aw i (.mp ka va (l.map Prod.snd))) q = some b → b.live = true → ∃ b', look st.aw q = some b' ∧ b'.live = true := by
        intro q b hb hbl
        rw [look_repl] at hb
        split at hb
        · rename_i e; subst e; exact ⟨_, hl, rfl⟩
        · exact ⟨b, hb, hbl⟩
      refine ⟨E, hR.env, ⟨?_, hW.ro, ?_, hW.dom, ?_, hW.none_n, hW.frame⟩, hR.lt, hR.hle, hR.hnew, hR.sz, hR.dfs⟩
      · intro q b hb
        rw [look_repl] at hb
        split at hb
        · rename_i e; subst e
          rw [hl] at hb; cases hb
          obtain ⟨b, c, g1, g2, g3, _⟩ := hW.blk _ _ hl
          exact ⟨b, c, ck, g1, g2, g3⟩
        · exact hW.blk q b hb
      · intro q q' b x y h1 h2 h3 h4 h5 h6
        obtain ⟨x', g1, g2⟩ := back q x h1 h2
        obtain ⟨y', g3, g4⟩ := back q' y h3 h4
        exact hW.inj q q' b x' y' g1 g2 g3 g4 h5 h6
      · intro q y b h1 h2 h3
        obtain ⟨x', g1, g2⟩ := back q y h1 h2
        exact hW.own q x' b g1 g2 h3
    · cases h

theorem virts_ok {a : Act} : ∀ (vs : List Vt) (st C : St) (E : Emb), R w0 M H0 E st a w → St.virts vs st = some C → ∃ E', R w0 M H0 E' C a w
  | [], st, C, E, hR, h => by cases h; exact ⟨E, hR⟩
  | v :: t, st, C, E, hR, h => by
    simp only [St.virts] at h
    split at h
    · rename_i s hs
      obtain ⟨E', hR'⟩ := virt_ok hR hs
      exact virts_ok t s C E' hR' h
    · cases h

theorem anew_ok {st C : St} {a : Act} {f : List (Nat × Nat)} {slots : List Nat} {m z : Nat} {vs : List Vt} (hX : ∀ i x, H0.ρ i = some x → i < z) (hR : R w0 M H0 E st a w) (h : st.anew std z f slots m vs = some C) : ∃ E', R w0 M H0 E' C a w := by
  unfold St.anew at h
  split at h
  · rename_i s hs
    obtain ⟨E', hR'⟩ := view_ok hX hR hs
    exact virts_ok vs s C E' hR' h
  · cases h

/-- A loop whose states are told by a parameter that the machine doesn't hold. -/
theorem wp_loop_by {α : Type} {Q : Exit → Act → World → Prop} {c : Code} (J : α → Act → World → Prop) (μ : α → Nat) {a : Act} {w : World} (x0 : α) (h₀ : J x0 a w)
    (round : ∀ x a w, J x a w → c.wp P (Exit.then (fun a' w' => ∃ x', J x' a' w' ∧ μ x' < μ x) Q) a w) : (Code.loop c).wp P Q a w := by
  intro b k cs
  have key : ∀ n x a w, μ x = n → J x a w →
      ∃ e a' w', Q e a' w' ∧ Arrives P (lone (b.at a (.code c :: .inLoop c :: k)) cs w) b k cs e a' w' := by
    intro n
    induction n using Nat.strongRecOn with
    | _ n ih =>
      intro x a w hn hI
      obtain ⟨e, a₁, w₁, hq, harr⟩ := round x a w hI b (.inLoop c :: k) cs
      cases e with
      | normal =>
        obtain ⟨x', hI₁, hlt⟩ := hq
        obtain ⟨e₂, a₂, w₂, hq₂, harr₂⟩ := ih (μ x') (hn ▸ hlt) x' a₁ w₁ rfl hI₁
        exact ⟨e₂, a₂, w₂, hq₂, .of_steps (Steps.trans harr (.one step_inLoop)) harr₂⟩
      | exit id => exact ⟨_, a₁, w₁, hq, .pass (x := .inLoop c) rfl (fun _ _ => .inl (by simp)) harr⟩
      | goto l => exact ⟨_, a₁, w₁, hq, .pass (x := .inLoop c) rfl (fun _ _ => .inl (by simp)) harr⟩
      | ret => exact ⟨_, a₁, w₁, hq, .pass (x := .inLoop c) rfl (fun _ _ => .inl (by simp)) harr⟩
      | panic ch => exact ⟨_, a₁, w₁, hq, .pass (x := .inLoop c) rfl (fun _ _ => .inl (by simp)) harr⟩
      | outgrown => exact ⟨_, a₁, w₁, hq, .pass (x := .inLoop c) rfl (fun _ _ => .inl (by simp)) harr⟩
  obtain ⟨e, a', w', hq, harr⟩ := key _ x0 a w rfl h₀
  exact ⟨e, a', w', hq, .of_steps (.one step_loop) harr⟩

end
end Go.AX

namespace Go.AX
set_option autoImplicit false
set_option linter.unusedVariables false

def E0 (H : Nat → Option Obj) : Emb := ⟨fun _ => none, fun _ => 0, H⟩

/-- A function that writes to nothing that was there: called with such values, it comes to that. -/
def Spec (P : Program) (g : FuncId) (args : List V) (r : Res) : Prop :=
  Enters P g ∧ ∀ (H : Nat → Option Obj) (w : World) (xs : Array Value), (∀ b o, H b = some o → w.heap[b]? = some o) → repVs (E0 H) args xs.toList →
    Calls P g xs w (fun e w' => ∃ v E', e = .returned v ∧ Did [] (E0 H) 0 w r E' w' v)

def resVal (tt : TT) (st : St) : ResultVar → Option V
  | .tmp t => look st.env t
  | .cell a t => (match look st.env a with
      | some (.ptr id off) => (match look st.aw id, tt t with
          | some (.box l), some ti => (match cut l off ti.size with
              | some c => asVal ti.agg c
              | none => none)
          | _, _ => none)
      | _ => none)

def resVals (tt : TT) (st : St) : List ResultVar → Option (List V)
  | [] => some []
  | x :: t => match resVal tt st x, resVals tt st t with
    | some a, some b => some (a :: b)
    | _, _ => none

def resV (tt : TT) (st : St) (rs : List ResultVar) : Option V :=
  match resVals tt st rs with
  | some [x] => some x
  | some l => some (.tup l)
  | none => none

def number : List V → Nat → List (Nat × V)
  | [], _ => []
  | v :: t, n => (n, v) :: number t (Nat.succ n)

section
variable {P : Program} {w0 : World} {M : Nat → Prop} {H0 : Emb} {tt : TT} {E : Emb} {w : World}

def resSem (tmps : Array Value) : ResultVar → Sem Value
  | .tmp t => pure (tmps.getD t undef)
  | .cell q t => do loadVar t (← asAddr (tmps.getD q undef))

theorem results_eq (fn : Func) (tmps : Array Value) : results fn tmps = (do
    let vs ← fn.results.mapM (resSem tmps)
    pure (if h : vs.size = 1 then vs[0] else .tuple vs)) := by
  unfold results
  congr 1

theorem resVal_run (hTT : TabOK P tt) {st : St} {a : Act} (hR : R w0 M H0 E st a w) {x : ResultVar} {X : V} (h : resVal tt st x = some X) :
    ∃ v, (resSem a.tmps x).run P w = .ok v w ∧ repV E X v := by
  have get : ∀ t v, look st.env t = some v → ∃ u, a.tmps.getD t undef = u ∧ repV E v u := by
    intro t v hv
    obtain ⟨u, hu, hr⟩ := hR.env t v hv
    exact ⟨u, by simp [Array.getD_eq_getD_getElem?, hu], hr⟩
  cases x with
  | tmp t =>
    obtain ⟨u, hu, hr⟩ := get t X h
    exact ⟨u, by simp only [resSem, hu, Sem.run_pure], hr⟩
  | cell q t =>
    simp only [resVal] at h
    split at h
    · rename_i id off hq
      obtain ⟨u, hu, hr⟩ := get q _ hq
      split at h
      · rename_i l ti hl hti
        split at h
        · rename_i c hc
          simp only [repV] at hr
          obtain ⟨b, h1, rfl⟩ := hr
          obtain ⟨b', cc, e, h2, h3, h4⟩ := hR.wr.blk _ _ hl
          rw [h1] at h2; cases h2
          have hT := hTT.types _ _ hti
          obtain ⟨h5, h6⟩ := cut_rep _ _ _ _ hc _ h4
          have hl6 := repC_len _ _ h6
          obtain ⟨v, h7, h8⟩ := asVal_load hT h3 (by rw [← hl6, List.length_take, List.length_drop]; omega) h6 h
          exact ⟨v, by simp only [resSem, hu, asAddr, Sem.run_bind, Sem.run_pure, Result.andThen_ok, h7], h8⟩
        · cases h
      · cases h
    · cases h

theorem resVals_run (hTT : TabOK P tt) {st : St} {a : Act} (hR : R w0 M H0 E st a w) : ∀ (rs : List ResultVar) (l : List V), resVals tt st rs = some l →
    ∃ vs, (rs.mapM (resSem a.tmps)).run P w = .ok vs w ∧ repVs E l vs
  | [], l, h => by cases h; exact ⟨[], by simp, by simp [repVs]⟩
  | x :: t, l, h => by
    simp only [resVals] at h
    split at h
    · rename_i p q hp hq
      cases h
      obtain ⟨v, h1, h2⟩ := resVal_run hTT hR hp
      obtain ⟨vs, h3, h4⟩ := resVals_run hTT hR t q hq
      refine ⟨v :: vs, ?_, by simp only [repVs]; exact ⟨v, vs, rfl, h2, h4⟩⟩
      simp only [List.mapM_cons, Sem.run_bind, h1, Result.andThen_ok, h3, Sem.run_pure]
    · cases h

theorem resV_run (hTT : TabOK P tt) {st : St} {a : Act} (hR : R w0 M H0 E st a w) {fn : Func} {X : V} (h : resV tt st fn.results.toList = some X) :
    ∃ v, (results fn a.tmps).run P w = .ok v w ∧ repV E X v := by
  unfold resV at h
  have key : ∀ l, resVals tt st fn.results.toList = some l → ∃ vs : List Value, repVs E l vs ∧ (results fn a.tmps).run P w = .ok (if h : vs.length = 1 then vs[0] else .tuple vs.toArray) w := by
    intro l hl
    obtain ⟨vs, h1, h2⟩ := resVals_run hTT hR _ l hl
    refine ⟨vs, h2, ?_⟩
    rw [results_eq, Array.mapM_eq_mapM_toList]
    simp [h1]
  split at h
  · rename_i x hx
    cases h
    obtain ⟨vs, h1, h2⟩ := key _ hx
    obtain ⟨u, rfl, h3⟩ := repVs_one h1
    exact ⟨u, by simpa using h2, h3⟩
  · rename_i l hne hl
    cases h
    obtain ⟨vs, h1, h2⟩ := key _ hl
    have hlen := repVs_len _ _ h1
    refine ⟨.tuple vs.toArray, ?_, by simp only [repV]; exact ⟨_, rfl, by simpa using h1⟩⟩
    rw [h2, dif_neg]
    intro h1'
    rw [hlen] at h1'
    obtain ⟨x, rfl⟩ := List.length_eq_one_iff.1 h1'
    exact hne x rfl
  · cases h

theorem number_look : ∀ (args : List V) (n : Nat) (t : Nat) (v : V), look (number args n) t = some v → n ≤ t ∧ args[t - n]? = some v
  | [], n, t, v, h => by cases h
  | x :: r, n, t, v, h => by
    simp only [number] at h
    rw [look_cons] at h
    split at h
    · rename_i e; cases h; subst e; simp
    · rename_i e
      obtain ⟨h1, h2⟩ := number_look r (n + 1) t v h
      refine ⟨by omega, ?_⟩
      rw [show t - n = (t - (n + 1)) + 1 by omega]
      simpa using h2

theorem repVs_get {E : Emb} : ∀ (l : List V) (vs : List Value), repVs E l vs → ∀ (i : Nat) (v : V), l[i]? = some v → ∃ u, vs[i]? = some u ∧ repV E v u
  | [], _, _ => by simp
  | x :: t, vs, h => by
    simp only [repVs] at h
    obtain ⟨u, us, rfl, h1, h2⟩ := h
    intro i v hv
    cases i with
    | zero => simp at hv; subst hv; exact ⟨u, by simp, h1⟩
    | succ i => simp at hv; simpa using repVs_get t us h2 i v hv

end
end Go.AX

namespace Go.AX
set_option autoImplicit false
set_option linter.unusedVariables false

def shiftF (n : Nat) : Nat → List (Nat × Nat)
  | 0 => []
  | k + 1 => (k, Nat.add n k) :: shiftF n k

def shiftW (n dn : Nat) : List (Nat × Blk) → Option (List (Nat × Blk))
  | [] => some []
  | (i, .row l k e) :: t => bif Nat.blt i dn then (match shiftW n dn t with | some r => some ((Nat.add n i, .row l k e) :: r) | none => none) else none
  | _ => none

/-- A function's answer, its own blocks under a caller's numbers. -/
def shift (I : Prims) (n : Nat) (r : Res) : Option Res :=
  match V.out I (shiftF n r.dn) [] r.val, shiftW n r.dn r.wr with
  | some v, some w => some ⟨v, w, r.dn, True⟩
  | _, _ => none

def D.noL : D → Prop
  | .lst _ _ => False
  | _ => True

mutual
def V.noL : V → Prop
  | .d x => x.noL
  | .lp _ _ => False
  | .big _ l => ∀ d ∈ l, d.noL
  | .agg l => noLs l
  | .tup l => noLs l
  | .fn _ l => noLs l
  | _ => True
def noLs : List V → Prop
  | [] => True
  | v :: t => v.noL ∧ noLs t
end

def noLw : List (Nat × Blk) → Prop
  | [] => True
  | (_, .row l _ _) :: t => (∀ d ∈ l, d.noL) ∧ noLw t
  | _ => False

section
variable {P : Program} {w0 : World} {M : Nat → Prop} {H0 : Emb} {tt : TT} {E : Emb} {w : World} {n : Nat}

theorem repD_noL {H H' : Nat → Option Obj} {d : D} {v : Value} (h : d.noL) (hr : repD H d v) : repD H' d v := by
  cases d <;> first | exact h.elim | simpa only [repD] using hr

theorem repDs_noL {H H' : Nat → Option Obj} : ∀ (l : List D) (vs : List Value), (∀ d ∈ l, d.noL) → repDs H l vs → repDs H' l vs
  | [], _, _, _ => trivial
  | d :: t, vs, h, hr => by
    simp only [repDs] at hr ⊢
    obtain ⟨u, us, h1, h2, h3⟩ := hr
    exact ⟨u, us, h1, repD_noL (h d List.mem_cons_self) h2, repDs_noL t us (fun x hx => h x (List.mem_cons_of_mem _ hx)) h3⟩

/-- From one embedding to another one. -/
structure Moves (A B : Emb) (f : List (Nat × Nat)) (full : Prop) : Prop where
  ρ : ∀ i j, look f i = some j → B.ρ j = A.ρ i ∧ B.κ j = A.κ i
  H : full → ∀ b o, A.H b = some o → B.H b = some o

mutual
theorem move_rep {A B : Emb} {f : List (Nat × Nat)} {full : Prop} (hm : Moves A B f full) : ∀ (v v' : V), V.out std f [] v = some v' → (full ∨ v.noL) → ∀ x, repV A v x → repV B v' x
  | .d x, v', h, hn => by
    intro u hu
    simp only [V.out] at h; cases h
    simp only [repV] at hu ⊢
    rcases hn with hf | hn
    · exact repD_mono (hm.H hf) _ _ hu
    · simp only [V.noL] at hn; exact repD_noL hn hu
  | .own id len k, v', h, hn => by
    intro u hu
    simp only [V.out] at h
    split at h
    · rename_i j hj
      cases h
      obtain ⟨h1, h2⟩ := hm.ρ _ _ hj
      simp only [repV, h1, h2] at hu ⊢
      exact hu
    · simp only [look] at h; cases h
  | .slc id off len k, v', h, hn => by
    intro u hu
    simp only [V.out] at h
    split at h
    · rename_i j hj
      cases h
      simp only [repV, (hm.ρ _ _ hj).1] at hu ⊢
      exact hu
    · simp only [look] at h; cases h
  | .sla id s m k len, v', h, hn => by
    intro u hu
    simp only [V.out] at h
    split at h
    · rename_i j hj
      cases h
      simp only [repV, (hm.ρ _ _ hj).1] at hu ⊢
      exact hu
    · simp only [look] at h; cases h
  | .ptr id off, v', h, hn => by
    intro u hu
    simp only [V.out] at h
    split at h
    · rename_i j hj
      cases h
      simp only [repV, (hm.ρ _ _ hj).1] at hu ⊢
      exact hu
    · simp only [look] at h; cases h
  | .px id s m k i q, v', h, hn => by
    intro u hu
    simp only [V.out] at h
    split at h
    · rename_i j hj
      cases h
      simp only [repV, (hm.ρ _ _ hj).1] at hu ⊢
      exact hu
    · cases h
  | .pr id off, v', h, hn => by
    intro u hu
    simp only [V.out] at h
    split at h
    · rename_i j hj
      cases h
      simp only [repV, (hm.ρ _ _ hj).1] at hu ⊢
      exact hu
    · cases h
  | .lp l off, v', h, hn => by
    intro u hu
    simp only [V.out] at h; cases h
    rcases hn with hf | hn
    · simp only [repV] at hu ⊢
      obtain ⟨p, c, e, fz, base, h1, h2, h3, h4, h5⟩ := hu
      exact ⟨p, c, e, fz, base, h1, h2, hm.H hf _ _ h3, h4, repDs_mono (hm.H hf) _ _ h5⟩
    · simp only [V.noL] at hn
  | .map id, v', h, hn => by
    intro u hu
    simp only [V.out] at h
    split at h
    · rename_i j hj
      cases h
      simp only [repV, (hm.ρ _ _ hj).1] at hu ⊢
      exact hu
    · cases h
  | .fn g caps, v', h, hn => by
    intro u hu
    simp only [V.out] at h
    simp only [repV] at hu
    split at h
    · rename_i r hr
      cases h
      obtain ⟨cs, h1, h2⟩ := hu
      simp only [repV]
      exact ⟨cs, h1, moves_rep hm _ _ hr (hn.imp id (fun h => by simpa only [V.noL] using h)) _ h2⟩
    · cases h
  | .agg l, v', h, hn => by
    intro u hu
    simp only [V.out] at h
    simp only [repV] at hu
    split at h
    · rename_i r hr
      cases h
      obtain ⟨cs, h1, h2⟩ := hu
      simp only [repV]
      exact ⟨cs, h1, movesC_rep hm _ _ hr (hn.imp id (fun h => by simpa only [V.noL] using h)) _ h2⟩
    · cases h
  | .big m l, v', h, hn => by
    intro u hu
    simp only [repV] at hu
  | .tup l, v', h, hn => by
    intro u hu
    simp only [V.out] at h
    simp only [repV] at hu
    split at h
    · rename_i r hr
      cases h
      obtain ⟨cs, h1, h2⟩ := hu
      simp only [repV]
      exact ⟨cs, h1, moves_rep hm _ _ hr (hn.imp id (fun h => by simpa only [V.noL] using h)) _ h2⟩
    · cases h
theorem moves_rep {A B : Emb} {f : List (Nat × Nat)} {full : Prop} (hm : Moves A B f full) : ∀ (l l' : List V), outs std f [] l = some l' → (full ∨ noLs l) → ∀ xs, repVs A l xs → repVs B l' xs
  | [], l', h, hn => by
    intro xs hx
    simp only [outs] at h; cases h
    simpa only [repVs] using hx
  | v :: t, l', h, hn => by
    intro xs hx
    simp only [outs] at h
    split at h
    · rename_i a b ha hb
      cases h
      simp only [repVs] at hx ⊢
      obtain ⟨u, us, h1, h2, h3⟩ := hx
      have hn1 : full ∨ v.noL := hn.imp id (fun h => by simp only [noLs] at h; exact h.1)
      have hn2 : full ∨ noLs t := hn.imp id (fun h => by simp only [noLs] at h; exact h.2)
      exact ⟨u, us, h1, move_rep hm v a ha hn1 u h2, moves_rep hm t b hb hn2 us h3⟩
    · cases h
theorem movesC_rep {A B : Emb} {f : List (Nat × Nat)} {full : Prop} (hm : Moves A B f full) : ∀ (l l' : List V), outs std f [] l = some l' → (full ∨ noLs l) → ∀ xs, repC A l xs → repC B l' xs
  | [], l', h, hn => by
    intro xs hx
    simp only [outs] at h; cases h
    simpa only [repC] using hx
  | v :: t, l', h, hn => by
    intro xs hx
    simp only [outs] at h
    split at h
    · rename_i a b ha hb
      cases h
      have hn1 : full ∨ v.noL := hn.imp id (fun h => by simp only [noLs] at h; exact h.1)
      have hn2 : full ∨ noLs t := hn.imp id (fun h => by simp only [noLs] at h; exact h.2)
      simp only [repC] at hx ⊢
      rcases hx with ⟨m, l, ys, zs, rfl, h1, h2, h3, h4, h5⟩ | ⟨u, us, h1, h2, h3, h4⟩
      · simp only [V.out] at ha; cases ha
        refine .inl ⟨m, l, ys, zs, rfl, h1, h2, h3, ?_, movesC_rep hm t b hb hn2 zs h5⟩
        rcases hn1 with hf | hn1
        · exact repDs_mono (hm.H hf) _ _ h4
        · simp only [V.noL] at hn1; exact repDs_noL _ _ hn1 h4
      · exact .inr ⟨u, us, h1, h2, move_rep hm v a ha hn1 u h3, movesC_rep hm t b hb hn2 us h4⟩
    · cases h
end

theorem look_shiftF (n : Nat) : ∀ (k i j : Nat), look (shiftF n k) i = some j → j = n + i ∧ i < k
  | 0, i, j, h => by cases h
  | k + 1, i, j, h => by
    simp only [shiftF] at h
    rw [look_cons] at h
    split at h
    · rename_i e; cases h; subst e; exact ⟨rfl, Nat.lt_succ_self _⟩
    · obtain ⟨h1, h2⟩ := look_shiftF n k i j h; exact ⟨h1, by omega⟩

theorem look_shiftW {n dn : Nat} : ∀ (l l' : List (Nat × Blk)), shiftW n dn l = some l' → ∀ i b, look l' i = some b → n ≤ i ∧ i - n < dn ∧ ∃ l0 k e, b = .row l0 k e ∧ look l (i - n) = some (.row l0 k e)
  | [], l', h => by cases h; intro i b h; cases h
  | (i0, .row l0 k0 e0) :: t, l', h => by
    simp only [shiftW, cond_eq_ite] at h
    split at h
    · rename_i hlt
      split at h
      · rename_i r hr
        cases h
        intro i b hi
        rw [look_cons] at hi
        split at hi
        · rename_i e
          cases hi
          subst e
          have hlt' : i0 < dn := by simpa using hlt
          refine ⟨Nat.le_add_right _ _, by show n + i0 - n < dn; omega, l0, k0, e0, rfl, ?_⟩
          rw [look_cons, if_pos (by show i0 = n + i0 - n; omega)]
        · rename_i hne
          obtain ⟨h1, h2, l1, k1, e1, h3, h4⟩ := look_shiftW t r hr i b hi
          refine ⟨h1, h2, l1, k1, e1, h3, ?_⟩
          rw [look_cons, if_neg, h4]
          intro e
          apply hne
          show n + i0 = i
          omega
      · cases h
    · cases h
  | (_, .box _) :: t, l', h => by simp only [shiftW] at h; cases h
  | (_, .dead) :: t, l', h => by simp only [shiftW] at h; cases h

theorem noLw_look : ∀ (l : List (Nat × Blk)), noLw l → ∀ i l0 k e, look l i = some (.row l0 k e) → ∀ d ∈ l0, d.noL
  | [], _, i, l0, k, e, h => by cases h
  | (j, .row l1 k1 e1) :: t, hn, i, l0, k, e, h => by
    simp only [noLw] at hn
    rw [look_cons] at h
    split at h
    · cases h; exact hn.1
    · exact noLw_look t hn.2 i l0 k e h
  | (_, .box _) :: t, hn, _, _, _, _, _ => by simp only [noLw] at hn
  | (_, .dead) :: t, hn, _, _, _, _, _ => by simp only [noLw] at hn

open Classical in
noncomputable def Emb.join (E C : Emb) (n dn S : Nat) : Emb where
  ρ i := if n ≤ i ∧ i < n + dn then C.ρ (i - n) else E.ρ i
  κ i := if n ≤ i ∧ i < n + dn then C.κ (i - n) else E.κ i
  H b := if b < S then E.H b else C.H b

/-- What a callee came to, in its caller's words. -/
theorem did_join {aw : List (Nat × Blk)} (hW : WR w0 M E aw n w) {r r' : Res} (hfree : ∀ i, n ≤ i → i < n + r.dn → E.ρ i = none) {Hc : Nat → Option Obj} (hHc : ∀ b o, Hc b = some o → w.heap[b]? = some o)
    {C : Emb} {w' : World} {v : Value} (hD : Did [] (AX.E0 Hc) 0 w r C w' v) (hs : shift std n r = some r') (hT : (∀ b, Hc b = E.H b) ∨ (r.val.noL ∧ noLw r.wr)) : Did aw E n w r' (E.join C n r.dn w.heap.size) w' v := by
  unfold shift at hs
  split at hs
  case h_2 => cases hs
  rename_i X W hX hWr
  cases hs
  obtain ⟨S, hg, hS⟩ := hD.grown
  have hS0 : ∀ k, ¬ S k := by intro k hk; obtain ⟨i, y, h1, _⟩ := hS k hk; cases h1
  have Cnew : ∀ i x, C.ρ i = some x → i < r.dn ∧ ∀ b, x = some b → w.heap.size ≤ b ∧ b < w'.heap.size := by
    intro i x hx
    rcases hD.new i x hx with h | ⟨_, h1, h2⟩
    · cases h
    · refine ⟨by omega, fun b hb => ?_⟩
      rcases h2 b hb with h3 | ⟨j, hj⟩
      · exact h3
      · cases hj
  have inR : ∀ i, n ≤ i ∧ i < n + r.dn → (E.join C n r.dn w.heap.size).ρ i = C.ρ (i - n) ∧ (E.join C n r.dn w.heap.size).κ i = C.κ (i - n) := by
    intro i hi; simp [Emb.join, hi]
  have outR : ∀ i, ¬ (n ≤ i ∧ i < n + r.dn) → (E.join C n r.dn w.heap.size).ρ i = E.ρ i ∧ (E.join C n r.dn w.heap.size).κ i = E.κ i := by
    intro i hi; simp only [Emb.join]; rw [if_neg hi, if_neg hi]; exact ⟨rfl, rfl⟩
  have old : ∀ i x, E.ρ i = some x → ¬ (n ≤ i ∧ i < n + r.dn) := by
    rintro i x hx ⟨h1, h2⟩
    rw [hfree i h1 h2] at hx; cases hx
  have hle : EmbLe E (E.join C n r.dn w.heap.size) := by
    refine ⟨fun i x hx => by rw [(outR i (old i x hx)).1]; exact hx, fun i x hx => (outR i (old i x hx)).2, fun b o hb => ?_⟩
    have := (Array.getElem?_eq_some_iff.1 (hW.ro b o hb)).1
    simp [Emb.join, this, hb]
  have hmv : Moves C (E.join C n r.dn w.heap.size) (shiftF n r.dn) (∀ b, Hc b = E.H b) := by
    refine ⟨fun i j hij => ?_, fun hf b o hb => ?_⟩
    · obtain ⟨rfl, hi⟩ := look_shiftF n _ i j hij
      have := inR (n + i) ⟨by omega, by omega⟩
      rwa [show n + i - n = i by omega] at this
    · rcases hD.h b o hb with h1 | ⟨_, h1 | ⟨_, _, h1, _⟩⟩
      · have h2 := (Array.getElem?_eq_some_iff.1 (hHc b o h1)).1
        simp only [Emb.join]
        rw [if_pos h2, ← hf b]; exact h1
      · simp only [Emb.join]
        rw [if_neg (by omega)]; exact hb
      · cases h1
  have up : ∀ i x, look (W ++ aw) i = some x → x.live = true → (n ≤ i ∧ i < n + r.dn) → ∃ z, look (r.wr ++ []) (i - n) = some z ∧ z.live = true := by
    intro i x h hl hr
    rw [look_append] at h
    split at h
    · rename_i q hq
      obtain ⟨_, _, l0, k, e, _, h7⟩ := look_shiftW _ _ hWr i q hq
      exact ⟨_, by rw [List.append_nil]; exact h7, rfl⟩
    · have hb := hW.blk i x h
      have hn := hfree i hr.1 hr.2
      cases x with
      | row l k e =>
        rcases hb with ⟨h1, _⟩ | ⟨_, _, h1, _⟩ <;> (rw [hn] at h1; cases h1)
      | box l => obtain ⟨_, _, _, h1, _⟩ := hb; rw [hn] at h1; cases h1
      | mp _ _ l => obtain ⟨_, _, _, h1, _⟩ := hb; rw [hn] at h1; cases h1
      | mb _ _ _ _ => obtain ⟨_, _, h1, _⟩ := hb; rw [hn] at h1; cases h1
      | it _ _ _ => obtain ⟨_, _, h1, _⟩ := hb; rw [hn] at h1; cases h1
      | dead => cases hl
  have down : ∀ i x, look (W ++ aw) i = some x → ¬ (n ≤ i ∧ i < n + r.dn) → look aw i = some x := by
    intro i x h hr
    rw [look_append] at h
    split at h
    · rename_i q hq
      obtain ⟨h7, h8, _⟩ := look_shiftW _ _ hWr i q hq
      exact absurd ⟨h7, by omega⟩ hr
    · exact h
  refine ⟨hle, ?_, ?_, ?_, ?_, ⟨S, hg, fun k hk => (hS0 k hk).elim⟩, ?_, move_rep hmv _ _ hX (hT.imp id (·.1)) _ hD.val⟩
  · intro b o hb
    simp only [Emb.join] at hb
    split at hb
    · exact .inl hb
    · rename_i hsz
      rcases hD.h b o hb with h1 | ⟨h1, h2 | ⟨_, _, h2, _⟩⟩
      · have := (Array.getElem?_eq_some_iff.1 (hHc b o h1)).1
        exact absurd this hsz
      · exact .inr ⟨h1, .inl h2⟩
      · cases h2
  · intro i x hx
    by_cases hr : n ≤ i ∧ i < n + r.dn
    · rw [(inR i hr).1] at hx
      exact .inr ⟨hr.1, hr.2, fun b hb => .inl ((Cnew _ _ hx).2 b hb)⟩
    · rw [(outR i hr).1] at hx; exact .inl hx
  · intro i x b h1 h2 h3
    by_cases hr : n ≤ i ∧ i < n + r.dn
    · rw [(inR i hr).1] at h3
      obtain ⟨z, h4, h5⟩ := up i x h1 h2 hr
      have h6 := hD.own _ z b h4 h5 h3
      have h7 := (Cnew _ _ h3).2 b rfl
      simp only [Emb.join]
      rw [if_neg (by omega)]; exact h6
    · rw [(outR i hr).1] at h3
      have h4 := hW.own i x b (down i x h1 hr) h2 h3
      have h5 := (hW.dom i b h3).1
      simp only [Emb.join]
      rw [if_pos h5]; exact h4
  · intro i j b x y h1 h2 h3 h4 h5 h6
    by_cases hi : n ≤ i ∧ i < n + r.dn <;> by_cases hj : n ≤ j ∧ j < n + r.dn
    · rw [(inR i hi).1] at h5
      rw [(inR j hj).1] at h6
      obtain ⟨x', g1, g2⟩ := up i x h1 h2 hi
      obtain ⟨y', g3, g4⟩ := up j y h3 h4 hj
      have := hD.inj (i - n) (j - n) b x' y' g1 g2 g3 g4 h5 h6
      omega
    · rw [(inR i hi).1] at h5
      rw [(outR j hj).1] at h6
      have := (Cnew _ _ h5).2 b rfl
      have := (hW.dom j b h6).1; omega
    · rw [(outR i hi).1] at h5
      rw [(inR j hj).1] at h6
      have := (Cnew _ _ h6).2 b rfl
      have := (hW.dom i b h5).1; omega
    · rw [(outR i hi).1] at h5
      rw [(outR j hj).1] at h6
      exact hW.inj i j b x y (down i x h1 hi) h2 (down j y h3 hj) h4 h5 h6
  · intro i b hb
    obtain ⟨h1, h2, l0, k, e, rfl, h3⟩ := look_shiftW _ _ hWr i b hb
    have hbk := hD.wr _ _ h3
    obtain ⟨h4, h5⟩ := inR i ⟨h1, by omega⟩
    simp only [BlkOK, h4, h5]
    rcases hbk with hbk | ⟨b, c, g1, g2, g3, g4, g5⟩
    · exact .inl hbk
    · refine .inr ⟨b, c, g1, g2, g3, g4, ?_⟩
      rcases hT with hf | ⟨_, hn⟩
      · exact repDs_mono (hmv.H hf) _ _ g5
      · exact repDs_noL _ _ (noLw_look _ hn _ _ _ _ h3) g5

mutual
def V.idsV : V → List Nat
  | .own i _ _ | .slc i _ _ _ | .sla i _ _ _ _ | .ptr i _ | .px i _ _ _ _ _ | .pr i _ | .map i => [i]
  | .agg l => idsL l
  | .tup l => idsL l
  | .fn _ l => idsL l
  | _ => []
def idsL : List V → List Nat
  | [] => []
  | v :: t => v.idsV ++ idsL t
end

theorem memN_append (l m : List Nat) (x : Nat) : memN (l ++ m) x = (memN l x || memN m x) := by
  induction l with
  | nil => rfl
  | cons a t ih => simp only [List.cons_append, memN, ih, Bool.or_assoc]

mutual
theorem out_congr {f : List (Nat × Nat)} {aw aw' : List (Nat × Blk)} : ∀ (v : V), (∀ i, memN v.idsV i = true → look aw' i = look aw i) → V.out std f aw' v = V.out std f aw v
  | .d x, h => by simp only [V.out]
  | .own id len k, h => by simp only [V.out, h id (by simp [V.idsV, memN])]
  | .slc id off len k, h => by simp only [V.out, h id (by simp [V.idsV, memN])]
  | .sla id s m k len, h => by simp only [V.out, h id (by simp [V.idsV, memN])]
  | .ptr id off, h => by simp only [V.out, h id (by simp [V.idsV, memN])]
  | .px id s m k i q, h => by simp only [V.out]
  | .pr id off, h => by simp only [V.out]
  | .lp l off, h => by simp only [V.out]
  | .map id, h => by simp only [V.out]
  | .fn g caps, h => by simp only [V.out, outs_congr caps (fun i hi => h i (by simpa only [V.idsV] using hi))]
  | .agg l, h => by simp only [V.out, outs_congr l (fun i hi => h i (by simpa only [V.idsV] using hi))]
  | .big n l, h => by simp only [V.out]
  | .tup l, h => by simp only [V.out, outs_congr l (fun i hi => h i (by simpa only [V.idsV] using hi))]
theorem outs_congr {f : List (Nat × Nat)} {aw aw' : List (Nat × Blk)} : ∀ (l : List V), (∀ i, memN (idsL l) i = true → look aw' i = look aw i) → outs std f aw' l = outs std f aw l
  | [], h => by simp only [outs]
  | v :: t, h => by
    have h1 : ∀ i, memN v.idsV i = true → look aw' i = look aw i := fun i hi => h i (by simp only [idsL, memN_append, hi, Bool.true_or])
    have h2 : ∀ i, memN (idsL t) i = true → look aw' i = look aw i := fun i hi => h i (by simp only [idsL, memN_append, hi, Bool.or_true])
    simp only [outs, out_congr v h1, outs_congr t h2]
end

/-- A call of a function that is specified: its arguments hold no row of the caller's own. -/
theorem call_pure {g : FuncId} {args vs : List V} {r r' : Res} {aw : List (Nat × Blk)} (h : Spec P g args r) (ho : outs std [] [] vs = some args) (hs : shift std n r = some r') : CallOK P g vs aw [] n r' := by
  refine ⟨h.1, fun aw' _ w0 M E w xs hW hfree hvs => ?_⟩
  have hdn : r'.dn = r.dn := by unfold shift at hs; split at hs <;> cases hs; rfl
  rw [hdn] at hfree
  have hW0 : WR w0 M E [] n w := ⟨fun i b h => (by cases h), hW.ro, fun i j b x y h => (by cases h), hW.dom, fun i y b h => (by cases h), hW.none_n, hW.frame⟩
  have hv := outs_rep (f := []) hW0 rfl _ _ ho _ hvs
  have hE : E.view [] [] w = AX.E0 E.H := by
    unfold Emb.view AX.E0
    congr 1
    funext b
    cases hb : E.H b with
    | some o => rfl
    | none => simp only []; rw [if_neg]; rintro ⟨i, y, _, h, _⟩; cases h
  rw [hE] at hv
  refine (h.2 E.H w xs hW.ro hv).mono ?_
  rintro e w' ⟨v, C, rfl, hD⟩
  exact ⟨v, _, rfl, did_join hW hfree hW.ro hD hs (.inl fun _ => rfl)⟩

/-- A call whose arguments may hold rows of the caller's own: they are read as they are now; what is answered holds no slice of what was handed in. -/
theorem call_snap {g : FuncId} {args vs : List V} {r r' : Res} {aw : List (Nat × Blk)} (h : Spec P g args r) (ho : outs std [] aw vs = some args) (hs : shift std n r = some r') (hn : r.val.noL ∧ noLw r.wr) : CallOK P g vs aw (idsL vs) n r' := by
  refine ⟨h.1, fun aw' hag w0 M E w xs hW hfree hvs => ?_⟩
  have hdn : r'.dn = r.dn := by unfold shift at hs; split at hs <;> cases hs; rfl
  rw [hdn] at hfree
  rw [← outs_congr (aw' := aw') vs hag] at ho
  have hv := outs_rep (f := []) hW rfl _ _ ho _ hvs
  have hE : E.view [] aw' w = AX.E0 (E.view [] aw' w).H := rfl
  rw [hE] at hv
  have hro : ∀ b o, (E.view [] aw' w).H b = some o → w.heap[b]? = some o := by
    intro b o hb
    simp only [Emb.view] at hb
    split at hb
    · rename_i o' ho; cases hb; exact hW.ro b o ho
    · split at hb
      · exact hb
      · cases hb
  refine (h.2 _ w xs hro hv).mono ?_
  rintro e w' ⟨v, C, rfl, hD⟩
  exact ⟨v, _, rfl, did_join hW hfree hro hD hs (.inr hn)⟩

theorem CallP.pure' {I : Prims} {g : FuncId} {vs args : List V} {st : St} {K : CRes → Prop} {r r' : Res} (h : Spec P g args r) (hI : I = std) (ho : outs I [] [] vs = some args) (hs : shift I st.n r = some r') (k : K ⟨r', []⟩) : CallP P I g vs st K := by
  subst hI; exact ⟨_, call_pure h ho hs, k⟩

theorem CallP.snap {I : Prims} {g : FuncId} {vs args : List V} {st : St} {K : CRes → Prop} {r r' : Res} (h : Spec P g args r) (hI : I = std) (ho : outs I [] st.aw vs = some args) (hs : shift I st.n r = some r') (hn : r.val.noL ∧ noLw r.wr) (k : K ⟨r', idsL vs⟩) : CallP P I g vs st K := by
  subst hI; exact ⟨_, call_snap h ho hs hn, k⟩
end
end Go.AX

namespace Go.AX
set_option autoImplicit false
set_option linter.unusedVariables false

/-- Lists of operations, last first: each behind all that it waits for. -/
inductive Good (pre : Nat → List Nat) : List Nat → Prop
  | nil : Good pre []
  | cons (i : Nat) (l : List Nat) (h : i ∉ l) (hp : ∀ p ∈ pre i, p ∈ l) (g : Good pre l) : Good pre (i :: l)

theorem Good.sub {pre : Nat → List Nat} {l : List Nat} (g : Good pre l) : ∀ i ∈ l, ∀ p ∈ pre i, p ∈ l := by
  induction g with
  | nil => intro i h; cases h
  | cons j l hj hp g ih =>
    intro i hi p hpi
    rcases List.mem_cons.1 hi with rfl | hi
    · exact List.mem_cons_of_mem _ (hp p hpi)
    · exact List.mem_cons_of_mem _ (ih i hi p hpi)

theorem Good.tail {pre : Nat → List Nat} : ∀ {a b : List Nat}, Good pre (a ++ b) → Good pre b
  | [], b, g => g
  | x :: a, b, g => by cases g with | cons _ _ _ _ g => exact Good.tail g

def lookF {α : Type} (W : Nat → Nat → Option α) (k : Nat) (d : Option α) : List Nat → Option α
  | [] => d
  | i :: t => match W i k with | some x => some x | none => lookF W k d t

theorem lookF_none {α : Type} {W : Nat → Nat → Option α} {k : Nat} {d : Option α} : ∀ {l : List Nat}, (∀ i ∈ l, W i k = none) → lookF W k d l = d
  | [], _ => rfl
  | i :: t, h => by
    simp only [lookF, h i List.mem_cons_self]
    exact lookF_none fun j hj => h j (List.mem_cons_of_mem _ hj)

theorem lookF_first {α : Type} {W : Nat → Nat → Option α} {k : Nat} {d : Option α} : ∀ {l : List Nat}, (∃ i ∈ l, (W i k).isSome) → ∃ a m b x, l = a ++ m :: b ∧ (∀ i ∈ a, W i k = none) ∧ W m k = some x ∧ lookF W k d l = some x
  | [], h => by obtain ⟨i, h, _⟩ := h; cases h
  | j :: t, h => by
    cases hj : W j k with
    | some x => exact ⟨[], j, t, x, rfl, by simp, hj, by simp [lookF, hj]⟩
    | none =>
      obtain ⟨i, hi, hs⟩ := h
      have : ∃ i ∈ t, (W i k).isSome := by
        rcases List.mem_cons.1 hi with rfl | hi
        · rw [hj] at hs; cases hs
        · exact ⟨i, hi, hs⟩
      obtain ⟨a, m, b, x, h1, h2, h3, h4⟩ := lookF_first (d := d) this
      refine ⟨j :: a, m, b, x, by rw [h1]; rfl, ?_, h3, by simp only [lookF, hj]; exact h4⟩
      intro q hq
      rcases List.mem_cons.1 hq with rfl | hq
      · exact hj
      · exact h2 q hq

theorem lookF_eq {α : Type} {W : Nat → Nat → Option α} {pre : Nat → List Nat} {k : Nat} {d : Option α} {l1 l2 : List Nat} (g1 : Good pre l1) (g2 : Good pre l2)
    (hs : ∀ i, (W i k).isSome → (i ∈ l1 ↔ i ∈ l2)) (hc : ∀ i j, (W i k).isSome → (W j k).isSome → i < j → i ∈ pre j) : lookF W k d l1 = lookF W k d l2 := by
  by_cases hex : ∃ i ∈ l1, (W i k).isSome
  · obtain ⟨i, hi, hsi⟩ := hex
    obtain ⟨a1, m1, b1, x1, e1, n1, w1, r1⟩ := lookF_first (d := d) ⟨i, hi, hsi⟩
    obtain ⟨a2, m2, b2, x2, e2, n2, w2, r2⟩ := lookF_first (d := d) ⟨i, (hs i hsi).1 hi, hsi⟩
    have bad : ∀ (l a b : List Nat) (m q : Nat), Good pre l → l = a ++ m :: b → (∀ i ∈ a, W i k = none) → (W m k).isSome → (W q k).isSome → q ∈ l → m < q → False := by
      intro l a b m q g e hn hm hq hql hlt
      subst e
      have g' := Good.tail g
      cases g' with
      | cons _ _ hmb _ gb =>
        rcases List.mem_append.1 hql with h | h
        · rw [hn q h] at hq; cases hq
        · rcases List.mem_cons.1 h with rfl | h
          · omega
          · exact hmb (gb.sub q h m (hc m q hm hq hlt))
    have hm1 : (W m1 k).isSome := by rw [w1]; rfl
    have hm2 : (W m2 k).isSome := by rw [w2]; rfl
    have e : m1 = m2 := by
      rcases Nat.lt_trichotomy m1 m2 with h | h | h
      · exact (bad l1 a1 b1 m1 m2 g1 e1 n1 hm1 hm2 ((hs m2 hm2).2 (by rw [e2]; simp)) h).elim
      · exact h
      · exact (bad l2 a2 b2 m2 m1 g2 e2 n2 hm2 hm1 ((hs m1 hm1).1 (by rw [e1]; simp)) h).elim
    subst e
    rw [w1] at w2
    rw [r1, r2, w2]
  · have h1 : ∀ i ∈ l1, W i k = none := by
      intro i hi
      cases hw : W i k with
      | none => rfl
      | some x => exact absurd ⟨i, hi, by rw [hw]; rfl⟩ hex
    have h2 : ∀ i ∈ l2, W i k = none := by
      intro i hi
      cases hw : W i k with
      | none => rfl
      | some x => exact absurd ⟨i, (hs i (by rw [hw]; rfl)).2 hi, by rw [hw]; rfl⟩ hex
    rw [lookF_none h1, lookF_none h2]

structure It where
  o : Oper
  fp : Fp
  st : St
  res : Res

/-- An operation, run in a state. -/
inductive RunOK (P : Program) (tt : TT) (ops : List Oper) (acc : List Fp) (it : It) : Prop
  | call (f : Operand) (args : List Operand) (g : FuncId) (caps vs : List V) (ac : List Nat) (hc : isCall it.o.op = some (f, args)) (hf : it.st.ev f = some (.fn g caps)) (hvs : evs it.st args = some vs) (hd : dstOk it.st it.o.dst = true)
      (ok : CallOK P g (vs ++ caps) it.st.aw ac it.st.n it.res) (hfp : it.fp = ⟨it.o.dst, guseOf ops it.o.guard ++ tmpsOf (f :: args), ac, keys it.res.wr, preds acc it.o.after.toList⟩)
  | exec (vs : List V) (bs : List Blk) (hc : isCall it.o.op = none) (hvs : evs it.st it.o.op.operands.toList = some vs) (hbs : blks it.st.aw (accOf it.o.op vs) = some bs) (hr : OpS tt it.o.op vs bs it.st.n it.res)
      (hd : dstOk it.st it.o.dst = true) (hs : True) (hfp : it.fp = ⟨it.o.dst, guseOf ops it.o.guard ++ tmpsOf it.o.op.operands.toList, accOf it.o.op vs, keys it.res.wr, preds acc it.o.after.toList⟩)

def skipR : Res := ⟨.tup [], [], 0, True⟩

inductive ItOK (P : Program) (tt : TT) (ops : List Oper) (acc : List Fp) (it : It) : Prop
  | plain (hg : it.o.guard = none) (h : RunOK P tt ops acc it)
  | taken (j : Nat) (want : Bool) (g : Oper) (d : Nat) (hg : it.o.guard = some (j, want)) (hj : ops[j]? = some g) (hd : g.dst = some d) (hl : look it.st.env d = some (.d (.bool want))) (h : RunOK P tt ops acc it)
  | skipped (j : Nat) (want : Bool) (g : Oper) (d : Nat) (v : V) (hg : it.o.guard = some (j, want)) (hj : ops[j]? = some g) (hd : g.dst = some d) (hl : look it.st.env d = some v) (hv : v = .d (.bool (!want)) ∨ v = .tup [])
      (hd' : dstOk it.st it.o.dst = true) (hr : it.res = skipR) (hfp : it.fp = ⟨it.o.dst, guseOf ops it.o.guard, [], [], preds acc it.o.after.toList⟩)

inductive Chain (P : Program) (tt : TT) (ops : List Oper) : List Fp → St → List Oper → List It → St → Prop
  | nil (acc : List Fp) (st : St) : Chain P tt ops acc st [] [] st
  | cons (acc : List Fp) (it : It) (rest : List Oper) (its : List It) (stF : St) (h : ItOK P tt ops acc it) (k : Chain P tt ops (it.fp :: acc) (it.st.app it.o.dst it.res) rest its stF) : Chain P tt ops acc it.st (it.o :: rest) (it :: its) stF

theorem nilOf_draw (tt : TT) (op : Op) (vs : List V) : nilOf tt true op vs = none := by
  unfold nilOf
  split
  · rename_i h; cases h
  · rfl

theorem chain_of {P : Program} {tt : TT} {ops : List Oper} {Q : Exit → St → Prop} : ∀ (l : List Oper) (acc : List Fp) (st : St), goOps P std tt true ops Q l acc st →
    ∃ its stF, Chain P tt ops acc st l its stF ∧ (indep ((its.map (·.fp)).reverse ++ acc) && backs ops 0) = true ∧ Q .normal stF
  | [], acc, st, h => by
    simp only [goOps] at h
    exact ⟨[], st, .nil acc st, by simpa using h.1 (), h.2⟩
  | o :: rest, acc, st, h => by
    simp only [goOps] at h
    have fin : ∀ (fp : Fp) (r : Res), ItOK P tt ops acc ⟨o, fp, st, r⟩ → goOps P std tt true ops Q rest (fp :: acc) (st.app o.dst r) → ∃ its stF, Chain P tt ops acc st (o :: rest) its stF ∧ (indep ((its.map (·.fp)).reverse ++ acc) && backs ops 0) = true ∧ Q .normal stF := by
      intro fp r hit hk
      obtain ⟨its, stF, h1, h2, h3⟩ := chain_of rest _ _ hk
      exact ⟨⟨o, fp, st, r⟩ :: its, stF, .cons acc ⟨o, fp, st, r⟩ rest its stF hit h1, by simpa using h2, h3⟩
    have run : (match isCall o.op with
      | some (f, args) => (match st.ev f, evs st args with
          | some (.fn g caps), some vs => dstOk st o.dst = true ∧ CallP P std g (vs ++ caps) st (fun c => goOps P std tt true ops Q rest (⟨o.dst, guseOf ops o.guard ++ tmpsOf (f :: args), c.acc, keys c.res.wr, preds acc o.after.toList⟩ :: acc) (st.app o.dst c.res))
          | _, _ => False)
      | none => (match evs st o.op.operands.toList with
          | some vs => (match nilOf tt true o.op vs with
              | some (e, some n) => dstOk st o.dst = true ∧ ∀ b, (b = e → n = 0) → goOps P std tt true ops Q rest (⟨o.dst, guseOf ops o.guard ++ tmpsOf o.op.operands.toList, [], [], preds acc o.after.toList⟩ :: acc) (st.app o.dst ⟨.d (.bool b), [], 0, True⟩)
              | some (e, none) => dstOk st o.dst = true ∧ goOps P std tt true ops Q rest (⟨o.dst, guseOf ops o.guard ++ tmpsOf o.op.operands.toList, [], [], preds acc o.after.toList⟩ :: acc) (st.app o.dst ⟨.d (.bool e), [], 0, True⟩)
              | none => (match blks st.aw (accOf o.op vs) with
                  | some bs => (match opR std tt o.op vs bs st.n with
                      | some r => dstOk st o.dst = true ∧ r.side ∧ goOps P std tt true ops Q rest (⟨o.dst, guseOf ops o.guard ++ tmpsOf o.op.operands.toList, accOf o.op vs, keys r.wr, preds acc o.after.toList⟩ :: acc) (st.app o.dst r)
                      | none => (match mpArgs std tt o.op vs bs with
                          | some m => ∃ r, opM m st.n r ∧ dstOk st o.dst = true ∧ goOps P std tt true ops Q rest (⟨o.dst, guseOf ops o.guard ++ tmpsOf o.op.operands.toList, accOf o.op vs, keys r.wr, preds acc o.after.toList⟩ :: acc) (st.app o.dst r)
                          | none => (match rgArgs std tt true o.op vs st.aw with
                              | some m => dstOk st o.dst = true ∧ rgQ m st.n (fun r => goOps P std tt true ops Q rest (⟨o.dst, guseOf ops o.guard ++ tmpsOf o.op.operands.toList, accOf o.op vs, keys r.wr, preds acc o.after.toList⟩ :: acc) (st.app o.dst r))
                              | none => False)))
                  | none => False))
          | none => False)) → ∃ fp r, RunOK P tt ops acc ⟨o, fp, st, r⟩ ∧ goOps P std tt true ops Q rest (fp :: acc) (st.app o.dst r) := by
      intro h
      split at h
      · rename_i f args hc
        split at h
        · rename_i g caps vs hf hvs
          obtain ⟨hd, c, ok, hk⟩ := h
          exact ⟨_, c.res, .call f args g caps vs c.acc hc hf hvs hd ok rfl, hk⟩
        · exact h.elim
      · rename_i hc
        split at h
        · rename_i vs hvs
          rw [nilOf_draw] at h
          simp only at h
          split at h
          · rename_i bs hbs
            split at h
            · rename_i r hr
              exact ⟨_, r, .exec vs bs hc hvs hbs (.inl ⟨hr, h.2.1⟩) h.1 trivial rfl, h.2.2⟩
            · split at h
              · rename_i m hm
                obtain ⟨r, hr, hd, hk⟩ := h
                exact ⟨_, r, .exec vs bs hc hvs hbs (.inr ⟨m, hm, hr⟩) hd trivial rfl, hk⟩
              · split at h
                · rename_i m hm
                  rw [rgArgs_draw] at hm; cases hm
                · exact h.elim
          · exact h.elim
        · exact h.elim
    cases hg : o.guard with
    | none =>
      rw [hg] at h run
      obtain ⟨fp, r, h1, h2⟩ := run h
      exact fin fp r (.plain hg h1) h2
    | some jw =>
      obtain ⟨j, want⟩ := jw
      rw [hg] at h run
      simp only at h
      split at h
      · rename_i g hgj
        split at h
        · rename_i d hgd
          split at h
          · rename_i b hb
            by_cases hbw : b = want
            · obtain ⟨fp, r, h1, h2⟩ := run (h.1 hbw)
              subst hbw
              exact fin fp r (.taken j b g d hg hgj hgd hb h1) h2
            · have hbn : b = !want := by cases b <;> cases want <;> simp_all
              obtain ⟨hd, hk⟩ := h.2 hbn
              subst hbn
              exact fin _ skipR (.skipped j want g d _ hg hgj hgd hb (.inl rfl) hd rfl (by simp only [hg])) hk
          · rename_i hb
            obtain ⟨hd, hk⟩ := h
            exact fin _ skipR (.skipped j want g d _ hg hgj hgd hb (.inr rfl) hd rfl (by simp only [hg])) hk
          · exact h.elim
        · exact h.elim
      · exact h.elim
end Go.AX

namespace Go.AX
set_option autoImplicit false
set_option linter.unusedVariables false

def down : Nat → List Nat
  | 0 => []
  | n + 1 => n :: down n

theorem mem_down : ∀ {n i : Nat}, i ∈ down n ↔ i < n
  | 0, i => by simp [down]
  | n + 1, i => by simp only [down, List.mem_cons, mem_down]; omega

def stL (its : List It) (st : St) : List Nat → St
  | [] => st
  | i :: l => match its[i]? with
    | some it => (stL its st l).app it.o.dst it.res
    | none => stL its st l

def wE (its : List It) (i t : Nat) : Option V :=
  match its[i]? with
  | some it => if it.o.dst = some t then some it.res.val else none
  | none => none

def wA (its : List It) (i b : Nat) : Option Blk :=
  match its[i]? with
  | some it => look it.res.wr b
  | none => none

theorem stL_env (its : List It) (st : St) (t : Nat) : ∀ l, look (stL its st l).env t = lookF (wE its) t (look st.env t) l
  | [] => rfl
  | i :: l => by
    simp only [stL, lookF, wE]
    cases hi : its[i]? with
    | none => simp only; exact stL_env its st t l
    | some it =>
      simp only
      cases hd : it.o.dst with
      | none => simp only [St.app]; exact stL_env its st t l
      | some d =>
        simp only [St.app, look_cons, Option.some.injEq]
        by_cases h : d = t
        · rw [if_pos h, if_pos h]
        · rw [if_neg h, if_neg h]; exact stL_env its st t l

theorem stL_aw (its : List It) (st : St) (b : Nat) : ∀ l, look (stL its st l).aw b = lookF (wA its) b (look st.aw b) l
  | [] => rfl
  | i :: l => by
    simp only [stL, lookF, wA]
    cases hi : its[i]? with
    | none => simp only; exact stL_aw its st b l
    | some it =>
      simp only
      have : ((stL its st l).app it.o.dst it.res).aw = it.res.wr ++ (stL its st l).aw := by
        cases it.o.dst <;> rfl
      rw [this, look_append]
      cases look it.res.wr b with
      | some x => rfl
      | none => exact stL_aw its st b l

theorem app_sz (st : St) (d : Option Nat) (r : Res) : (st.app d r).sz = st.sz := by cases d <;> rfl
theorem app_n (st : St) (d : Option Nat) (r : Res) : (st.app d r).n = st.n + r.dn + 1 := by cases d <;> rfl
theorem app_aw (st : St) (d : Option Nat) (r : Res) : (st.app d r).aw = r.wr ++ st.aw := by cases d <;> rfl

theorem stL_sz (its : List It) (st : St) : ∀ l, (stL its st l).sz = st.sz
  | [] => rfl
  | i :: l => by
    simp only [stL]
    split
    · rw [app_sz]; exact stL_sz its st l
    · exact stL_sz its st l

theorem stL_take (its : List It) (st : St) (it : It) : ∀ (l : List Nat) (n : Nat), (∀ i ∈ l, i < n) → ∀ (js : List It), its.take n = js.take n → stL its st l = stL js st l
  | [], n, _, js, _ => rfl
  | i :: l, n, h, js, hj => by
    have hi := h i List.mem_cons_self
    have : its[i]? = js[i]? := by
      have h1 : (its.take n)[i]? = its[i]? := by rw [List.getElem?_take, if_pos hi]
      have h2 : (js.take n)[i]? = js[i]? := by rw [List.getElem?_take, if_pos hi]
      rw [← h1, ← h2, hj]
    simp only [stL, this, stL_take its st it l n (fun j hj' => h j (List.mem_cons_of_mem _ hj')) js hj]

section
variable {P : Program} {tt : TT} {ops : List Oper}

theorem stL_shift (it : It) (its : List It) (st : St) : ∀ (l : List Nat), stL (it :: its) st (l.map (· + 1) ++ [0]) = stL its (st.app it.o.dst it.res) l
  | [] => rfl
  | i :: l => by
    simp only [List.map_cons, List.cons_append, stL, List.getElem?_cons_succ, stL_shift it its st l]

theorem down_succ : ∀ n, down (n + 1) = (down n).map (· + 1) ++ [0]
  | 0 => rfl
  | n + 1 => by
    show (n + 1) :: down (n + 1) = (n + 1) :: ((down n).map (· + 1) ++ [0])
    rw [down_succ n]

theorem chain_get : ∀ {acc : List Fp} {st : St} {l : List Oper} {its : List It} {stF : St}, Chain P tt ops acc st l its stF →
    its.map (·.o) = l ∧ stF = stL its st (down its.length) ∧ (∀ i it, its[i]? = some it → it.st = stL its st (down i) ∧ ItOK P tt ops (((its.take i).map (·.fp)).reverse ++ acc) it) := by
  intro acc st l its stF h
  induction h with
  | nil acc st => exact ⟨rfl, rfl, fun i it h => by simp at h⟩
  | cons acc it rest its stF hit hk ih =>
    obtain ⟨h1, h2, h3⟩ := ih
    refine ⟨by simp [h1], ?_, ?_⟩
    · rw [List.length_cons, down_succ, stL_shift]; exact h2
    · intro i x hx
      cases i with
      | zero => simp at hx; subst hx; exact ⟨rfl, by simpa using hit⟩
      | succ i =>
        obtain ⟨h4, h5⟩ := h3 i x (by simpa using hx)
        refine ⟨by rw [down_succ, stL_shift]; exact h4, ?_⟩
        simpa using h5

theorem stL_n (its : List It) (st : St) : ∀ (n : Nat), n ≤ its.length → ∀ i it, its[i]? = some it → i < n → (stL its st (down i)).n + it.res.dn + 1 ≤ (stL its st (down n)).n
  | 0, _, i, it, _, hlt => by omega
  | n + 1, hn, i, it, hi, hlt => by
    have hnn : ∃ y, its[n]? = some y := ⟨its[n]'(by omega), by simp⟩
    obtain ⟨y, hy⟩ := hnn
    have e : (stL its st (down (n + 1))).n = (stL its st (down n)).n + y.res.dn + 1 := by
      simp only [down, stL, hy, app_n]
    rcases Nat.lt_or_ge i n with h | h
    · have := stL_n its st n (by omega) i it hi h
      omega
    · have : i = n := by omega
      subst this
      rw [hi] at hy; cases hy
      omega

theorem stL_n0 (its : List It) (st : St) : ∀ l, st.n ≤ (stL its st l).n
  | [] => Nat.le_refl _
  | i :: l => by
    simp only [stL]
    split
    · rw [app_n]; have := stL_n0 its st l; omega
    · exact stL_n0 its st l

theorem apartN_no {l m : List Nat} (h : apartN l m = true) {x : Nat} (hx : x ∈ l) (hm : x ∈ m) : False := by
  induction l with
  | nil => cases hx
  | cons a t ih =>
    simp only [apartN, Bool.and_eq_true, Bool.not_eq_true'] at h
    rcases List.mem_cons.1 hx with rfl | hx
    · have := (memN_iff _ _).2 hm
      rw [h.1] at this; cases this
    · exact ih h.2 hx

theorem indep_get : ∀ (fs : List Fp), indep fs.reverse = true → ∀ (i j : Nat) (x y : Fp), fs[i]? = some x → fs[j]? = some y → i < j → i ∈ y.pre ∨ x.apart y = true := by
  have one : ∀ (y : Fp) (t : List Fp), indep1 y t 0 = true → ∀ (k : Nat) (x : Fp), t[k]? = some x → (t.length - 1 - k) ∈ y.pre ∨ x.apart y = true := by
    intro y t
    induction t with
    | nil => intro _ k x h; simp at h
    | cons a t ih =>
      intro h k x hx
      simp only [indep1, Bool.and_eq_true, Bool.or_eq_true] at h
      cases k with
      | zero =>
        simp at hx; subst hx
        rcases h.1 with h1 | h1
        · exact .inl (by have := (memN_iff _ _).1 h1; simpa using this)
        · exact .inr h1
      | succ k =>
        have := ih h.2 k x (by simpa using hx)
        rcases this with h1 | h1
        · left
          have e : (a :: t).length - 1 - (k + 1) = t.length - 1 - k := by simp; omega
          rw [e]; exact h1
        · exact .inr h1
  have key : ∀ (r : List Fp), indep r = true → ∀ (k q : Nat) (x y : Fp), r[k]? = some x → r[q]? = some y → q < k → (r.length - 1 - k) ∈ y.pre ∨ x.apart y = true := by
    intro r
    induction r with
    | nil => intro _ k q x y h; simp at h
    | cons a t ih =>
      intro h k q x y hk hq hlt
      simp only [indep, Bool.and_eq_true] at h
      obtain ⟨k, rfl⟩ : ∃ k', k = k' + 1 := ⟨k - 1, by omega⟩
      have e : (a :: t).length - 1 - (k + 1) = t.length - 1 - k := by simp; omega
      rw [e]
      cases q with
      | zero =>
        simp at hq; subst hq
        exact one a t h.1 k x (by simpa using hk)
      | succ q => exact ih h.2 k q x y (by simpa using hk) (by simpa using hq) (by omega)
  intro fs h i j x y hi hj hlt
  have hil := (List.getElem?_eq_some_iff.1 hi).1
  have hjl := (List.getElem?_eq_some_iff.1 hj).1
  have hi' : fs.reverse[fs.length - 1 - i]? = some x := by rw [List.getElem?_reverse (by omega)]; rw [show fs.length - 1 - (fs.length - 1 - i) = i by omega]; exact hi
  have hj' : fs.reverse[fs.length - 1 - j]? = some y := by rw [List.getElem?_reverse (by omega)]; rw [show fs.length - 1 - (fs.length - 1 - j) = j by omega]; exact hj
  have := key fs.reverse h _ _ x y hi' hj' (by omega)
  rw [List.length_reverse, show fs.length - 1 - (fs.length - 1 - i) = i by omega] at this
  exact this

structure RD (w0 : World) (M : Nat → Prop) (H0 : Emb) (its : List It) (st : St) (L : List Nat) (E : Emb) (a : Act) (w : World) : Prop where
  env : EnvOK E (stL its st L).env a.tmps
  wr : WR w0 M E (stL its st L).aw (stL its st (down its.length)).n w
  used : ∀ i x, E.ρ i = some x → i < st.n ∨ ∃ k it, k ∈ L ∧ its[k]? = some it ∧ (stL its st (down k)).n ≤ i ∧ i < (stL its st (down k)).n + it.res.dn + 1
  hle : EmbLe H0 E
  hnew : ∀ b o, E.H b = some o → H0.H b = some o ∨ w0.heap.size ≤ b ∨ M b
  sz : a.tmps.size = st.sz
  dfs : a.defers = []

variable {w0 : World} {M : Nat → Prop} {H0 : Emb} {its : List It} {st : St} {L : List Nat} {E E' : Emb} {a : Act} {w w' : World}

theorem RD.free (h : RD w0 M H0 its st L E a w) {j : Nat} {it : It} (hj : its[j]? = some it) (hn : j ∉ L) : ∀ i, (stL its st (down j)).n ≤ i → i < (stL its st (down j)).n + it.res.dn + 1 → E.ρ i = none := by
  intro i h1 h2
  cases hx : E.ρ i with
  | none => rfl
  | some x =>
    rcases h.used i x hx with h3 | ⟨k, y, hk, hy, h4, h5⟩
    · have := stL_n0 its st (down j); omega
    · have hjl := (List.getElem?_eq_some_iff.1 hj).1
      have hkl := (List.getElem?_eq_some_iff.1 hy).1
      rcases Nat.lt_trichotomy j k with hlt | rfl | hlt
      · have := stL_n its st k (by omega) j it hj hlt; omega
      · exact absurd hk hn
      · have := stL_n its st j (by omega) k y hy hlt; omega

theorem RD.step (h : RD w0 M H0 its st L E a w) {j : Nat} {it : It} (hj : its[j]? = some it) (hn : j ∉ L) (hd : dstOk st it.o.dst = true) {v : Value}
    (hD : Did (stL its st L).aw E (stL its st (down j)).n w it.res E' w' v) : RD w0 M H0 its st (j :: L) E' (a.put it.o.dst v) w' := by
  have hjl := (List.getElem?_eq_some_iff.1 hj).1
  have hN := stL_n its st its.length (Nat.le_refl _) j it hj hjl
  have hW' : WR w0 M E (stL its st L).aw (stL its st (down j)).n w := ⟨h.wr.blk, h.wr.ro, h.wr.inj, h.wr.dom, h.wr.own, h.free hj hn _ (Nat.le_refl _) (by omega), h.wr.frame⟩
  have e : stL its st (j :: L) = (stL its st L).app it.o.dst it.res := by simp only [stL, hj]
  refine ⟨?_, ?_, ?_, h.hle.trans hD.le, ?_, ?_, ?_⟩
  · rw [e]
    cases hdst : it.o.dst with
    | none => exact h.env.mono hD.le
    | some d =>
      rw [hdst] at hd
      have hd' : d < a.tmps.size := by rw [h.sz]; simpa [dstOk] using hd
      exact h.env.put hD.le hd' hD.val
  · rw [e, app_aw]
    refine hW'.app hD ?_
    cases hx : E'.ρ (stL its st (down its.length)).n with
    | none => rfl
    | some x =>
      rcases hD.new _ x hx with h1 | ⟨h1, h2, _⟩
      · rw [h.wr.none_n] at h1; cases h1
      · omega
  · intro i x hx
    rcases hD.new i x hx with h1 | ⟨h1, h2, _⟩
    · rcases h.used i x h1 with h3 | ⟨k, y, hk, hy, h4⟩
      · exact .inl h3
      · exact .inr ⟨k, y, List.mem_cons_of_mem _ hk, hy, h4⟩
    · exact .inr ⟨j, it, List.mem_cons_self, hj, h1, by omega⟩
  · intro b o hb
    rcases hD.h b o hb with h1 | ⟨_, h1 | ⟨i, y, h1, _⟩⟩
    · exact h.hnew b o h1
    · exact .inr (.inl (Nat.le_trans h.wr.frame.size h1))
    · exact .inr (h.wr.dom i b h1).2
  · rw [← h.sz]; cases it.o.dst <;> simp [Act.put]
  · cases it.o.dst <;> exact h.dfs

theorem evs_congr {s t : St} : ∀ (l : List Operand), (∀ x ∈ tmpsOf l, look t.env x = look s.env x) → evs t l = evs s l
  | [], _ => rfl
  | x :: r, h => by
    have hx : t.ev x = s.ev x := by
      cases x with
      | tmp q => exact h q (by simp [tmpsOf])
      | _ => rfl
    have hr : evs t r = evs s r := evs_congr r (fun y hy => h y (by cases x <;> simp [tmpsOf, hy]))
    simp only [evs, hx, hr]

theorem blks_congr {aw aw' : List (Nat × Blk)} : ∀ (l : List Nat), (∀ i ∈ l, look aw' i = look aw i) → blks aw' l = blks aw l
  | [], _ => rfl
  | i :: r, h => by
    simp only [blks, h i List.mem_cons_self, blks_congr r (fun j hj => h j (List.mem_cons_of_mem _ hj))]

/-- One operation of a region, in whatever order it comes. -/
theorem it_step (hTT : TabOK P tt) {Q : Exit → Act → World → Prop} {acc : List Fp} {it : It} {j : Nat} (hj : its[j]? = some it) (hst : it.st = stL its st (down j)) (hok : ItOK P tt ops acc it) (hops : ops[j]? = some it.o)
    (h : RD w0 M H0 its st L E a w) (hn : j ∉ L) (henv : ∀ t ∈ it.fp.uses, look (stL its st L).env t = look it.st.env t) (haw : ∀ b ∈ it.fp.acc, look (stL its st L).aw b = look it.st.aw b)
    {K : Act → World → Prop} (hK : ∀ E' a' w', RD w0 M H0 its st (j :: L) E' a' w' → K a' w') : wpOp P ops.toArray Q j K a w := by
  have hop : ops.toArray[j]? = some it.o := by simpa using hops
  have hW' : WR w0 M E (stL its st L).aw it.st.n w := by
    rw [hst]
    exact ⟨h.wr.blk, h.wr.ro, h.wr.inj, h.wr.dom, h.wr.own, h.free hj hn _ (Nat.le_refl _) (by omega), h.wr.frame⟩
  have hsz : ∀ d, dstOk it.st d = true → dstOk st d = true := by
    intro d hd
    rw [hst] at hd
    cases d with
    | none => rfl
    | some d => simpa only [dstOk, stL_sz] using hd
  have run : RunOK P tt ops acc it → it.o.wp P a w K Q := by
    intro hr
    cases hr with
    | call f args g caps vs ac hc hf hvs hd ok hfp =>
      rw [hfp] at henv haw
      obtain ⟨ts, ho⟩ := isCall_eq hc
      have hfv : (stL its st L).ev f = it.st.ev f := by
        cases f with
        | tmp q => exact henv q (by simp [tmpsOf])
        | _ => rfl
      have hargs : evs (stL its st L) args = some vs := by
        rw [evs_congr args (s := it.st) (fun x hx => henv x (by cases f <;> simp [tmpsOf, hx]))]; exact hvs
      rw [hf] at hfv
      have hfr := ev_rep h.env hfv
      simp only [repV] at hfr
      obtain ⟨cs, hfe, hcs⟩ := hfr
      have hav := evs_rep h.env args vs hargs
      obtain ⟨hent, ok⟩ := ok
      unfold Oper.wp
      rw [exec_call ho hfe hent]
      simp only [Oper.upon]
      refine (ok (stL its st L).aw (fun i hi => haw i ((memN_iff _ _).1 hi)) w0 M E w _ hW' (fun i h1 h2 => ?_) ?_).mono ?_
      · rw [hst] at h1 h2
        exact h.free hj hn i h1 (by omega)
      · have := repVs_append hav hcs
        simpa using this
      · rintro e w' ⟨v, E', rfl, hD⟩
        rw [hst] at hD
        exact hK _ _ _ (h.step hj hn (hsz _ hd) hD)
    | exec vs bs hc hvs hbs hr hd hs hfp =>
      rw [hfp] at henv haw
      have hvs' : evs (stL its st L) it.o.op.operands.toList = some vs := by
        rw [evs_congr _ (s := it.st) (fun x hx => henv x (by simp [hx]))]; exact hvs
      have hbs' : blks (stL its st L).aw (accOf it.o.op vs) = some bs := by
        rw [blks_congr _ (aw := it.st.aw) haw]; exact hbs
      obtain ⟨E', w', v, hrun, hD⟩ := op_okS hTT hW' (evs_rep h.env _ _ hvs') hbs' hr
      rw [hst] at hD
      have hnext := hK _ _ _ (h.step hj hn (hsz _ hd) hD)
      unfold Oper.wp
      rcases hrun with hrun | ⟨hrun, rfl⟩
      · rw [hrun]; exact hnext
      · rw [hrun]; exact hnext
  unfold wpOp
  simp only [hop]
  cases hok with
  | plain hg hr =>
    rw [if_pos (by simp [Region.wanted, hg])]
    exact .inl (run hr)
  | taken q want g d hg hq hd hl hr =>
    have hu : look (stL its st L).env d = some (.d (.bool want)) := by
      rw [henv d, hl]
      cases hr with
      | call f args g' caps vs ac hc hf hvs hd' ok hfp => rw [hfp, hg]; simp [guseOf, hq, hd, optL]
      | exec vs bs hc hvs hbs hr hd' hs hfp => rw [hfp, hg]; simp [guseOf, hq, hd, optL]
    obtain ⟨u, h1, h2⟩ := h.env d _ hu
    simp only [repV, repD] at h2
    subst h2
    have hq' : ops.toArray[q]? = some g := by simpa using hq
    rw [if_pos (by simp [Region.wanted, hg, yielded, hq', hd, h1])]
    exact .inl (run hr)
  | skipped q want g d v hg hq hd hl hv hd' hres hfp =>
    have hu : look (stL its st L).env d = some v := by
      rw [henv d, hl]
      rw [hfp, hg]; simp [guseOf, hq, hd, optL]
    obtain ⟨u, h1, h2⟩ := h.env d _ hu
    have hq' : ops.toArray[q]? = some g := by simpa using hq
    have hskip : RD w0 M H0 its st (j :: L) E (a.put it.o.dst undef) w := by
      refine h.step hj hn (hsz _ hd') (v := undef) ?_
      rw [hres, ← hst]
      exact Did.same hW' rfl (undef_rep E)
    rcases hv with rfl | rfl
    · simp only [repV, repD] at h2
      subst h2
      rw [if_neg (by simp [Region.wanted, hg, yielded, hq', hd, h1])]
      exact hK _ _ _ hskip
    · simp only [repV, repVs] at h2
      obtain ⟨cs, rfl, _⟩ := h2
      rw [if_neg (by simp [Region.wanted, hg, yielded, hq', hd, h1])]
      exact hK _ _ _ hskip
end
end Go.AX

namespace Go.AX
set_option autoImplicit false
set_option linter.unusedVariables false

section
variable {P : Program} {tt : TT} {ops : List Oper} {w0 : World} {M : Nat → Prop} {H0 : Emb} {its : List It} {st stF : St} {L : List Nat} {E E' : Emb} {a : Act} {w w' : World}

def preOf (its : List It) (i : Nat) : List Nat :=
  match its[i]? with
  | some it => it.fp.pre
  | none => []

theorem fp_facts {acc : List Fp} {it : It} (h : ItOK P tt ops acc it) : it.fp.dst = it.o.dst ∧ it.fp.wr = keys it.res.wr ∧ it.fp.pre = preds acc it.o.after.toList := by
  have run : RunOK P tt ops acc it → it.fp.dst = it.o.dst ∧ it.fp.wr = keys it.res.wr ∧ it.fp.pre = preds acc it.o.after.toList := by
    intro h
    cases h with
    | call f args g caps vs ac hc hf hvs hd ok hfp => rw [hfp]; exact ⟨rfl, rfl, rfl⟩
    | exec vs bs hc hvs hbs hr hd hs hfp => rw [hfp]; exact ⟨rfl, rfl, rfl⟩
  cases h with
  | plain hg h => exact run h
  | taken j want g d hg hj hd hl h => exact run h
  | skipped j want g d v hg hj hd hl hv hd' hr hfp => rw [hfp, hr]; exact ⟨rfl, rfl, rfl⟩

theorem key_of_look {α : Type} : ∀ {l : List (Nat × α)} {b : Nat}, (look l b).isSome = true → b ∈ keys l
  | [], b, h => by cases h
  | (x, y) :: t, b, h => by
    rw [look_cons] at h
    simp only [keys, List.mem_cons]
    split at h
    · rename_i e; exact .inl e.symm
    · exact .inr (key_of_look h)

/-- What is known of a region's operations. -/
structure Reg (P : Program) (tt : TT) (ops : List Oper) (its : List It) (st : St) : Prop where
  os : its.map (·.o) = ops
  get : ∀ i it, its[i]? = some it → it.st = stL its st (down i) ∧ ItOK P tt ops (((its.take i).map (·.fp)).reverse) it
  ind : indep (its.map (·.fp)).reverse = true
  back : backs ops 0 = true

theorem backs_get : ∀ (l : List Oper) (n i : Nat) (o : Oper), backs l n = true → l[i]? = some o → backE o.after.toList (n + i) = true
  | [], n, i, o, _, h => by simp at h
  | x :: t, n, i, o, hb, h => by
    simp only [backs, Bool.and_eq_true] at hb
    cases i with
    | zero => simp at h; subst h; exact hb.1
    | succ i =>
      have := backs_get t (Nat.succ n) i o hb.2 (by simpa using h)
      rwa [show Nat.succ n + i = n + (i + 1) by omega] at this

theorem backE_mem : ∀ (l : List Edge) (n : Nat), backE l n = true → ∀ e ∈ l, Region.binds .any e = true → e.on < n
  | [], n, _, e, h => by cases h
  | x :: t, n, hb, e, h => by
    simp only [backE, Bool.and_eq_true] at hb
    rcases List.mem_cons.1 h with rfl | h
    · intro hbi
      have := hb.1
      rw [hbi] at this
      simpa using this
    · exact backE_mem t n hb.2 e h

theorem mem_preds {acc : List Fp} : ∀ {l : List Edge} {p : Nat}, p ∈ preds acc l → ∃ e ∈ l, Region.binds .any e = true ∧ (p = e.on ∨ ∃ f, e.on < acc.length ∧ acc[acc.length - e.on - 1]? = some f ∧ p ∈ f.pre)
  | [], p, h => by cases h
  | e :: t, p, h => by
    simp only [preds, cond_eq_ite] at h
    split at h
    · rename_i hb
      rcases List.mem_cons.1 h with rfl | h
      · exact ⟨e, List.mem_cons_self, hb, .inl rfl⟩
      · rcases List.mem_append.1 h with h | h
        · split at h
          · rename_i hlt
            split at h
            · rename_i f hf
              exact ⟨e, List.mem_cons_self, hb, .inr ⟨f, by simpa using hlt, hf, h⟩⟩
            · cases h
          · cases h
        · obtain ⟨e', he', h1⟩ := mem_preds h
          exact ⟨e', List.mem_cons_of_mem _ he', h1⟩
    · obtain ⟨e', he', h1⟩ := mem_preds h
      exact ⟨e', List.mem_cons_of_mem _ he', h1⟩

theorem Reg.op (h : Reg P tt ops its st) {i : Nat} {it : It} (hi : its[i]? = some it) : ops[i]? = some it.o := by
  rw [← h.os]; simp [hi]

theorem Reg.len (h : Reg P tt ops its st) : its.length = ops.length := by rw [← h.os]; simp

/-- What one waits for: its edges, and what these wait for. -/
theorem Reg.pre_mem (h : Reg P tt ops its st) {i p : Nat} (hp : p ∈ preOf its i) : ∃ it, its[i]? = some it ∧ ∃ e ∈ it.o.after.toList, Region.binds .any e = true ∧ e.on < i ∧ (p = e.on ∨ p ∈ preOf its e.on) := by
  unfold preOf at hp
  split at hp
  · rename_i it hi
    obtain ⟨_, hok⟩ := h.get i it hi
    rw [(fp_facts hok).2.2] at hp
    obtain ⟨e, he, hb, h1⟩ := mem_preds hp
    have hlt := backE_mem _ _ (backs_get ops 0 i it.o h.back (h.op hi)) e he hb
    rw [Nat.zero_add] at hlt
    refine ⟨it, hi, e, he, hb, hlt, h1.imp id ?_⟩
    rintro ⟨f, h2, h3, h4⟩
    have hil := (List.getElem?_eq_some_iff.1 hi).1
    have hlen : (((its.take i).map (·.fp)).reverse).length = i := by simp; omega
    rw [hlen] at h3
    rw [List.getElem?_reverse (by simp; omega)] at h3
    simp only [List.length_map, List.length_take, Nat.min_eq_left (Nat.le_of_lt hil)] at h3
    rw [show i - 1 - (i - e.on - 1) = e.on by omega, List.getElem?_map, List.getElem?_take, if_pos hlt] at h3
    simp only [Option.map_eq_some_iff] at h3
    obtain ⟨y, hy, rfl⟩ := h3
    simp only [preOf, hy]
    exact h4
  · cases hp

theorem Reg.pre_lt (h : Reg P tt ops its st) : ∀ (i p : Nat), p ∈ preOf its i → p < i := by
  intro i
  induction i using Nat.strongRecOn with
  | _ i ih =>
    intro p hp
    obtain ⟨it, hi, e, he, hb, hlt, h1⟩ := h.pre_mem hp
    rcases h1 with rfl | h1
    · exact hlt
    · have := ih _ hlt p h1; omega

theorem Reg.good_down (h : Reg P tt ops its st) : ∀ n, Good (preOf its) (down n)
  | 0 => .nil
  | n + 1 => .cons n _ (by rw [mem_down]; omega) (fun p hp => by rw [mem_down]; exact h.pre_lt n p hp) (h.good_down n)

theorem Reg.ind_get (h : Reg P tt ops its st) {i j : Nat} {x y : It} (hi : its[i]? = some x) (hj : its[j]? = some y) (hlt : i < j) : i ∈ preOf its j ∨ x.fp.apart y.fp = true := by
  have := indep_get (its.map (·.fp)) h.ind i j x.fp y.fp (by simp [hi]) (by simp [hj]) hlt
  simpa [preOf, hj] using this

theorem wE_some {i t : Nat} (h : (wE its i t).isSome = true) : ∃ it, its[i]? = some it ∧ it.o.dst = some t := by
  unfold wE at h
  split at h
  · rename_i it hi
    split at h
    · exact ⟨it, hi, by assumption⟩
    · cases h
  · cases h

theorem wA_some {i b : Nat} (h : (wA its i b).isSome = true) : ∃ it, its[i]? = some it ∧ b ∈ keys it.res.wr := by
  unfold wA at h
  split at h
  · rename_i it hi
    exact ⟨it, hi, key_of_look h⟩
  · cases h

/-- What an operation looks at is, whatever was done before, what it is in the text's order. -/
theorem Reg.agree (h : Reg P tt ops its st) (g : Good (preOf its) L) {i : Nat} {it : It} (hi : its[i]? = some it) (hn : i ∉ L) (hp : ∀ p ∈ preOf its i, p ∈ L) :
    (∀ t ∈ it.fp.uses, look (stL its st L).env t = look it.st.env t) ∧ (∀ b ∈ it.fp.acc, look (stL its st L).aw b = look it.st.aw b) := by
  obtain ⟨hst, _⟩ := h.get i it hi
  constructor
  · intro t ht
    rw [hst, stL_env, stL_env]
    refine lookF_eq g (h.good_down i) (fun k hk => ?_) (fun k q hk hq hlt => ?_)
    · obtain ⟨y, hy, hd⟩ := wE_some hk
      have hfd := (fp_facts (h.get k y hy).2).1
      rw [mem_down]
      constructor
      · intro hkL
        rcases Nat.lt_trichotomy k i with h1 | rfl | h1
        · exact h1
        · exact absurd hkL hn
        · rcases h.ind_get hi hy h1 with h2 | h2
          · exact absurd (g.sub k hkL i h2) hn
          · simp only [Fp.apart, Bool.and_eq_true] at h2
            exact (apartN_no h2.1.1.1.1.2 (x := t) (by rw [hfd, hd]; simp [optL]) ht).elim
      · intro hlt
        rcases h.ind_get hy hi hlt with h2 | h2
        · exact hp k h2
        · simp only [Fp.apart, Bool.and_eq_true] at h2
          exact (apartN_no h2.1.1.1.1.1 (x := t) (by rw [hfd, hd]; simp [optL]) ht).elim
    · obtain ⟨y, hy, hd⟩ := wE_some hk
      obtain ⟨z, hz, hd2⟩ := wE_some hq
      have hfd := (fp_facts (h.get k y hy).2).1
      have hfd2 := (fp_facts (h.get q z hz).2).1
      rcases h.ind_get hy hz hlt with h2 | h2
      · exact h2
      · simp only [Fp.apart, Bool.and_eq_true] at h2
        exact (apartN_no h2.1.1.1.2 (x := t) (by rw [hfd, hd]; simp [optL]) (by rw [hfd2, hd2]; simp [optL])).elim
  · intro b hb
    rw [hst, stL_aw, stL_aw]
    refine lookF_eq g (h.good_down i) (fun k hk => ?_) (fun k q hk hq hlt => ?_)
    · obtain ⟨y, hy, hd⟩ := wA_some hk
      have hfw := (fp_facts (h.get k y hy).2).2.1
      rw [mem_down]
      constructor
      · intro hkL
        rcases Nat.lt_trichotomy k i with h1 | rfl | h1
        · exact h1
        · exact absurd hkL hn
        · rcases h.ind_get hi hy h1 with h2 | h2
          · exact absurd (g.sub k hkL i h2) hn
          · simp only [Fp.apart, Bool.and_eq_true] at h2
            exact (apartN_no h2.1.2 (x := b) (by rw [hfw]; exact hd) hb).elim
      · intro hlt
        rcases h.ind_get hy hi hlt with h2 | h2
        · exact hp k h2
        · simp only [Fp.apart, Bool.and_eq_true] at h2
          exact (apartN_no h2.1.1.2 (x := b) (by rw [hfw]; exact hd) hb).elim
    · obtain ⟨y, hy, hd⟩ := wA_some hk
      obtain ⟨z, hz, hd2⟩ := wA_some hq
      have hfw := (fp_facts (h.get k y hy).2).2.1
      have hfw2 := (fp_facts (h.get q z hz).2).2.1
      rcases h.ind_get hy hz hlt with h2 | h2
      · exact h2
      · simp only [Fp.apart, Bool.and_eq_true] at h2
        exact (apartN_no h2.2 (x := b) (by rw [hfw]; exact hd) (by rw [hfw2]; exact hd2)).elim

/-- All done: the state is the text's last one. -/
theorem Reg.all (h : Reg P tt ops its st) (g : Good (preOf its) L) (hall : ∀ i, i < its.length → i ∈ L) (hL : ∀ i ∈ L, i < its.length) (hR : RD w0 M H0 its st L E a w) :
    R w0 M H0 E (stL its st (down its.length)) a w := by
  have iff : ∀ i, i ∈ L ↔ i ∈ down its.length := fun i => by rw [mem_down]; exact ⟨hL i, hall i⟩
  have henv : ∀ t, look (stL its st L).env t = look (stL its st (down its.length)).env t := by
    intro t
    rw [stL_env, stL_env]
    refine lookF_eq g (h.good_down _) (fun k _ => iff k) (fun k q hk hq hlt => ?_)
    obtain ⟨y, hy, hd⟩ := wE_some hk
    obtain ⟨z, hz, hd2⟩ := wE_some hq
    have hfd := (fp_facts (h.get k y hy).2).1
    have hfd2 := (fp_facts (h.get q z hz).2).1
    rcases h.ind_get hy hz hlt with h2 | h2
    · exact h2
    · simp only [Fp.apart, Bool.and_eq_true] at h2
      exact (apartN_no h2.1.1.1.2 (x := t) (by rw [hfd, hd]; simp [optL]) (by rw [hfd2, hd2]; simp [optL])).elim
  have haw : ∀ b, look (stL its st L).aw b = look (stL its st (down its.length)).aw b := by
    intro b
    rw [stL_aw, stL_aw]
    refine lookF_eq g (h.good_down _) (fun k _ => iff k) (fun k q hk hq hlt => ?_)
    obtain ⟨y, hy, hd⟩ := wA_some hk
    obtain ⟨z, hz, hd2⟩ := wA_some hq
    have hfw := (fp_facts (h.get k y hy).2).2.1
    have hfw2 := (fp_facts (h.get q z hz).2).2.1
    rcases h.ind_get hy hz hlt with h2 | h2
    · exact h2
    · simp only [Fp.apart, Bool.and_eq_true] at h2
      exact (apartN_no h2.2 (x := b) (by rw [hfw]; exact hd) (by rw [hfw2]; exact hd2)).elim
  refine ⟨fun t v hv => hR.env t v (by rw [henv]; exact hv), ⟨fun i b hb => hR.wr.blk i b (by rw [haw]; exact hb), hR.wr.ro, fun i j b x y h1 h2 h3 h4 => hR.wr.inj i j b x y (by rw [haw]; exact h1) h2 (by rw [haw]; exact h3) h4, hR.wr.dom, fun i y b h1 h2 h3 => hR.wr.own i y b (by rw [haw]; exact h1) h2 h3, hR.wr.none_n, hR.wr.frame⟩, ?_, hR.hle, hR.hnew, ?_, hR.dfs⟩
  · intro i x hx
    rcases hR.used i x hx with h1 | ⟨k, it, hk, hit, h2, h3⟩
    · have := stL_n0 its st (down its.length); omega
    · have := stL_n its st its.length (Nat.le_refl _) k it hit (List.getElem?_eq_some_iff.1 hit).1
      omega
  · rw [stL_sz]; exact hR.sz

theorem nodup_le : ∀ (N : Nat) (l : List Nat), l.Nodup → (∀ i ∈ l, i < N) → l.length ≤ N
  | 0, [], _, _ => Nat.le_refl _
  | 0, x :: t, _, h => absurd (h x List.mem_cons_self) (Nat.not_lt_zero _)
  | N + 1, l, hd, h => by
    have h1 : (l.erase N).length ≤ N := nodup_le N (l.erase N) (hd.erase N) (fun i hi => by
      have h2 := (hd.mem_erase_iff).1 hi
      have := h i h2.2
      omega)
    have h3 := List.length_erase (a := N) (l := l)
    split at h3 <;> omega

theorem Good.nodup {pre : Nat → List Nat} {l : List Nat} (g : Good pre l) : l.Nodup := by
  induction g with
  | nil => exact List.nodup_nil
  | cons i l h hp g ih => exact List.nodup_cons.2 ⟨h, ih⟩

theorem Reg.any (hTT : TabOK P tt) {Q : Exit → Act → World → Prop} {opa : Array Oper} (hopa : opa.toList = ops) (h : Reg P tt ops its st)
    (hQ : ∀ E a w, R w0 M H0 E (stL its st (down its.length)) a w → Q .normal a w) :
    ∀ (fuel : Nat) (L : List Nat) (listed : Array Bool) (E : Emb) (a : Act) (w : World), listed.size = its.length → (∀ i, i < its.length → listed[i]? = some (decide (i ∈ L))) → L.length + fuel = its.length → (∀ i ∈ L, i < its.length) → Good (preOf its) L →
      RD w0 M H0 its st L E a w → wpAny P .any opa Q fuel listed a w := by
  have hsz : opa.size = its.length := by rw [h.len, ← hopa]; simp
  have hget : ∀ i, opa[i]? = ops[i]? := fun i => by rw [← hopa, Array.getElem?_toList]
  -- all is done where nothing is ready
  have done : ∀ (L : List Nat) (listed : Array Bool), (∀ i, i < its.length → listed[i]? = some (decide (i ∈ L))) → Region.ready .any opa listed = [] → ∀ i, i < its.length → i ∈ L := by
    intro L listed hl hr i
    induction i using Nat.strongRecOn with
    | _ i ih =>
      intro hi
      obtain ⟨it, hit⟩ : ∃ it, its[i]? = some it := ⟨its[i], by simp [hi]⟩
      cases hd : decide (i ∈ L) with
      | true => exact of_decide_eq_true hd
      | false =>
        have : i ∈ Region.ready .any opa listed := by
          unfold Region.ready
          rw [List.mem_filter]
          refine ⟨by rw [List.mem_range, hsz]; exact hi, ?_⟩
          have h1 : listed.getD i true = false := by simp [Array.getD_eq_getD_getElem?, hl i hi, hd]
          rw [h1, hget i, h.op hit]
          simp only [Bool.not_false, Bool.true_and, Option.map_some, Option.getD_some]
          rw [Array.all_eq_true_iff_forall_mem]
          intro e he
          cases hbi : Region.binds .any e with
          | false => simp
          | true =>
          have hlt := backE_mem _ _ (backs_get ops 0 i it.o h.back (h.op hit)) e (by simpa using he) hbi
          rw [Nat.zero_add] at hlt
          have hin := ih e.on hlt (by omega)
          have : listed.getD e.on false = true := by simp [Array.getD_eq_getD_getElem?, hl e.on (by omega), hin]
          simp [this]
        rw [hr] at this; cases this
  have fin : ∀ (L : List Nat) (listed : Array Bool) (E : Emb) (a : Act) (w : World), (∀ i, i < its.length → listed[i]? = some (decide (i ∈ L))) → (∀ i ∈ L, i < its.length) → Good (preOf its) L → RD w0 M H0 its st L E a w → Region.ready .any opa listed = [] → Q .normal a w :=
    fun L listed E a w hl hL g hR hr => hQ E a w (h.all g (done L listed hl hr) hL hR)
  intro fuel
  induction fuel with
  | zero =>
    intro L listed E a w hls hl hlen hL g hR
    have hall : ∀ i, i < its.length → i ∈ L := by
      intro i hi
      cases hd : decide (i ∈ L) with
      | true => exact of_decide_eq_true hd
      | false =>
        have h1 : (i :: L).Nodup := List.nodup_cons.2 ⟨of_decide_eq_false hd, g.nodup⟩
        have := nodup_le its.length (i :: L) h1 (fun j hj => by
          rcases List.mem_cons.1 hj with rfl | hj
          · exact hi
          · exact hL j hj)
        simp only [List.length_cons] at this
        omega
    have hr : Region.ready .any opa listed = [] := by
      unfold Region.ready
      rw [List.filter_eq_nil_iff]
      intro i hi
      rw [List.mem_range, hsz] at hi
      simp [Array.getD_eq_getD_getElem?, hl i hi, hall i hi]
    simp only [wpAny]
    exact ⟨hr, fin L listed E a w hl hL g hR hr⟩
  | succ fuel ih =>
    intro L listed E a w hls hl hlen hL g hR
    simp only [wpAny]
    refine ⟨fin L listed E a w hl hL g hR, fun i hi => ?_⟩
    unfold Region.ready at hi
    rw [List.mem_filter, List.mem_range, hsz] at hi
    obtain ⟨hilt, hi⟩ := hi
    obtain ⟨it, hit⟩ : ∃ it, its[i]? = some it := ⟨its[i], by simp [hilt]⟩
    rw [hget i, h.op hit] at hi
    simp only [Bool.and_eq_true, Bool.not_eq_true', Option.map_some, Option.getD_some] at hi
    obtain ⟨h1, h2⟩ := hi
    have hn : i ∉ L := by
      intro hin
      simp [Array.getD_eq_getD_getElem?, hl i hilt, hin] at h1
    have hp : ∀ p ∈ preOf its i, p ∈ L := by
      intro p hp
      obtain ⟨it', hit', e, he, hb, hlt, h3⟩ := h.pre_mem hp
      rw [hit] at hit'; cases hit'
      rw [Array.all_eq_true_iff_forall_mem] at h2
      have h4 := h2 e (by simpa using he)
      simp only [hb, Bool.not_true, Bool.false_or] at h4
      have hon : e.on ∈ L := by
        simpa [Array.getD_eq_getD_getElem?, hl e.on (by omega)] using h4
      rcases h3 with rfl | h3
      · exact hon
      · exact g.sub _ hon p h3
    obtain ⟨ag1, ag2⟩ := h.agree g hit hn hp
    obtain ⟨hst, hok⟩ := h.get i it hit
    have hopa' : opa = ops.toArray := by rw [← hopa]
    rw [hopa']
    refine it_step hTT hit hst hok (h.op hit) hR hn ag1 ag2 (fun E' a' w' hR' => ?_)
    rw [← hopa']
    refine ih (i :: L) _ E' a' w' (by simpa using hls) (fun k hk => ?_) (by simp only [List.length_cons]; omega) (fun k hk => ?_) (.cons i L hn hp g) hR'
    · rw [Array.getElem?_setIfInBounds]
      by_cases e : i = k
      · subst e
        rw [if_pos rfl, if_pos (by omega)]
        simp
      · rw [if_neg e, hl k hk]
        have : (k ∈ i :: L) ↔ k ∈ L := by
          rw [List.mem_cons]
          exact ⟨fun h => h.resolve_left (Ne.symm e), .inr⟩
        simp [this]
    · rcases List.mem_cons.1 hk with rfl | hk
      · exact hilt
      · exact hL k hk

theorem region_draw (hTT : TabOK P tt) (hmix : P.follows .mixedOrders = true) (id : Nat) (opa : Array Oper) (Q : Exit → St → Prop) (st : St) (h : goOps P std tt true opa.toList Q opa.toList [] st)
    (E : Emb) (a : Act) (w : World) (hR : R w0 M H0 E st a w) : (Code.region id opa true).wp P (QR w0 M H0 Q) a w := by
  obtain ⟨its, stF, hc, hi, hq⟩ := chain_of _ _ _ h
  obtain ⟨h1, h2, h3⟩ := chain_get hc
  simp only [List.append_nil, Bool.and_eq_true] at hi
  have hreg : Reg P tt opa.toList its st := ⟨h1, fun i it hit => by simpa using h3 i it hit, hi.1, hi.2⟩
  have hlen := hreg.len
  subst h2
  refine wp_region_any hmix ?_
  have hsz : opa.size = its.length := by rw [hlen]; simp
  rw [hsz]
  refine hreg.any (w0 := w0) (M := M) (H0 := H0) hTT rfl (fun E' a' w' hR' => ⟨E', _, hR', hq⟩) its.length [] _ E a _ (by simp) (fun i hi => by simp [hi]) (by simp) (fun i hi => by cases hi) .nil ?_
  have hn0 := stL_n0 its st (down its.length)
  refine ⟨hR.env, ⟨hR.wr.blk, hR.wr.ro, hR.wr.inj, hR.wr.dom, hR.wr.own, ?_, ⟨hR.wr.frame.os, hR.wr.frame.tape, hR.wr.frame.output, hR.wr.frame.size, hR.wr.frame.block, Nat.le_trans hR.wr.frame.drawn (by first | exact Nat.le_refl _ | exact Nat.le_add_right _ _ | exact Nat.le_succ _)⟩⟩, fun i x hx => .inl (hR.lt i x hx), hR.hle, hR.hnew, hR.sz, hR.dfs⟩
  cases hx : E.ρ (stL its st (down its.length)).n with
  | none => rfl
  | some x => have := hR.lt _ x hx; omega

end
end Go.AX

namespace Go.AX
set_option autoImplicit false
set_option linter.unusedVariables false

inductive PK where
  | bin
  | cmp
  | wrap
  | not
  | and
  | eqb
  | toNat
  | ofNat
  | idx
  | add
  | sub
  | rdI
  | rdB
  | rdC
  | rdN
  | app
  | take
  | drop
  | set
  | rep
  | repL
  | minI
  | maxI
  | selI
  | selB
  | eqN
  | inR
  | leN
  | has
  | nz
  | len
  | mulNat
  | minN
  | over

/-- What each word of arithmetic is. -/
abbrev PT : PK → Type
  | .bin => BinOp → IntKind → Int → Int → Int
  | .cmp => BinOp → Int → Int → Bool
  | .wrap => IntKind → Int → Int
  | .not => Bool → Bool
  | .and => Bool → Bool → Bool
  | .eqb => Bool → Bool → Bool
  | .toNat => Int → Nat
  | .ofNat => Nat → Int
  | .idx => Nat → Nat → Nat → Nat
  | .add => Nat → Nat → Nat
  | .sub => Nat → Nat → Nat
  | .rdI => List D → Nat → Int
  | .rdB => List D → Nat → Bool
  | .rdC => List D → Nat → List D
  | .rdN => List D → Nat → Nat
  | .app => List D → List D → List D
  | .take => List D → Nat → List D
  | .drop => List D → Nat → List D
  | .set => List D → Nat → D → List D
  | .rep => Nat → D → List D
  | .repL => Nat → List D → List D
  | .minI => Int → Int → Int
  | .maxI => Int → Int → Int
  | .selI => Bool → Int → Int → Int
  | .selB => Bool → Bool → Bool → Bool
  | .eqN => Nat → Nat → Bool
  | .inR => Int → Int → Nat → Prop
  | .leN => Nat → Nat → Prop
  | .has => List D → Nat → D → Prop
  | .nz => Int → Prop
  | .len => List D → Nat
  | .mulNat => Nat → Nat → Nat
  | .minN => Nat → Nat → Nat
  | .over => List D → Nat → List D → List D

abbrev PF := (k : PK) → PT k

def mkI (J : PF) : Prims where
  bin := J .bin
  cmp := J .cmp
  wrap := J .wrap
  not := J .not
  and := J .and
  eqb := J .eqb
  toNat := J .toNat
  ofNat := J .ofNat
  idx := J .idx
  add := J .add
  sub := J .sub
  rdI := J .rdI
  rdB := J .rdB
  rdC := J .rdC
  rdN := J .rdN
  app := J .app
  take := J .take
  drop := J .drop
  set := J .set
  rep := J .rep
  repL := J .repL
  minI := J .minI
  maxI := J .maxI
  selI := J .selI
  selB := J .selB
  eqN := J .eqN
  inR := J .inR
  leN := J .leN
  has := J .has
  nz := J .nz
  len := J .len
  mulNat := J .mulNat
  minN := J .minN
  over := J .over

def stdJ : PF
  | .bin => std.bin
  | .cmp => std.cmp
  | .wrap => std.wrap
  | .not => std.not
  | .and => std.and
  | .eqb => std.eqb
  | .toNat => std.toNat
  | .ofNat => std.ofNat
  | .idx => std.idx
  | .add => std.add
  | .sub => std.sub
  | .rdI => std.rdI
  | .rdB => std.rdB
  | .rdC => std.rdC
  | .rdN => std.rdN
  | .app => std.app
  | .take => std.take
  | .drop => std.drop
  | .set => std.set
  | .rep => std.rep
  | .repL => std.repL
  | .minI => std.minI
  | .maxI => std.maxI
  | .selI => std.selI
  | .selB => std.selB
  | .eqN => std.eqN
  | .inR => std.inR
  | .leN => std.leN
  | .has => std.has
  | .nz => std.nz
  | .len => std.len
  | .mulNat => std.mulNat
  | .minN => std.minN
  | .over => std.over

theorem mkI_std {J : PF} (h : J = stdJ) : mkI J = std := by subst h; rfl

section
variable {J : PF} (h : J = stdJ)
include h
theorem j_bin : J .bin = binI := by subst h; rfl
theorem j_cmp : J .cmp = cmpI := by subst h; rfl
theorem j_wrap (k : IntKind) (n : Int) : J .wrap k n = k.wrap n := by subst h; rfl
theorem j_not (a : Bool) : J .not a = !a := by subst h; rfl
theorem j_and (a b : Bool) : J .and a b = (a && b) := by subst h; rfl
theorem j_eqb (a b : Bool) : J .eqb a b = (a == b) := by subst h; rfl
theorem j_toNat (a : Int) : J .toNat a = a.toNat := by subst h; rfl
theorem j_ofNat (a : Nat) : J .ofNat a = Int.ofNat a := by subst h; rfl
theorem j_idx (o i k : Nat) : J .idx o i k = o + i * k := by subst h; rfl
theorem j_add (a b : Nat) : J .add a b = a + b := by subst h; rfl
theorem j_sub (a b : Nat) : J .sub a b = a - b := by subst h; rfl
theorem j_rdI (l : List D) (i : Nat) : J .rdI l i = (l.getD i default).toI := by subst h; rfl
theorem j_rdB (l : List D) (i : Nat) : J .rdB l i = (l.getD i default).toB := by subst h; rfl
theorem j_rdC (l : List D) (i : Nat) : J .rdC l i = (l.getD i default).toC := by subst h; rfl
theorem j_rdN (l : List D) (i : Nat) : J .rdN l i = (l.getD i default).toN := by subst h; rfl
theorem j_app (a b : List D) : J .app a b = a ++ b := by subst h; rfl
theorem j_take (a : List D) (n : Nat) : J .take a n = a.take n := by subst h; rfl
theorem j_drop (a : List D) (n : Nat) : J .drop a n = a.drop n := by subst h; rfl
theorem j_set (a : List D) (n : Nat) (d : D) : J .set a n d = a.set n d := by subst h; rfl
theorem j_rep (n : Nat) (d : D) : J .rep n d = List.replicate n d := by subst h; rfl
theorem j_repL (n : Nat) (d : List D) : J .repL n d = (List.replicate n d).flatten := by subst h; rfl
theorem j_minI (a b : Int) : J .minI a b = if b < a then b else a := by subst h; rfl
theorem j_maxI (a b : Int) : J .maxI a b = if b > a then b else a := by subst h; rfl
theorem j_selI (c : Bool) (a b : Int) : J .selI c a b = if c then a else b := by subst h; rfl
theorem j_selB (c : Bool) (a b : Bool) : J .selB c a b = if c then a else b := by subst h; rfl
theorem j_eqN (a b : Nat) : J .eqN a b = (a == b) := by subst h; rfl
theorem j_inR (lo i : Int) (n : Nat) : J .inR lo i n = (lo ≤ i ∧ i < (n : Int)) := by subst h; rfl
theorem j_leN (a b : Nat) : J .leN a b = (a ≤ b) := by subst h; rfl
theorem j_has (l : List D) (i : Nat) (d : D) : J .has l i d = (l[i]? = some d) := by subst h; rfl
theorem j_nz (a : Int) : J .nz a = (a ≠ 0) := by subst h; rfl
theorem j_len (l : List D) : J .len l = l.length := by subst h; rfl
theorem j_mulNat (a b : Nat) : J .mulNat a b = a * b := by subst h; rfl
end

def ints (l : List Int) : List D := l.map (.int .i64)

theorem ints_len (l : List Int) : (ints l).length = l.length := by simp [ints]
theorem ints_rd (l : List Int) (i : Nat) : ((ints l).getD i default).toI = l.getD i 0 := by
  by_cases h : i < l.length
  · simp [ints, List.getD_eq_getElem?_getD, h, D.toI]
  · simp [ints, List.getD_eq_getElem?_getD, h]; rfl
theorem ints_has (l : List Int) (i : Nat) : ((ints l)[i]? = some (.int .i64 (l.getD i 0))) ↔ i < l.length := by
  by_cases h : i < l.length
  · simp [ints, h]
  · simp [ints, h]
theorem ints_app (a b : List Int) : ints a ++ ints b = ints (a ++ b) := by simp [ints]
theorem ints_take (a : List Int) (n : Nat) : (ints a).take n = ints (a.take n) := by simp [ints, List.map_take]
theorem ints_drop (a : List Int) (n : Nat) : (ints a).drop n = ints (a.drop n) := by simp [ints, List.map_drop]
theorem ints_set (a : List Int) (n : Nat) (x : Int) : (ints a).set n (.int .i64 x) = ints (a.set n x) := by simp [ints, List.map_set]
theorem rd_of {l : List Int} {cs : List D} (h : ints l = cs) (i : Nat) : (cs.getD i default).toI = l.getD i 0 := by subst h; exact ints_rd l i
theorem has_of {l : List Int} {cs : List D} (h : ints l = cs) (i : Nat) : (cs[i]? = some (.int .i64 (l.getD i 0))) = (i < l.length) := by subst h; exact propext (ints_has l i)
theorem len_of {l : List Int} {cs : List D} (h : ints l = cs) : cs.length = l.length := by subst h; exact ints_len l
theorem toNat_of (i : Nat) : (Int.ofNat i).toNat = i := rfl
theorem rd1 {J : PF} (hJ : J = stdJ) {l : List Int} {cs : List D} (h : ints l = cs) (x : Int) : J .rdI cs (J .add (J .idx 0 (J .toNat x) 1) 0) = l.getD x.toNat 0 := by
  rw [j_rdI hJ, j_add hJ, j_idx hJ, j_toNat hJ, rd_of h]; simp
theorem in1 {J : PF} (hJ : J = stdJ) {i n : Nat} (h : i < n) : J .inR 0 (Int.ofNat i) n := by
  rw [j_inR hJ]; exact ⟨Int.natCast_nonneg _, Int.ofNat_lt.2 h⟩
theorem has1 {J : PF} (hJ : J = stdJ) {l : List Int} {cs : List D} (h : ints l = cs) {i : Nat} (hi : i < l.length) : J .has cs (J .add (J .idx 0 (J .toNat (Int.ofNat i)) 1) 0) (.int .i64 (l.getD i 0)) := by
  rw [j_has hJ, j_add hJ, j_idx hJ, j_toNat hJ, toNat_of, Nat.zero_add, Nat.mul_one, Nat.add_zero, has_of h]; exact hi
theorem in1x {J : PF} (hJ : J = stdJ) {x : Int} {n : Nat} (h : 0 ≤ x ∧ x < (n : Int)) : J .inR 0 x n := by
  rw [j_inR hJ]; exact h
theorem has1x {J : PF} (hJ : J = stdJ) {l : List Int} {cs : List D} (h : ints l = cs) {x : Int} {n : Nat} (hn : l.length = n) (hx : 0 ≤ x ∧ x < (n : Int)) : J .has cs (J .add (J .idx 0 (J .toNat x) 1) 0) (.int .i64 (l.getD x.toNat 0)) := by
  rw [j_has hJ, j_add hJ, j_idx hJ, j_toNat hJ, Nat.zero_add, Nat.mul_one, Nat.add_zero, has_of h]; omega
theorem set1 {J : PF} (hJ : J = stdJ) {l : List Int} {cs : List D} (h : ints l = cs) (x v : Int) : J .set cs (J .add (J .idx 0 (J .toNat x) 1) 0) (.int .i64 v) = ints (l.set x.toNat v) := by
  subst h hJ
  show (ints l).set (0 + x.toNat * 1 + 0) _ = _
  rw [Nat.zero_add, Nat.mul_one, Nat.add_zero]
  simp [ints, List.map_set]
theorem le1x {J : PF} (hJ : J = stdJ) {l : List Int} {cs : List D} (h : ints l = cs) {x : Int} {n : Nat} (hn : l.length = n) (hx : 0 ≤ x ∧ x < (n : Int)) : J .leN (J .add (J .idx 0 (J .toNat x) 1) 1) (J .len cs) := by
  subst h hJ
  show 0 + x.toNat * 1 + 1 ≤ (ints l).length
  rw [ints_len]; omega
theorem le3 {J : PF} (hJ : J = stdJ) {i n : Nat} (h : i < n) : J .leN (J .add (J .idx 0 (J .toNat (Int.ofNat i)) 1) 1) n := by
  subst hJ
  show 0 + (Int.ofNat i).toNat * 1 + 1 ≤ n
  rw [toNat_of]; omega
theorem sel1 {J : PF} (hJ : J = stdJ) (s k : Nat) (a b : Int) : J .selI (J .eqN (J .idx 0 (J .toNat (Int.ofNat s)) 1) k) a b = if s = k then a else b := by
  subst hJ
  show (if (0 + (Int.ofNat s).toNat * 1 == k) = true then a else b) = _
  rw [toNat_of, Nat.zero_add, Nat.mul_one]; simp
theorem getD_set {l : List Int} {k n : Nat} (hn : l.length = n) (h : k < n) (v : Int) : (l.set k v).getD k 0 = v := by
  subst hn; simp [List.getD_eq_getElem?_getD, h]
theorem j_inc {J : PF} (hJ : J = stdJ) {i : Nat} (h : i ≤ 4611686018427387904) : J .bin .add .i64 (Int.ofNat i) 1 = Int.ofNat (i + 1) := by
  rw [j_bin hJ]
  simp only [binI]
  rw [IntKind.wrap_i64]
  have : Int.ofNat i = (i : Int) := rfl
  have : Int.ofNat (i + 1) = (i : Int) + 1 := rfl
  omega
theorem j_lss {J : PF} (hJ : J = stdJ) (i n : Nat) : J .cmp .lss (Int.ofNat i) (J .ofNat n) = decide (i < n) := by
  subst hJ; show cmpI .lss (Int.ofNat i) (Int.ofNat n) = _; simp [cmpI]
theorem j_eql {J : PF} (hJ : J = stdJ) (a b : Int) : J .cmp .eql a b = decide (a = b) := by
  subst hJ; show cmpI .eql a b = _; simp [cmpI]; rfl
theorem j_neq {J : PF} (hJ : J = stdJ) (a b : Int) : J .cmp .neq a b = decide (a ≠ b) := by
  subst hJ; show cmpI .neq a b = _; simp [cmpI]; rfl
theorem j_lt {J : PF} (hJ : J = stdJ) (a b : Int) : J .cmp .lss a b = decide (a < b) := by
  subst hJ; rfl
theorem j_le {J : PF} (hJ : J = stdJ) (a b : Int) : J .cmp .leq a b = decide (a ≤ b) := by
  subst hJ; rfl
theorem j_gt {J : PF} (hJ : J = stdJ) (a b : Int) : J .cmp .gtr a b = decide (b < a) := by
  subst hJ; rfl
theorem j_ge {J : PF} (hJ : J = stdJ) (a b : Int) : J .cmp .geq a b = decide (b ≤ a) := by
  subst hJ; rfl
theorem inR_nat (i n : Nat) : ((0 : Int) ≤ Int.ofNat i ∧ Int.ofNat i < (n : Int)) ↔ i < n := by
  constructor
  · rintro ⟨_, h⟩; exact Int.ofNat_lt.1 h
  · intro h; exact ⟨Int.natCast_nonneg _, Int.ofNat_lt.2 h⟩

end Go.AX
