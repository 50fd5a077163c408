/- Functions of the program as Lean functions. -/
import Derived.Test.YtegcfbmleimcfaaT0
namespace Go.AX
open Go.Proofs
set_option autoImplicit false
set_option linter.unusedVariables false
set_option maxRecDepth 100000
set_option maxHeartbeats 100000000
set_option linter.unusedSimpArgs false

structure TWrite where
  Block : Int
  Trim : Bool
  Data : Ar 32
def eWrite (y : TWrite) : List D := [.int .i64 y.Block, .bool y.Trim] ++ (encL (eI .u8) y.Data.l)
theorem eWrite_len (a : TWrite) : (eWrite a).length = 34 := by simp [eWrite, encL_len (eI_len .u8), Ar.h]
theorem eWrite_noL (a : TWrite) : ∀ d ∈ eWrite a, d.noL := (noLapp (noLcons trivial (noLcons trivial noLnil)) (eA_noL _ a.Data))
structure TTrans where
  Id : Int
  Begin : Int
  Writes : List TWrite
def eTrans (y : TTrans) : List D := [.int .i64 y.Id, .int .i64 y.Begin, .lst (encL eWrite y.Writes) y.Writes.length]
theorem eTrans_len (a : TTrans) : (eTrans a).length = 3 := rfl
structure TLedger where
  Next : Int
  Open : List TTrans
/-- slices.Clone[[]windrow/api.Trans,windrow/api.Trans] -/
def m_slices_Clone (x0 : List TTrans) : Option (List TTrans) := Bnd (app? 40 ([] : List TTrans) x0) fun x => some x
/-- slices.Clone[[]windrow/api.Write,windrow/api.Write] -/
def m_slices_Clone_ (x0 : List TWrite) : Option (List TWrite) := Bnd (app? 48 ([] : List TWrite) x0) fun x => some x
/-- windrow/trans.copied -/
def m_trans_copied (x0 : TTrans) : Option (TTrans) :=
  Bnd (m_slices_Clone_ x0.Writes) fun r14 => some (TTrans.mk x0.Id x0.Begin r14)
/-- windrow/trans.all -/
def m_trans_all (x0 : TLedger) : Option (TLedger) :=
  Bnd (m_slices_Clone x0.Open) fun r12 => Let (ln r12) fun v18 => Bnd (loop (σ := Int × (List TTrans)) (ρ := ((List TTrans))) (fun s29 => Let (clt s29.1 v18) fun b34 => bif b34 then (Bnd (at? s29.2 s29.1) fun y35 => Bnd (m_trans_copied y35) fun r45 => Bnd (at? s29.2 s29.1) fun y53 => Let (set' s29.2 s29.1 r45) fun l63 => Let (iadd s29.1 1) fun v66 => some (.inl (v66, l63))) else (some (.inr (s29.2)))) (0, r12)) fun q19 => some (TLedger.mk x0.Next q19)
/-- windrow/trans.Begin -/
def m_trans_Begin (x0 : TLedger) (x1 : Int) : Option (TLedger × Int × Int) :=
  Bnd (m_trans_all x0) fun r15 => Let (ln r15.Open) fun v22 => Let (cge v22 16) fun b23 => bif b23 then (some (r15, 0, 13)) else (Let (iadd r15.Next 1) fun v24 => Bnd (app? 40 r15.Open [(TTrans.mk r15.Next x1 ([] : List TWrite))]) fun l26 => some ((TLedger.mk v24 l26), r15.Next, 0))
/-- cmp.isNaN[int] -/
def m_cmp_isNaN (x0 : Int) : Option (Bool) :=
  Let (cne x0 x0) fun b4 => some b4
/-- cmp.Compare[int] -/
def m_cmp_Compare (x0 : Int) (x1 : Int) : Option (Int) :=
  Bnd (m_cmp_isNaN x0) fun r5 => Bnd (m_cmp_isNaN x1) fun r8 => bif r5 then (bif r8 then (some 0) else (some (-1))) else (bif r8 then (some 1) else (Let (clt x0 x1) fun b11 => bif b11 then (some (-1)) else (Let (cgt x0 x1) fun b12 => bif b12 then (some 1) else (some 0))))
/-- windrow/trans.at$1 -/
def m_trans_at_1 (x0 : TTrans) (x1 : Int) : Option (Int) :=
  Bnd (m_cmp_Compare x0.Id x1) fun r10 => some r10
/-- slices.BinarySearchFunc[[]windrow/api.Trans,windrow/api.Trans,int] -/
def m_slices_BinarySearchFunc (x0 : List TTrans) (x1 : Int) : Option (Int × Bool) :=
  Let (ln x0) fun v9 => Bnd (loop (σ := Int × Int) (ρ := Int) (fun s20 => Let (clt s20.1 s20.2) fun b22 => bif b22 then (Let (iadd s20.1 s20.2) fun v23 => Let (IntKind.wrap .u64 v23) fun v24 => Bnd (sh? 1) fun _ => Let (binI .shr .u64 v24 1) fun v25 => Let (IntKind.wrap .i64 v25) fun v26 => Bnd (at? x0 v26) fun y27 => Bnd (m_trans_at_1 y27 x1) fun r37 => Let (clt r37 0) fun b40 => bif b40 then (Let (iadd v26 1) fun v41 => some (.inl (v41, s20.2))) else (some (.inl (s20.1, v26)))) else (some (.inr (s20.1)))) (0, v9)) fun q10 => Let (clt q10 v9) fun b23 => bif b23 then (Bnd (at? x0 q10) fun y24 => Bnd (m_trans_at_1 y24 x1) fun r34 => Let (ceq r34 0) fun b37 => some (q10, b37)) else (some (q10, false))
/-- windrow/trans.at -/
def m_trans_at (x0 : TLedger) (x1 : Int) : Option (Int × Bool) :=
  Bnd (m_slices_BinarySearchFunc x0.Open x1) fun r10 => some (r10.1, r10.2)
/-- windrow/trans.Get -/
def m_trans_Get (x0 : TLedger) (x1 : Int) : Option (TTrans × Int) :=
  Bnd (m_trans_at x0 x1) fun r15 => Let (!r15.2) fun b19 => bif b19 then (some ((TTrans.mk 0 0 ([] : List TWrite)), 9)) else (Bnd (at? x0.Open r15.1) fun y20 => Bnd (m_trans_copied y20) fun r30 => some (r30, 0))
/-- windrow/trans.place$1 -/
def m_trans_place_1 (x0 : TWrite) (x1 : Int) : Option (Int) :=
  Bnd (m_cmp_Compare x0.Block x1) fun r9 => some r9
/-- slices.BinarySearchFunc[[]windrow/api.Write,windrow/api.Write,int] -/
def m_slices_BinarySearchFunc_ (x0 : List TWrite) (x1 : Int) : Option (Int × Bool) :=
  Let (ln x0) fun v9 => Bnd (loop (σ := Int × Int) (ρ := Int) (fun s20 => Let (clt s20.1 s20.2) fun b22 => bif b22 then (Let (iadd s20.1 s20.2) fun v23 => Let (IntKind.wrap .u64 v23) fun v24 => Bnd (sh? 1) fun _ => Let (binI .shr .u64 v24 1) fun v25 => Let (IntKind.wrap .i64 v25) fun v26 => Bnd (at? x0 v26) fun y27 => Bnd (m_trans_place_1 y27 x1) fun r36 => Let (clt r36 0) fun b39 => bif b39 then (Let (iadd v26 1) fun v40 => some (.inl (v40, s20.2))) else (some (.inl (s20.1, v26)))) else (some (.inr (s20.1)))) (0, v9)) fun q10 => Let (clt q10 v9) fun b23 => bif b23 then (Bnd (at? x0 q10) fun y24 => Bnd (m_trans_place_1 y24 x1) fun r33 => Let (ceq r33 0) fun b36 => some (q10, b36)) else (some (q10, false))
/-- windrow/trans.place -/
def m_trans_place (x0 : TTrans) (x1 : Int) : Option (Int × Bool) :=
  Bnd (m_slices_BinarySearchFunc_ x0.Writes x1) fun r11 => some (r11.1, r11.2)
/-- windrow/trans.Put -/
def m_trans_Put (x0 : TTrans) (x1 : TWrite) : Option (TTrans) :=
  Jn (α := Bool × (Ar 32)) (fun q19 => Bnd (m_trans_copied x0) fun r26 => Bnd (m_trans_place r26 x1.Block) fun r34 => bif r34.2 then (Bnd (at? r26.Writes r34.1) fun y38 => Let (set' r26.Writes r34.1 (TWrite.mk x1.Block q19.1 q19.2)) fun l47 => some (TTrans.mk r26.Id r26.Begin l47)) else (Bnd (ins? 48 r26.Writes r34.1 ([(TWrite.mk x1.Block q19.1 q19.2)])) fun l39 => some (TTrans.mk r26.Id r26.Begin l39))) fun j20 => bif x1.Trim then (j20 (true, (Ar.zero 32))) else (j20 (false, x1.Data))
/-- windrow/trans.Find -/
def m_trans_Find (x0 : TTrans) (x1 : Int) : Option (TWrite × Bool) :=
  Bnd (m_trans_place x0 x1) fun r15 => Let (!r15.2) fun b19 => bif b19 then (some ((TWrite.mk 0 false (Ar.zero 32)), false)) else (Bnd (at? x0.Writes r15.1) fun y20 => some (y20, true))
/-- windrow/trans.Set -/
def m_trans_Set (x0 : TLedger) (x1 : TTrans) : Option (TLedger) :=
  Bnd (m_trans_all x0) fun r18 => Bnd (m_trans_at r18 x1.Id) fun r25 => bif r25.2 then (Bnd (m_trans_copied x1) fun r29 => Bnd (at? r18.Open r25.1) fun y37 => Let (set' r18.Open r25.1 r29) fun l47 => some (TLedger.mk r18.Next l47)) else (some r18)
/-- windrow/trans.Drop -/
def m_trans_Drop (x0 : TLedger) (x1 : Int) : Option (TLedger × Int) :=
  Bnd (m_trans_all x0) fun r14 => Bnd (m_trans_at r14 x1) fun r21 => Let (!r21.2) fun b25 => bif b25 then (some (r14, 9)) else (Let (iadd r21.1 1) fun v26 => Bnd (dele? r14.Open r21.1 v26) fun l27 => some ((TLedger.mk r14.Next l27), 0))
/-- windrow/trans.Puts -/
def m_trans_Puts (x0 : TTrans) : Option (Int) :=
  Let (ln x0.Writes) fun v9 => Bnd (loop (σ := Int × Int) (ρ := Int) (fun s20 => Let (clt s20.2 v9) fun b22 => bif b22 then (Bnd (at? x0.Writes s20.2) fun y23 => Let (!y23.Trim) fun b32 => bif b32 then (Let (iadd s20.1 1) fun v33 => Let (iadd s20.2 1) fun v34 => some (.inl (v33, v34))) else (Let (iadd s20.2 1) fun v33 => some (.inl (s20.1, v33)))) else (some (.inr (s20.1)))) (0, 0)) fun q10 => some q10
/-- windrow/trans.Oldest -/
def m_trans_Oldest (x0 : TLedger) (x1 : Int) : Option (Int) :=
  Let (ln x0.Open) fun v9 => Let (ceq v9 0) fun b10 => bif b10 then (some x1) else (Bnd (at? x0.Open 0) fun y11 => Let (ln x0.Open) fun v21 => Bnd (loop (σ := Int × Int) (ρ := Int) (fun s32 => Let (clt s32.2 v21) fun b34 => bif b34 then (Bnd (at? x0.Open s32.2) fun y35 => Let (if y35.Begin < s32.1 then y35.Begin else s32.1) fun v45 => Let (iadd s32.2 1) fun v46 => some (.inl (v45, v46))) else (some (.inr (s32.1)))) (y11.Begin, 0)) fun q22 => some q22)
/-- windrow/windrowlaw18.awake -/
def m_law18_awake  : Option (Bool) :=
  Bnd (m_trans_Begin (TLedger.mk 0 ([] : List TTrans)) 3) fun r3 => Bnd (m_trans_Get r3.1 r3.2.1) fun r12 => Bnd (m_trans_Put r12.1 (TWrite.mk 5 false (Ar.put (Ar.zero 32) 0 9))) fun r21 => Bnd (m_trans_Find r21 5) fun r29 => Bnd (m_trans_Set r3.1 r21) fun r37 => Bnd (m_trans_Get r37 1) fun r44 => Bnd (m_trans_Drop r37 0) fun r53 => Let (ceq r3.2.2 0) fun b61 => bif b61 then (Let (ceq r3.2.1 0) fun b62 => bif b62 then (Let (ceq r3.1.Next 1) fun b63 => bif b63 then (Let (ceq r12.2 0) fun b64 => bif b64 then (Let (ceq r21.Begin 3) fun b65 => bif b65 then (bif r29.2 then (Bnd (at? (r29.1.Data.l) 0) fun v66 => Let (ceq v66 9) fun b70 => bif b70 then (Bnd (m_trans_Puts r21) fun r71 => Let (ceq r71 1) fun b74 => bif b74 then (Let (ln r37.Open) fun v75 => Let (ceq v75 1) fun b76 => bif b76 then (Bnd (at? r37.Open 0) fun y77 => Let (ln y77.Writes) fun v87 => Let (ceq v87 1) fun b88 => bif b88 then (Let (ceq r44.2 9) fun b89 => bif b89 then (Let (ceq r53.2 0) fun b90 => bif b90 then (Let (ln r53.1.Open) fun v91 => Let (ceq v91 0) fun b92 => bif b92 then (Bnd (m_trans_Oldest r37 9) fun r93 => Let (ceq r93 3) fun b96 => some b96) else (some false)) else (some false)) else (some false)) else (some false)) else (some false)) else (some false)) else (some false)) else (some false)) else (some false)) else (some false)) else (some false)) else (some false)) else (some false)
/-- windrow/windrowref18.Right -/
def m_ref18_Right (x0 : TTrans) : Option (Bool) :=
  Bnd (loop (σ := Int) (ρ := Sum Unit Unit) (fun s19 => Jn (α := Unit) (fun q20 => Let (isub s19 1) fun v23 => Bnd (at? x0.Writes v23) fun y24 => Bnd (at? x0.Writes s19) fun y33 => Let (cge y24.Block y33.Block) fun b42 => bif b42 then (some (.inr (.inr ()))) else (Let (iadd s19 1) fun v43 => some (.inl (v43)))) fun j21 => Let (ln x0.Writes) fun v23 => Let (clt s19 v23) fun b24 => bif b24 then (Let (clt s19 100) fun b25 => bif b25 then (j21 ()) else (some (.inr (.inl ())))) else (some (.inr (.inl ())))) (1)) fun q9 => (match q9 with | (.inl q9') => Let (ln x0.Writes) fun v20 => Let (cle v20 60) fun b21 => some b21 | (.inr q9'') => some false)
/-- windrow/windrowref18.Find -/
def m_ref18_Find (x0 : TTrans) (x1 : Int) : Option (TWrite × Bool) :=
  Bnd (loop (σ := Int) (ρ := Sum Unit ((Int × Bool × (Ar 32)))) (fun s25 => Let (ln x0.Writes) fun v26 => Let (clt s25 v26) fun b27 => bif b27 then (Bnd (at? x0.Writes s25) fun y28 => Let (ceq y28.Block x1) fun b37 => bif b37 then (Bnd (at? x0.Writes s25) fun y38 => some (.inr (.inr (y38.Block, y38.Trim, y38.Data)))) else (Let (iadd s25 1) fun v38 => some (.inl (v38)))) else (some (.inr (.inl ())))) (0)) fun q15 => (match q15 with | (.inl q15') => some ((TWrite.mk 0 false (Ar.zero 32)), false) | (.inr q15'') => some ((TWrite.mk q15''.1 q15''.2.1 q15''.2.2), true))
/-- windrow/windrowref18.Put -/
def m_ref18_Put (x0 : TTrans) (x1 : TWrite) : Option (TTrans) :=
  Jn (α := Bool × (Ar 32)) (fun q19 => Bnd (loop (σ := Bool × Int × (List TWrite)) (ρ := (Bool × (List TWrite))) (fun s36 => Let (ln x0.Writes) fun v42 => Let (clt s36.2.1 v42) fun b43 => bif b43 then (Jn (α := Bool × (List TWrite)) (fun q44 => Bnd (at? x0.Writes s36.2.1) fun y52 => Let (cne y52.Block x1.Block) fun b61 => bif b61 then (Bnd (at? x0.Writes s36.2.1) fun y62 => Bnd (app? 48 q44.2 [y62]) fun l72 => Let (iadd s36.2.1 1) fun v76 => some (.inl (q44.1, v76, l72))) else (Let (iadd s36.2.1 1) fun v62 => some (.inl (q44.1, v62, q44.2)))) fun j45 => Jn (α := Bool) (fun q47 => bif q47 then (Bnd (app? 48 s36.2.2 [(TWrite.mk x1.Block q19.1 q19.2)]) fun l52 => j45 (true, l52)) else (j45 (s36.1, s36.2.2))) fun j48 => Let (!s36.1) fun b50 => bif b50 then (Bnd (at? x0.Writes s36.2.1) fun y51 => Let (cge y51.Block x1.Block) fun b60 => j48 (b60)) else (j48 (false))) else (some (.inr (s36.1, s36.2.2)))) (false, 0, ([] : List TWrite))) fun q26 => Let (!q26.1) fun b47 => bif b47 then (Bnd (app? 48 q26.2 [(TWrite.mk x1.Block q19.1 q19.2)]) fun l49 => some (TTrans.mk x0.Id x0.Begin l49)) else (some (TTrans.mk x0.Id x0.Begin q26.2))) fun j20 => bif x1.Trim then (j20 (true, (Ar.zero 32))) else (j20 (false, x1.Data))
/-- windrow/windrowref18.Same -/
def m_ref18_Same (x0 : TTrans) (x1 : TTrans) : Option (Bool) :=
  Jn (α := Unit) (fun q15 => Bnd (loop (σ := Int) (ρ := Sum Unit Unit) (fun s28 => Let (ln x0.Writes) fun v29 => Let (clt s28 v29) fun b30 => bif b30 then (Bnd (at? x0.Writes s28) fun y31 => Bnd (at? x1.Writes s28) fun y40 => Let (!((y31.Block == y40.Block) && ((y31.Trim == y40.Trim) && ((y31.Data.l == y40.Data.l) && true)))) fun b49 => bif b49 then (some (.inr (.inr ()))) else (Let (iadd s28 1) fun v50 => some (.inl (v50)))) else (some (.inr (.inl ())))) (0)) fun q18 => (match q18 with | (.inl q18') => some true | (.inr q18'') => some false)) fun j16 => Let (cne x0.Id x1.Id) fun b18 => bif b18 then (some false) else (Let (cne x0.Begin x1.Begin) fun b19 => bif b19 then (some false) else (Let (ln x0.Writes) fun v20 => Let (ln x1.Writes) fun v21 => Let (cne v20 v21) fun b22 => bif b22 then (some false) else (j16 ())))
/-- windrow/windrowlaw18.TransWrites -/
def m_law18_TransWrites (x0 : TTrans) (x1 : TWrite) (x2 : Int) : Option (Bool) :=
  Jn (α := Unit) (fun q15 => Bnd (loop (σ := Int × Int) (ρ := Int) (fun s28 => Let (ln x0.Writes) fun v30 => Let (clt s28.2 v30) fun b31 => bif b31 then (Bnd (at? x0.Writes s28.2) fun y32 => Let (!y32.Trim) fun b41 => bif b41 then (Let (iadd s28.1 1) fun v42 => Let (iadd s28.2 1) fun v43 => some (.inl (v42, v43))) else (Let (iadd s28.2 1) fun v42 => some (.inl (s28.1, v42)))) else (some (.inr (s28.1)))) (0, 0)) fun q18 => Bnd (m_trans_Find x0 x2) fun r31 => Bnd (m_ref18_Find x0 x2) fun r39 => Bnd (m_trans_Put x0 x1) fun r47 => Bnd (m_ref18_Put x0 x1) fun r55 => Bnd (m_ref18_Same r47 r55) fun r63 => bif r63 then (Let (((r31.1.Block == r39.1.Block) && ((r31.1.Trim == r39.1.Trim) && ((r31.1.Data.l == r39.1.Data.l) && true)))) fun b66 => bif b66 then (Let (r31.2 == r39.2) fun b67 => bif b67 then (Bnd (m_trans_Puts x0) fun r68 => Let (ceq r68 q18) fun b71 => some b71) else (some false)) else (some false)) else (some false)) fun j16 => Jn (α := Bool) (fun q18 => bif q18 then (Bnd (m_law18_awake ) fun r22 => some r22) else (j16 ())) fun j19 => Bnd (m_law18_awake ) fun r21 => Let (!r21) fun b24 => bif b24 then (j19 (true)) else (Bnd (m_ref18_Right x0) fun r25 => Let (!r25) fun b28 => j19 (b28))
/-- windrow/windrowref18.RightAll -/
def m_ref18_RightAll (x0 : TLedger) : Option (Bool) :=
  Jn (α := Unit) (fun q8 => Bnd (loop (σ := Int) (ρ := Sum Unit Unit) (fun s21 => Let (ln x0.Open) fun v22 => Let (clt s21 v22) fun b23 => bif b23 then (Bnd (at? x0.Open s21) fun y24 => Bnd (m_ref18_Right y24) fun r34 => Let (!r34) fun b37 => bif b37 then (some (.inr (.inr ()))) else (Bnd (at? x0.Open s21) fun y38 => Let (cge y38.Id x0.Next) fun b48 => bif b48 then (some (.inr (.inr ()))) else (Bnd (at? x0.Open s21) fun y49 => Let (clt y49.Id 0) fun b59 => bif b59 then (some (.inr (.inr ()))) else (Let (cgt s21 0) fun b60 => bif b60 then (Let (isub s21 1) fun v61 => Bnd (at? x0.Open v61) fun y62 => Bnd (at? x0.Open s21) fun y72 => Let (cge y62.Id y72.Id) fun b82 => bif b82 then (some (.inr (.inr ()))) else (Let (iadd s21 1) fun v83 => some (.inl (v83)))) else (Let (iadd s21 1) fun v61 => some (.inl (v61))))))) else (some (.inr (.inl ())))) (0)) fun q11 => (match q11 with | (.inl q11') => some true | (.inr q11'') => some false)) fun j9 => Let (ln x0.Open) fun v11 => Let (cgt v11 16) fun b12 => bif b12 then (some false) else (Let (clt x0.Next 0) fun b13 => bif b13 then (some false) else (Let (cgt x0.Next 1099511627776) fun b14 => bif b14 then (some false) else (j9 ())))
/-- windrow/windrowref18.SameAll -/
def m_ref18_SameAll (x0 : TLedger) (x1 : TLedger) : Option (Bool) :=
  Jn (α := Unit) (fun q13 => Bnd (loop (σ := Int) (ρ := Sum Unit Unit) (fun s26 => Let (ln x0.Open) fun v27 => Let (clt s26 v27) fun b28 => bif b28 then (Bnd (at? x0.Open s26) fun y29 => Bnd (at? x1.Open s26) fun y39 => Bnd (m_ref18_Same y29 y39) fun r49 => Let (!r49) fun b52 => bif b52 then (some (.inr (.inr ()))) else (Let (iadd s26 1) fun v53 => some (.inl (v53)))) else (some (.inr (.inl ())))) (0)) fun q16 => (match q16 with | (.inl q16') => some true | (.inr q16'') => some false)) fun j14 => Let (cne x0.Next x1.Next) fun b16 => bif b16 then (some false) else (Let (ln x0.Open) fun v17 => Let (ln x1.Open) fun v18 => Let (cne v17 v18) fun b19 => bif b19 then (some false) else (j14 ()))
/-- windrow/windrowref18.Get -/
def m_ref18_Get (x0 : TLedger) (x1 : Int) : Option (TTrans × Bool) :=
  Bnd (loop (σ := Int) (ρ := Sum Unit ((Int × Int × (List TWrite)))) (fun s25 => Let (ln x0.Open) fun v26 => Let (clt s25 v26) fun b27 => bif b27 then (Bnd (at? x0.Open s25) fun y28 => Let (ceq y28.Id x1) fun b38 => bif b38 then (Bnd (at? x0.Open s25) fun y39 => some (.inr (.inr (y39.Id, y39.Begin, y39.Writes)))) else (Let (iadd s25 1) fun v39 => some (.inl (v39)))) else (some (.inr (.inl ())))) (0)) fun q15 => (match q15 with | (.inl q15') => some ((TTrans.mk 0 0 ([] : List TWrite)), false) | (.inr q15'') => some ((TTrans.mk q15''.1 q15''.2.1 q15''.2.2), true))
/-- windrow/windrowref18.with -/
def m_ref18_with (x0 : TLedger) (x1 : Int) (x2 : TTrans) (x3 : Bool) : Option (TLedger) :=
  Bnd (loop (σ := Int × (List TTrans)) (ρ := ((List TTrans))) (fun s30 => Let (ln x0.Open) fun v35 => Let (clt s30.1 v35) fun b36 => bif b36 then (Bnd (at? x0.Open s30.1) fun y37 => Let (cne y37.Id x1) fun b47 => bif b47 then (Bnd (at? x0.Open s30.1) fun y48 => Bnd (app? 40 s30.2 [y48]) fun l59 => Let (iadd s30.1 1) fun v63 => some (.inl (v63, l59))) else (Let (!x3) fun b48 => bif b48 then (Bnd (app? 40 s30.2 [x2]) fun l50 => Let (iadd s30.1 1) fun v54 => some (.inl (v54, l50))) else (Let (iadd s30.1 1) fun v49 => some (.inl (v49, s30.2))))) else (some (.inr (s30.2)))) (0, ([] : List TTrans))) fun q20 => some (TLedger.mk x0.Next q20)
/-- windrow/windrowref18.Drop -/
def m_ref18_Drop (x0 : TLedger) (x1 : Int) : Option (TLedger) :=
  Bnd (m_ref18_with x0 x1 (TTrans.mk 0 0 ([] : List TWrite)) true) fun r13 => some r13
/-- windrow/windrowref18.Set -/
def m_ref18_Set (x0 : TLedger) (x1 : TTrans) : Option (TLedger) :=
  Bnd (m_ref18_with x0 x1.Id x1 false) fun r18 => some r18
/-- windrow/windrowref18.Oldest -/
def m_ref18_Oldest (x0 : TLedger) (x1 : Int) : Option (Int) :=
  Bnd (loop (σ := Int × Int) (ρ := Int) (fun s19 => Let (ln x0.Open) fun v21 => Let (clt s19.2 v21) fun b22 => bif b22 then (Jn (α := Bool) (fun q23 => bif q23 then (Bnd (at? x0.Open s19.2) fun y27 => Let (iadd s19.2 1) fun v37 => some (.inl (y27.Begin, v37))) else (Let (iadd s19.2 1) fun v27 => some (.inl (s19.1, v27)))) fun j24 => Let (ceq s19.2 0) fun b26 => bif b26 then (j24 (true)) else (Bnd (at? x0.Open s19.2) fun y27 => Let (clt y27.Begin s19.1) fun b37 => j24 (b37))) else (some (.inr (s19.1)))) (x1, 0)) fun q9 => some q9
/-- windrow/windrowlaw18.TransLedgers -/
def m_law18_TransLedgers (x0 : TLedger) (x1 : Int) (x2 : Int) (x3 : TTrans) : Option (Bool) :=
  Jn (α := Unit) (fun q16 => Bnd (m_trans_Begin x0 x1) fun r19 => Jn (α := Unit) (fun q28 => Bnd (m_trans_Get x0 x2) fun r31 => Bnd (m_ref18_Get x0 x2) fun r40 => Bnd (m_trans_Drop x0 x2) fun r49 => Bnd (m_ref18_Same r31.1 r40.1) fun r57 => bif r57 then (Let (ceq r31.2 0) fun b60 => Let (b60 == r40.2) fun b61 => bif b61 then (bif r40.2 then (Let (ceq r31.2 r49.2) fun b62 => bif b62 then (Bnd (m_ref18_Drop x0 x2) fun r63 => Bnd (m_ref18_SameAll r49.1 r63) fun r70 => bif r70 then (Bnd (m_trans_Set x0 x3) fun r73 => Bnd (m_ref18_Set x0 x3) fun r80 => Bnd (m_ref18_SameAll r73 r80) fun r87 => bif r87 then (Bnd (m_trans_Oldest x0 x1) fun r90 => Bnd (m_ref18_Oldest x0 x1) fun r93 => Let (ceq r90 r93) fun b96 => some b96) else (some false)) else (some false)) else (some false)) else (Let (ceq r31.2 9) fun b62 => bif b62 then (Let (ceq r31.2 r49.2) fun b63 => bif b63 then (Bnd (m_ref18_Drop x0 x2) fun r64 => Bnd (m_ref18_SameAll r49.1 r64) fun r71 => bif r71 then (Bnd (m_trans_Set x0 x3) fun r74 => Bnd (m_ref18_Set x0 x3) fun r81 => Bnd (m_ref18_SameAll r74 r81) fun r88 => bif r88 then (Bnd (m_trans_Oldest x0 x1) fun r91 => Bnd (m_ref18_Oldest x0 x1) fun r94 => Let (ceq r91 r94) fun b97 => some b97) else (some false)) else (some false)) else (some false)) else (some false))) else (some false)) else (some false)) fun j29 => Let (ln x0.Open) fun v31 => Let (ceq v31 16) fun b32 => bif b32 then (Let (cne r19.2.2 13) fun b33 => bif b33 then (some false) else (Let (cne r19.2.1 0) fun b34 => bif b34 then (some false) else (Bnd (m_ref18_SameAll r19.1 x0) fun r35 => Let (!r35) fun b38 => bif b38 then (some false) else (j29 ())))) else (Let (iadd x0.Next 1) fun v33 => Bnd (app? 40 ([] : List TTrans) x0.Open) fun l35 => Bnd (app? 40 l35 [(TTrans.mk x0.Next x1 ([] : List TWrite))]) fun l40 => Let (cne r19.2.2 0) fun b44 => bif b44 then (some false) else (Let (cne r19.2.1 x0.Next) fun b45 => bif b45 then (some false) else (Bnd (m_ref18_SameAll r19.1 (TLedger.mk v33 l40)) fun r46 => Let (!r46) fun b49 => bif b49 then (some false) else (j29 ()))))) fun j17 => Jn (α := Bool) (fun q19 => bif q19 then (Bnd (m_law18_awake ) fun r23 => some r23) else (j17 ())) fun j20 => Bnd (m_law18_awake ) fun r22 => Let (!r22) fun b25 => bif b25 then (j20 (true)) else (Bnd (m_ref18_RightAll x0) fun r26 => Let (!r26) fun b29 => bif b29 then (j20 (true)) else (Bnd (m_ref18_Right x3) fun r30 => Let (!r30) fun b33 => j20 (b33)))
/-- windrow/windrowlaw18.TransOverlay -/
def m_law18_TransOverlay (x0 : List TWrite) (x1 : Int) : Option (Bool) :=
  Jn (α := Unit) (fun q8 => Bnd (loop (σ := Bool × Int × Int × Int × Int × Bool × (Ar 32) × (List TWrite)) (ρ := (Bool × Int × Int × Int × Bool × (Ar 32) × (List TWrite))) (fun s21 => Let (ln x0) fun v34 => Let (clt s21.2.1 v34) fun b35 => bif b35 then (Bnd (at? x0 s21.2.1) fun y36 => Bnd (m_trans_Put (TTrans.mk s21.2.2.1 s21.2.2.2.1 s21.2.2.2.2.2.2.2) y36) fun r45 => Bnd (at? x0 s21.2.1) fun y53 => Let (ceq y53.Block x1) fun b62 => bif b62 then (Bnd (at? x0 s21.2.1) fun y63 => Let (iadd s21.2.1 1) fun v72 => some (.inl (true, v72, r45.Id, r45.Begin, y63.Block, y63.Trim, y63.Data, r45.Writes))) else (Let (iadd s21.2.1 1) fun v63 => some (.inl (s21.1, v63, r45.Id, r45.Begin, s21.2.2.2.2.1, s21.2.2.2.2.2.1, s21.2.2.2.2.2.2.1, r45.Writes)))) else (some (.inr (s21.1, s21.2.2.1, s21.2.2.2.1, s21.2.2.2.2.1, s21.2.2.2.2.2.1, s21.2.2.2.2.2.2.1, s21.2.2.2.2.2.2.2)))) (false, 0, 0, 0, 0, false, (Ar.zero 32), ([] : List TWrite))) fun q11 => Jn (α := Bool × (Ar 32)) (fun q46 => Bnd (m_trans_Find (TTrans.mk q11.2.1 q11.2.2.1 q11.2.2.2.2.2.2) x1) fun r53 => Let (r53.2 == q11.1) fun b61 => bif b61 then (Let (((r53.1.Block == q11.2.2.2.1) && ((r53.1.Trim == q46.1) && ((r53.1.Data.l == q46.2.l) && true)))) fun b62 => bif b62 then (Bnd (m_ref18_Right (TTrans.mk q11.2.1 q11.2.2.1 q11.2.2.2.2.2.2)) fun r63 => some r63) else (some false)) else (some false)) fun j47 => bif q11.2.2.2.2.1 then (j47 (true, (Ar.zero 32))) else (j47 (false, q11.2.2.2.2.2.1))) fun j9 => Jn (α := Bool) (fun q11 => bif q11 then (Bnd (m_law18_awake ) fun r15 => some r15) else (j9 ())) fun j12 => Bnd (m_law18_awake ) fun r14 => Let (!r14) fun b17 => bif b17 then (j12 (true)) else (Let (ln x0) fun v18 => Let (cgt v18 60) fun b19 => j12 (b19))
/-- windrow/windrowlaw18.TransAlone -/
def m_law18_TransAlone (x0 : TLedger) (x1 : Int) (x2 : TWrite) : Option (Bool) :=
  Jn (α := Unit) (fun q14 => Bnd (m_trans_Get x0 x1) fun r17 => Jn (α := Int × (List TTrans)) (fun q26 => Bnd (m_trans_Drop x0 x1) fun r34 => Bnd (loop (σ := Int) (ρ := Sum Unit Unit) (fun s52 => Let (ln x0.Open) fun v53 => Let (clt s52 v53) fun b54 => bif b54 then (Bnd (at? x0.Open s52) fun y55 => Let (ceq y55.Id x1) fun b65 => bif b65 then (Let (iadd s52 1) fun v66 => some (.inl (v66))) else (Bnd (m_trans_Get (TLedger.mk q26.1 q26.2) y55.Id) fun r66 => Bnd (m_trans_Get r34.1 y55.Id) fun r75 => Let (cne r66.2 0) fun b84 => bif b84 then (some (.inr (.inr ()))) else (Let (cne r75.2 0) fun b85 => bif b85 then (some (.inr (.inr ()))) else (Bnd (m_ref18_Same r66.1 y55) fun r86 => Let (!r86) fun b89 => bif b89 then (some (.inr (.inr ()))) else (Bnd (m_ref18_Same r75.1 y55) fun r90 => Let (!r90) fun b93 => bif b93 then (some (.inr (.inr ()))) else (Let (iadd s52 1) fun v94 => some (.inl (v94)))))))) else (some (.inr (.inl ())))) (0)) fun q42 => (match q42 with | (.inl q42') => Bnd (m_trans_Get r34.1 x1) fun r53 => Let (ceq r53.2 9) fun b62 => bif b62 then (Let (ceq q26.1 x0.Next) fun b63 => bif b63 then (Let (ceq r34.1.Next x0.Next) fun b64 => some b64) else (some false)) else (some false) | (.inr q42'') => some false)) fun j27 => Let (ceq r17.2 0) fun b29 => bif b29 then (Bnd (m_trans_Put r17.1 x2) fun r30 => Bnd (m_trans_Set x0 r30) fun r38 => j27 (r38.Next, r38.Open)) else (j27 (x0.Next, x0.Open))) fun j15 => Jn (α := Bool) (fun q17 => bif q17 then (Bnd (m_law18_awake ) fun r21 => some r21) else (j15 ())) fun j18 => Bnd (m_law18_awake ) fun r20 => Let (!r20) fun b23 => bif b23 then (j18 (true)) else (Bnd (m_ref18_RightAll x0) fun r24 => Let (!r24) fun b27 => j18 (b27))
/-- windrow/windrowlaw18.TransHandles -/
def m_law18_TransHandles (x0 : List Int) : Option (Bool) :=
  Jn (α := Unit) (fun q7 => Bnd (loop (σ := Int × Int × Int × (List TTrans)) (ρ := Sum Unit Unit) (fun s20 => Let (ln x0) fun v27 => Let (clt s20.2.1 v27) fun b28 => bif b28 then (Jn (α := Int × (List TTrans)) (fun q29 => Bnd (m_trans_Begin (TLedger.mk q29.1 q29.2) s20.2.1) fun r37 => Jn (α := Int) (fun q46 => Let (ln r37.1.Open) fun v50 => Let (cgt v50 16) fun b51 => bif b51 then (some (.inr (.inr ()))) else (Bnd (m_ref18_RightAll r37.1) fun r52 => Let (!r52) fun b55 => bif b55 then (some (.inr (.inr ()))) else (Let (iadd s20.2.1 1) fun v56 => some (.inl (q46, v56, r37.1.Next, r37.1.Open))))) fun j47 => Let (ceq r37.2.2 0) fun b49 => bif b49 then (Let (cle r37.2.1 s20.1) fun b50 => bif b50 then (some (.inr (.inr ()))) else (j47 (r37.2.1))) else (j47 (s20.1))) fun j30 => Bnd (at? x0 s20.2.1) fun y32 => Bnd (nz? 3) fun _ => Let (binI .rem .u8 y32 3) fun v37 => Let (ceq v37 0) fun b38 => bif b38 then (Bnd (at? x0 s20.2.1) fun y39 => Bnd (nz? 3) fun _ => Let (binI .quo .u8 y39 3) fun v44 => Let (IntKind.wrap .i64 v44) fun v45 => Bnd (m_trans_Drop (TLedger.mk s20.2.2.1 s20.2.2.2) v45) fun r46 => j30 (r46.1.Next, r46.1.Open)) else (j30 (s20.2.2.1, s20.2.2.2))) else (some (.inr (.inl ())))) ((-1), 0, 0, ([] : List TTrans))) fun q10 => (match q10 with | (.inl q10') => some true | (.inr q10'') => some false)) fun j8 => Jn (α := Bool) (fun q10 => bif q10 then (Bnd (m_law18_awake ) fun r14 => some r14) else (j8 ())) fun j11 => Bnd (m_law18_awake ) fun r13 => Let (!r13) fun b16 => bif b16 then (j11 (true)) else (Let (ln x0) fun v17 => Let (cgt v17 80) fun b18 => j11 (b18))
end Go.AX
