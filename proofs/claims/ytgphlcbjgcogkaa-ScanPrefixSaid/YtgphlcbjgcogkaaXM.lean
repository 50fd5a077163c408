/- Functions of the program as Lean functions. -/
import Derived.Test.YtgphlcbjgcogkaaX0
namespace Go.AX
open Go.Proofs
set_option linter.unusedVariables false
set_option maxRecDepth 100000
set_option maxHeartbeats 100000000
set_option linter.unusedSimpArgs false
variable {Ze : ZeT} {Zn : ZnT} {Za : ZaT} {Zb : ZbT} {Zm : ZmT}

structure TRec where
  Kind : Int
  Epoch : Int
  Seq : Int
  Block : Int
  Count : Int
  Data : Ar 32
structure TFound where
  Place : Int
  Rec : TRec
def eFound (y : TFound) : List D := [.int .i64 y.Place, .int .i64 y.Rec.Kind, .int .i64 y.Rec.Epoch, .int .i64 y.Rec.Seq, .int .i64 y.Rec.Block, .int .i64 y.Rec.Count] ++ (encL (eI .u8) y.Rec.Data.l)
theorem eFound_len (a : TFound) : (eFound a).length = 38 := by simp [eFound, encL_len (eI_len .u8), Ar.h]
theorem eFound_noL (a : TFound) : ∀ d ∈ eFound a, d.noL := (noLapp (noLcons trivial (noLcons trivial (noLcons trivial (noLcons trivial (noLcons trivial (noLcons trivial noLnil)))))) (eA_noL _ a.Rec.Data))
/-- windrow/windrowlaw14.put -/
def m_law14_put (x0 : Int) (x1 : Int) : Option (TRec) :=
  Let (Ar.zero 32) fun z32u8 => some (TRec.mk 2 x0 x1 1 0 z32u8)
structure TRef14_Step where
  Zone : Int
  Rec : TRec
  Junk : Bool
def eRef14_Step (y : TRef14_Step) : List D := [.int .u8 y.Zone, .int .i64 y.Rec.Kind, .int .i64 y.Rec.Epoch, .int .i64 y.Rec.Seq, .int .i64 y.Rec.Block, .int .i64 y.Rec.Count] ++ (encL (eI .u8) y.Rec.Data.l) ++ [.bool y.Junk]
theorem eRef14_Step_len (a : TRef14_Step) : (eRef14_Step a).length = 39 := by simp [eRef14_Step, encL_len (eI_len .u8), Ar.h]
theorem eRef14_Step_noL (a : TRef14_Step) : ∀ d ∈ eRef14_Step a, d.noL := (noLapp (noLapp (noLcons trivial (noLcons trivial (noLcons trivial (noLcons trivial (noLcons trivial (noLcons trivial noLnil)))))) (eA_noL _ a.Rec.Data)) (noLcons trivial noLnil))
structure TGeom where
  Conv : Int
  Soft : Int
  Seq : Int
  Size : Int
  Open : Int
/-- windrow/geom.Zones -/
def m_geom_Zones (x0 : TGeom) : Option (Int) :=
  Let (iadd x0.Conv x0.Seq) fun v2 => some v2
structure TZone where
  State : Int
  Point : Int
def eZone (y : TZone) : List D := [.int .i64 y.State, .int .i64 y.Point]
theorem eZone_len (a : TZone) : (eZone a).length = 2 := rfl
theorem eZone_noL (a : TZone) : ∀ d ∈ eZone a, d.noL := by intro d hd; simp [eZone] at hd; rcases hd with rfl | rfl <;> trivial
/-- windrow/zone.New -/
def m_zone_New (x0 : TGeom) : Option ((List TZone)) :=
  Bnd (m_geom_Zones x0) fun v3 => Bnd (mk? 16 (TZone.mk 0 0) v3 v3) fun l4 => Jn (α := (List TZone)) (fun l7 => some l7) fun j5 => Bnd (loop (σ := Int × (List TZone)) (ρ := ((List TZone))) (fun (v17, l18) => Let (clt v17 x0.Conv) fun b19 => bif b19 then (Bnd (at? l18 v17) fun y20 => Let (set' l18 v17 (TZone.mk 4 y20.Point)) fun l24 => Let (iadd v17 1) fun v26 => some (.inl (v26, l24))) else (some (.inr l18))) (0, l4)) fun l19 => j5 l19
structure TAt where
  Zone : Int
  Off : Int
def eAt (y : TAt) : List D := [.int .i64 y.Zone, .int .i64 y.Off]
theorem eAt_len (a : TAt) : (eAt a).length = 2 := rfl
theorem eAt_noL (a : TAt) : ∀ d ∈ eAt a, d.noL := by intro d hd; simp [eAt] at hd; rcases hd with rfl | rfl <;> trivial
structure TDev_write where
  at_ : TAt
  page : Ar 64
structure TDev_Device where
  g : TGeom
  zones : List TZone
  finished : List (Int × Bool)
  safe : List (TAt × (Ar 64))
  now : List (TAt × (Ar 64))
  cached : List TDev_write
  left_ : Int
  down : Bool
  illegal : Int
/-- windrow/dev.New -/
def m_dev_New (x0 : TGeom) : Option (TDev_Device) :=
  Bnd (m_zone_New x0) fun l3 => some (TDev_Device.mk x0 l3 ([] : List (Int × Bool)) ([] : List (TAt × (Ar 64))) ([] : List (TAt × (Ar 64))) ([] : List TDev_write) (-1) false 0)
/-- slices.Clone[[]windrow/api.Zone,windrow/api.Zone] -/
def m_slices_Clone (x0 : List TZone) : Option (List TZone) := Bnd (app? 16 ([] : List TZone) x0) fun x => some x
def eDev_write (y : TDev_write) : List D := [.int .i64 y.at_.Zone, .int .i64 y.at_.Off] ++ (encL (eI .u8) y.page.l)
theorem eDev_write_len (a : TDev_write) : (eDev_write a).length = 66 := by simp [eDev_write, encL_len (eI_len .u8), Ar.h]
theorem eDev_write_noL (a : TDev_write) : ∀ d ∈ eDev_write a, d.noL := (noLapp (noLcons trivial (noLcons trivial noLnil)) (eA_noL _ a.page))
/-- (*windrow/dev.Device).Zones -/
def m___dev_Device__Zones (o0 : TDev_Device) : Option ((List TZone)) :=
  Bnd (m_slices_Clone o0.zones) fun l3 => some l3
/-- windrow/windrowref06.low -/
def m_ref06_low (x0 : Int) (x1 : Int) : Option ((List Int)) :=
  Jn (α := (List Int)) (fun l4 => some l4) fun j2 => Bnd (loop (σ := Int × Int × (List Int)) (ρ := ((List Int))) (fun (v14, v15, l16) => Let (clt v15 x1) fun b17 => bif b17 then (Bnd (nz? 256) fun _ => Let (binI .rem .i64 v14 256) fun v18 => Let (IntKind.wrap .u8 v18) fun v19 => Bnd (app? 1 l16 [v19]) fun l20 => Bnd (nz? 256) fun _ => Let (binI .quo .i64 v14 256) fun v21 => Let (iadd v15 1) fun v22 => some (.inl (v21, v22, l20))) else (some (.inr l16))) (x0, 0, ([] : List Int))) fun l17 => j2 l17
/-- windrow/windrowref02.bits -/
def m_ref02_bits (x0 : List Int) : Option ((List Bool)) :=
  Jn (α := (List Bool)) (fun l4 => some l4) fun j2 => Bnd (loop (σ := Int × (List Bool)) (ρ := ((List Bool))) (fun (v14, l15) => Let (ln x0) fun v16 => Let (clt v14 v16) fun b17 => bif b17 then (Jn (α := (List Bool)) (fun l20 => Let (iadd v14 1) fun v21 => some (.inl (v21, l20))) fun j18 => Bnd (at? x0 v14) fun y20 => Let (IntKind.wrap .i64 y20) fun v24 => Bnd (loop (σ := Int × Int × (List Bool)) (ρ := ((List Bool))) (fun (v35, v36, l37) => Let (clt v36 8) fun b38 => bif b38 then (Bnd (nz? 2) fun _ => Let (binI .rem .i64 v35 2) fun v39 => Let (ceq v39 1) fun b40 => Bnd (app? 1 l37 [b40]) fun l41 => Bnd (nz? 2) fun _ => Let (binI .quo .i64 v35 2) fun v42 => Let (iadd v36 1) fun v43 => some (.inl (v42, v43, l41))) else (some (.inr l37))) (v24, 0, l15)) fun l38 => j18 l38) else (some (.inr l15))) (0, ([] : List Bool))) fun l16 => j2 l16
/-- windrow/windrowref02.Sum -/
def m_ref02_Sum (x0 : List Int) : Option (Int) :=
  Let (Ar.zero 32) fun z32b => Let ((⟨[1, 1, 1, 0, 1, 1, 0, 1, 1, 0, 1, 1, 1, 0, 0, 0, 1, 0, 0, 0, 0, 0, 1, 1, 0, 0, 1, 0, 0, 0, 0, 0], rfl⟩ : Ar 32)) fun a2 => Jn (α := (Ar 32)) (fun a6 => Bnd (m_ref02_bits x0) fun l8 => Jn (α := (Ar 32)) (fun a11 => Jn (α := Int) (fun v14 => some v14) fun j12 => Bnd (loop (σ := Int × Int) (ρ := Int) (fun (v24, v25) => Let (cge v25 0) fun b26 => bif b26 then (Let (binI .mul .u32 v24 2) fun v27 => Bnd (at? (a11.l) v25) fun v28 => Let (!(decide (v28 = 1))) fun b32 => bif b32 then (Let (binI .add .u32 v27 1) fun v33 => Let (isub v25 1) fun v34 => some (.inl (v33, v34))) else (Let (isub v25 1) fun v33 => some (.inl (v27, v33)))) else (some (.inr v24))) (0, 31)) fun v26 => j12 v26) fun j9 => Bnd (loop (σ := Int × (Ar 32)) (ρ := ((Ar 32))) (fun (v21, a22) => Let (ln l8) fun v23 => Let (clt v21 v23) fun b24 => bif b24 then (Jn (α := (Ar 32)) (fun a27 => Let (iadd v21 1) fun v28 => some (.inl (v28, a27))) fun j25 => Bnd (at? (a22.l) 0) fun v27 => Bnd (at? l8 v21) fun y31 => Let (!((decide (v27 = 1)) == y31)) fun b35 => Jn (α := (Ar 32)) (fun a38 => Bnd (at? (a38.l) 31) fun v39 => Let (Ar.put a38 31 (b2i false)) fun a43 => bif b35 then (Bnd (loop (σ := Int × (Ar 32)) (ρ := ((Ar 32))) (fun (v55, a56) => Let (clt v55 32) fun b57 => bif b57 then (Bnd (at? (a56.l) v55) fun v58 => Let (isub 31 v55) fun v62 => Bnd (at? (a2.l) v62) fun v63 => Let (!((decide (v58 = 1)) == (decide (v63 = 1)))) fun b67 => Bnd (at? (a56.l) v55) fun v68 => Let (Ar.put a56 v55 (b2i b67)) fun a72 => Let (iadd v55 1) fun v74 => some (.inl (v74, a72))) else (some (.inr a56))) (0, a43)) fun a57 => j25 a57) else (j25 a43)) fun j36 => Bnd (loop (σ := Int × (Ar 32)) (ρ := ((Ar 32))) (fun (v48, a49) => Let (clt v48 31) fun b50 => bif b50 then (Let (iadd v48 1) fun v51 => Bnd (at? (a49.l) v51) fun v52 => Bnd (at? (a49.l) v48) fun v56 => Let (Ar.put a49 v48 (b2i (decide (v52 = 1)))) fun a60 => Let (iadd v48 1) fun v62 => some (.inl (v62, a60))) else (some (.inr a49))) (0, a22)) fun a50 => j36 a50) else (some (.inr a22))) (0, a6)) fun a23 => j9 a23) fun j4 => Bnd (loop (σ := Int × (Ar 32)) (ρ := ((Ar 32))) (fun (v16, a17) => Let (clt v16 32) fun b18 => bif b18 then (Bnd (at? (a17.l) v16) fun v19 => Let (Ar.put a17 v16 (b2i true)) fun a23 => Let (iadd v16 1) fun v25 => some (.inl (v25, a23))) else (some (.inr a17))) (0, z32b)) fun a18 => j4 a18
/-- windrow/windrowref02.Seal -/
def m_ref02_Seal (x0 : List Int) : Option ((List Int)) :=
  Bnd (app? 1 ([] : List Int) x0) fun l2 => Bnd (m_ref02_Sum x0) fun v4 => Jn (α := (List Int)) (fun l7 => some l7) fun j5 => Bnd (loop (σ := Int × Int × (List Int)) (ρ := ((List Int))) (fun (v17, v18, l19) => Let (clt v18 4) fun b20 => bif b20 then (Bnd (nz? 256) fun _ => Let (binI .rem .u32 v17 256) fun v21 => Let (IntKind.wrap .u8 v21) fun v22 => Bnd (app? 1 l19 [v22]) fun l23 => Bnd (nz? 256) fun _ => Let (binI .quo .u32 v17 256) fun v24 => Let (iadd v18 1) fun v25 => some (.inl (v24, v25, l23))) else (some (.inr l19))) (v4, 0, l2)) fun l20 => j5 l20
/-- windrow/windrowref06.Lay -/
def m_ref06_Lay (x0 : TRec) : Option ((Ar 64)) :=
  Let (Ar.zero 64) fun z64u8 => Let (IntKind.wrap .u8 x0.Kind) fun v2 => Bnd (m_ref06_low x0.Epoch 8) fun l4 => Bnd (app? 1 [v2] l4) fun l5 => Bnd (m_ref06_low x0.Seq 8) fun l7 => Bnd (app? 1 l5 l7) fun l8 => Bnd (m_ref06_low x0.Block 4) fun l10 => Bnd (app? 1 l8 l10) fun l11 => Bnd (m_ref06_low x0.Count 4) fun l13 => Bnd (app? 1 l11 l13) fun l14 => Jn (α := (List Int)) (fun l17 => Bnd (app? 1 l17 [0, 0, 0]) fun l18 => Bnd (m_ref02_Seal l18) fun l20 => Jn (α := (Ar 64)) (fun a23 => some a23) fun j21 => Bnd (loop (σ := Int × (Ar 64)) (ρ := ((Ar 64))) (fun (v33, a34) => Let (clt v33 64) fun b35 => bif b35 then (Bnd (at? l20 v33) fun y36 => Bnd (at? (a34.l) v33) fun v40 => Let (Ar.put a34 v33 y36) fun a44 => Let (iadd v33 1) fun v46 => some (.inl (v46, a44))) else (some (.inr a34))) (0, z64u8)) fun a35 => j21 a35) fun j15 => Bnd (loop (σ := Int × (List Int)) (ρ := ((List Int))) (fun (v27, l28) => Let (clt v27 32) fun b29 => bif b29 then (Bnd (at? (x0.Data.l) v27) fun v30 => Bnd (app? 1 l28 [v30]) fun l34 => Let (iadd v27 1) fun v35 => some (.inl (v35, l34))) else (some (.inr l28))) (0, l14)) fun l29 => j15 l29
theorem l_eRef14_Step_1_31 (hZ : ZS Ze Zn Za Zb Zm) (y : TRef14_Step) : LdS eRef14_Step 39 1 [.int .i64, .int .i64, .int .i64, .int .i64, .int .i64, .big 32 .u8] true y (.agg [.d (.int .i64 y.Rec.Kind), .d (.int .i64 y.Rec.Epoch), .d (.int .i64 y.Rec.Seq), .d (.int .i64 y.Rec.Block), .d (.int .i64 y.Rec.Count), .big 32 (Za .u8 _ y.Rec.Data)]) := by
  obtain ⟨rfl, rfl, rfl, rfl, rfl⟩ := hZ
  exact ⟨[.int .i64 y.Rec.Kind, .int .i64 y.Rec.Epoch, .int .i64 y.Rec.Seq, .int .i64 y.Rec.Block, .int .i64 y.Rec.Count] ++ ((encL (eI .u8) y.Rec.Data.l) ++ []), _, by simp [encL_len (k := 1) (eI_len _), encL_len (k := 1) eBo_len, Ar.h], by first | rfl | simp [eRef14_Step, encL_len (k := 1) (eI_len _), encL_len (k := 1) eBo_len, Ar.h, takeA], (.int (.int (.int (.int (.int (.big ⟨eA_len _ _, by decide⟩ .nil)))))), rfl⟩
theorem l_eRef14_Step_38_4 (hZ : ZS Ze Zn Za Zb Zm) (y : TRef14_Step) : LdS eRef14_Step 39 38 [.bool] false y (.d (.bool y.Junk)) := by
  obtain ⟨rfl, rfl, rfl, rfl, rfl⟩ := hZ
  exact ⟨[.bool y.Junk], _, by simp [encL_len (k := 1) (eI_len _), encL_len (k := 1) eBo_len, Ar.h], by first | rfl | simp [eRef14_Step, encL_len (k := 1) (eI_len _), encL_len (k := 1) eBo_len, Ar.h, takeA], (.bool .nil), rfl⟩
/-- windrow/geom.Sectors -/
def m_geom_Sectors (x0 : TGeom) (x1 : Int) : Option (Int) :=
  Jn (α := Bool) (fun b4 => bif b4 then (some 0) else (Let (clt x1 x0.Conv) fun b5 => bif b5 then (some x0.Soft) else (some x0.Size))) fun j2 => Let (clt x1 0) fun b4 => bif b4 then (j2 true) else (Bnd (m_geom_Zones x0) fun v6 => Let (cge x1 v6) fun b7 => j2 b7)
/-- windrow/zone.there -/
def m_zone_there (x0 : TGeom) (x1 : TAt) : Option (Bool) :=
  Let (cge x1.Off 0) fun b2 => bif b2 then (Bnd (m_geom_Sectors x0 x1.Zone) fun v4 => Let (clt x1.Off v4) fun b5 => some b5) else (some false)
theorem w_eZone (hZ : ZS Ze Zn Za Zb Zm) (y : TZone) : LdW eZone [.int .i64, .int .i64] true y (.agg [.d (.int .i64 y.State), .d (.int .i64 y.Point)]) := by
  obtain ⟨rfl, rfl, rfl, rfl, rfl⟩ := hZ
  refine ⟨_, ?_, rfl⟩
  rw [show eZone y = [.int .i64 y.State, .int .i64 y.Point] from rfl]
  exact .int (.int .nil)
/-- windrow/zone.open -/
def m_zone_open (x0 : List TZone) : Option (Int) :=
  Jn (α := Int) (fun v4 => some v4) fun j2 => Let (ln x0) fun v4 => Bnd (loop (σ := Int × Int) (ρ := Int) (fun (v15, v16) => Let (clt v16 v4) fun b17 => bif b17 then (Bnd (at? x0 v16) fun y18 => Let (ceq y18.State 1) fun b22 => bif b22 then (Let (iadd v15 1) fun v23 => Let (iadd v16 1) fun v24 => some (.inl (v23, v24))) else (Let (iadd v16 1) fun v23 => some (.inl (v15, v23)))) else (some (.inr v15))) (0, 0)) fun v17 => j2 v17
theorem l_eZone_0_3 (hZ : ZS Ze Zn Za Zb Zm) (y : TZone) : LdS eZone 2 0 [.int .i64] false y (.d (.int .i64 y.State)) := by
  obtain ⟨rfl, rfl, rfl, rfl, rfl⟩ := hZ
  exact ⟨[.int .i64 y.State], _, Nat.le_of_ble_eq_true rfl, rfl, (.int .nil), rfl⟩
theorem l_eZone_1_3 (hZ : ZS Ze Zn Za Zb Zm) (y : TZone) : LdS eZone 2 1 [.int .i64] false y (.d (.int .i64 y.Point)) := by
  obtain ⟨rfl, rfl, rfl, rfl, rfl⟩ := hZ
  exact ⟨[.int .i64 y.Point], _, Nat.le_of_ble_eq_true rfl, rfl, (.int .nil), rfl⟩
/-- windrow/zone.Write -/
def m_zone_Write (x0 : TGeom) (x1 : List TZone) (x2 : TAt) : Option ((List TZone) × Int) :=
  Bnd (m_slices_Clone x1) fun l3 => Bnd (m_zone_there x0 x2) fun b5 => Let (!b5) fun b6 => bif b6 then (some (l3, 6)) else (Bnd (at? l3 x2.Zone) fun y7 => Jn (α := Unit) (fun _ => Let (set' l3 x2.Zone (TZone.mk 1 y7.Point)) fun l13 => Bnd (at? l13 x2.Zone) fun y15 => Let (iadd y15.Point 1) fun v17 => Bnd (at? l13 x2.Zone) fun y18 => Let (set' l13 x2.Zone (TZone.mk y18.State v17)) fun l20 => Bnd (at? l20 x2.Zone) fun y22 => Let (ceq y22.Point x0.Size) fun b24 => bif b24 then (Bnd (at? l20 x2.Zone) fun y25 => Let (set' l20 x2.Zone (TZone.mk 3 y25.Point)) fun l27 => some (l27, 0)) else (some (l20, 0))) fun j11 => Let (ceq y7.State 4) fun b13 => bif b13 then (some (l3, 0)) else (Let (ceq y7.State 3) fun b14 => bif b14 then (some (l3, 3)) else (Let (cne x2.Off y7.Point) fun b15 => bif b15 then (some (l3, 4)) else (Let (cne y7.State 1) fun b16 => bif b16 then (Bnd (m_zone_open x1) fun v18 => Let (cge v18 x0.Open) fun b19 => bif b19 then (some (l3, 5)) else (j11 ())) else (j11 ())))))
/-- (*windrow/dev.Device).check -/
def m___dev_Device__check (x1 : Int) (o0 : TDev_Device) : Option (Int × TDev_Device) :=
  Let (cne x1 0) fun b2 => bif b2 then (Let (iadd o0.illegal 1) fun v3 => some (x1, (TDev_Device.mk o0.g o0.zones o0.finished o0.safe o0.now o0.cached o0.left_ o0.down v3))) else (some (x1, o0))
theorem eAt_kinds (a : TAt) : ofKinds [some .i64, some .i64] (eAt a) := ⟨rfl, rfl, trivial⟩
/-- (*windrow/dev.Device).Write$1 -/
def m___dev_Device__Write_1 (o0 : Ar 64) (o2 : TAt) (o3 : TDev_Device) : Option (TDev_Device) :=
  Let (Ar.zero 64) fun z64u8 => Let (gSet eAt o3.now o2 o0) fun m2 => Bnd (app? 80 o3.cached [(TDev_write.mk o2 o0)]) fun l3 => some (TDev_Device.mk o3.g o3.zones o3.finished o3.safe m2 l3 o3.left_ o3.down o3.illegal)
/-- (*windrow/dev.Device).count -/
def m___dev_Device__count (o0 : TDev_Device) : Option (TDev_Device) :=
  Let (cgt o0.left_ 0) fun b2 => bif b2 then (Let (isub o0.left_ 1) fun v3 => Let (ceq v3 0) fun b4 => some (TDev_Device.mk o0.g o0.zones o0.finished o0.safe o0.now o0.cached v3 b4 o0.illegal)) else (some o0)
/-- (*windrow/dev.Device).command -/
def m___dev_Device__command (x1 : List TZone) (x2 : Int) (o0 : TDev_Device) (o1 : Ar 64) (o3 : TAt) : Option (Int × TDev_Device) :=
  bif o0.down then (some (2, o0)) else (Bnd (m___dev_Device__check x2 o0) fun (v4, o5) => Let (cne v4 0) fun b6 => bif b6 then (some (x2, o5)) else (Bnd (m___dev_Device__Write_1 o1 o3 (TDev_Device.mk o5.g x1 o5.finished o5.safe o5.now o5.cached o5.left_ o5.down o5.illegal)) fun o8 => Bnd (lenq o8.zones x1) fun _ => Bnd (m___dev_Device__count o8) fun o10 => Bnd (lenq o10.zones o8.zones) fun _ => some (0, o10)))
/-- (*windrow/dev.Device).Write -/
def m___dev_Device__Write (x1 : TAt) (x2 : Ar 64) (o0 : TDev_Device) : Option (Int × TDev_Device) :=
  Bnd (m_zone_Write o0.g o0.zones x1) fun (l3, v4) => Bnd (m___dev_Device__command l3 v4 o0 x2 x1) fun (v6, o7) => some (v6, o7)
theorem l_eRef14_Step_0_5 (hZ : ZS Ze Zn Za Zb Zm) (y : TRef14_Step) : LdS eRef14_Step 39 0 [.int .u8] false y (.d (.int .u8 y.Zone)) := by
  obtain ⟨rfl, rfl, rfl, rfl, rfl⟩ := hZ
  exact ⟨[.int .u8 y.Zone], _, by simp [encL_len (k := 1) (eI_len _), encL_len (k := 1) eBo_len, Ar.h], by first | rfl | simp [eRef14_Step, encL_len (k := 1) (eI_len _), encL_len (k := 1) eBo_len, Ar.h, takeA], (.int .nil), rfl⟩
/-- windrow/windrowref14.Lay -/
def m_ref14_Lay (x0 : TGeom) (x1 : List TRef14_Step) : Option (TDev_Device) :=
  Let (Ar.zero 64) fun z64u8 => Bnd (m_dev_New x0) fun o3 => Jn (α := TDev_Device) (fun o6 => some o6) fun j4 => Bnd (loop (σ := Int × TDev_Device) (ρ := TDev_Device) (fun (v16, o17) => Let (ln x1) fun v18 => Let (clt v16 v18) fun b19 => bif b19 then (Bnd (at? x1 v16) fun y20 => Let (IntKind.wrap .i64 y20.Zone) fun v24 => Bnd (nz? x0.Seq) fun _ => Let (binI .rem .i64 v24 x0.Seq) fun v25 => Let (iadd x0.Conv v25) fun v26 => Bnd (m___dev_Device__Zones o17) fun l28 => Let (ln l28) fun v29 => Let (cge v26 v29) fun b30 => bif b30 then (Let (iadd v16 1) fun v31 => some (.inl (v31, o17))) else (Jn (α := (Ar 64)) (fun a33 => Bnd (at? l28 v26) fun y34 => Bnd (m___dev_Device__Write (TAt.mk v26 y34.Point) a33 o17) fun (v39, o40) => Let (iadd v16 1) fun v41 => some (.inl (v41, o40))) fun j31 => Bnd (at? x1 v16) fun y33 => Let (!y33.Junk) fun b37 => bif b37 then (Bnd (at? x1 v16) fun y38 => Bnd (m_ref06_Lay y38.Rec) fun a43 => j31 a43) else (j31 z64u8))) else (some (.inr o17))) (0, (TDev_Device.mk o3.g o3.zones o3.finished o3.safe o3.now ([] : List TDev_write) o3.left_ o3.down o3.illegal))) fun o18 => j4 o18
/-- windrow/zone.Read -/
def m_zone_Read (x0 : TGeom) (x1 : List TZone) (x2 : TAt) : Option (Int) :=
  Bnd (m_zone_there x0 x2) fun b3 => Let (!b3) fun b4 => bif b4 then (some 6) else (Bnd (at? x1 x2.Zone) fun y5 => Let (cne y5.State 4) fun b9 => bif b9 then (Bnd (at? x1 x2.Zone) fun y10 => Let (cge x2.Off y10.Point) fun b14 => bif b14 then (some 4) else (some 0)) else (some 0))
/-- (*windrow/dev.Device).Read -/
def m___dev_Device__Read (x1 : TAt) (o0 : TDev_Device) : Option ((Ar 64) × Int × TDev_Device) :=
  Let (Ar.zero 64) fun z64u8 => bif o0.down then (some (z64u8, 2, o0)) else (Bnd (m_zone_Read o0.g o0.zones x1) fun v4 => Bnd (m___dev_Device__check v4 o0) fun (v6, o7) => Let (cne v6 0) fun b8 => bif b8 then (some (z64u8, v6, o7)) else (Let (gGet eAt o7.now x1) fun o9 => Let (Option.getD o9 z64u8) fun y10 => Let (Option.isSome o9) fun b11 => some (y10, 0, o7)))
/-- windrow/crc.More -/
def m_crc_More (x0 : Int) (x1 : List Int) : Option (Int) :=
  Let (binI .xor .u32 4294967295 x0) fun v2 => Jn (α := Int) (fun v5 => Let (binI .xor .u32 4294967295 v5) fun v6 => some v6) fun j3 => Let (ln x1) fun v5 => Bnd (loop (σ := Int × Int) (ρ := Int) (fun (v16, v17) => Let (clt v17 v5) fun b18 => bif b18 then (Jn (α := Int) (fun v21 => Let (iadd v17 1) fun v22 => some (.inl (v21, v22))) fun j19 => Bnd (at? x1 v17) fun y21 => Let (IntKind.wrap .u32 y21) fun v25 => Let (binI .xor .u32 v16 v25) fun v26 => Bnd (loop (σ := Int × Int) (ρ := Int) (fun (v37, v38) => Let (clt v38 8) fun b39 => bif b39 then (Let (binI .and .u32 v37 1) fun v40 => Bnd (sh? 1) fun _ => Let (binI .shr .u32 v37 1) fun v41 => Let (ceq v40 1) fun b42 => bif b42 then (Let (binI .xor .u32 v41 3988292384) fun v43 => Let (iadd v38 1) fun v44 => some (.inl (v43, v44))) else (Let (iadd v38 1) fun v43 => some (.inl (v41, v43)))) else (some (.inr v37))) (v26, 0)) fun v39 => j19 v39) else (some (.inr v16))) (v2, 0)) fun v18 => j3 v18
/-- windrow/crc.Sum -/
def m_crc_Sum (x0 : List Int) : Option (Int) :=
  Bnd (m_crc_More 0 x0) fun v3 => some v3
/-- windrow/crc.Right -/
def m_crc_Right (x0 : List Int) : Option (Bool) :=
  Let (ln x0) fun v2 => Let (isub v2 4) fun v3 => Let (clt v3 0) fun b4 => bif b4 then (some false) else (Jn (α := Int) (fun v7 => Bnd (upto? x0 v3) fun l8 => Bnd (m_crc_Sum l8) fun v10 => Let (ceq v10 v7) fun b11 => some b11) fun j5 => Bnd (loop (σ := Int × Int) (ρ := Int) (fun (v17, v18) => Let (clt v18 4) fun b19 => bif b19 then (Let (iadd v3 v18) fun v20 => Bnd (at? x0 v20) fun y21 => Let (IntKind.wrap .u32 y21) fun v25 => Let (IntKind.wrap .u64 v18) fun v26 => Let (binI .mul .u64 8 v26) fun v27 => Bnd (sh? v27) fun _ => Let (binI .shl .u32 v25 v27) fun v28 => Let (binI .or .u32 v17 v28) fun v29 => Let (iadd v18 1) fun v30 => some (.inl (v29, v30))) else (some (.inr v17))) (0, 0)) fun v19 => j5 v19)
/-- windrow/word.fits -/
def m_word_fits (x0 : List Int) (x1 : Int) (x2 : Int) : Option (Bool) :=
  Let (cge x2 1) fun b2 => bif b2 then (Let (cle x2 8) fun b3 => bif b3 then (Let (cge x1 0) fun b4 => bif b4 then (Let (ln x0) fun v5 => Let (isub v5 x2) fun v6 => Let (cle x1 v6) fun b7 => some b7) else (some false)) else (some false)) else (some false)
/-- windrow/word.Get -/
def m_word_Get (x0 : List Int) (x1 : Int) (x2 : Int) : Option (Int × Bool) :=
  Bnd (m_word_fits x0 x1 x2) fun b3 => Let (!b3) fun b4 => bif b4 then (some (0, false)) else (Jn (α := Int) (fun v7 => some (v7, true)) fun j5 => Bnd (loop (σ := Int × Int) (ρ := Int) (fun (v17, v18) => Let (clt v18 x2) fun b19 => bif b19 then (Let (iadd x1 v18) fun v20 => Bnd (at? x0 v20) fun y21 => Let (IntKind.wrap .u64 y21) fun v25 => Let (IntKind.wrap .u64 v18) fun v26 => Let (binI .mul .u64 8 v26) fun v27 => Bnd (sh? v27) fun _ => Let (binI .shl .u64 v25 v27) fun v28 => Let (binI .or .u64 v17 v28) fun v29 => Let (iadd v18 1) fun v30 => some (.inl (v29, v30))) else (some (.inr v17))) (0, 0)) fun v19 => j5 v19)
/-- windrow/rec.number -/
def m_rec_number (x0 : Ar 64) (x1 : Int) (x2 : Int) : Option (Int) :=
  Let (x0.l) fun l2 => Bnd (m_word_Get l2 x1 x2) fun (v5, b6) => Let (cgt v5 1099511627776) fun b7 => bif b7 then (some (-1)) else (Let (IntKind.wrap .i64 v5) fun v8 => some v8)
/-- windrow/rec.Right -/
def m_rec_Right (x0 : TRec) : Option (Bool) :=
  Let (Ar.zero 32) fun z32u8 => Jn (α := Unit) (fun _ => Let (((x0.Data.l == z32u8.l) && true)) fun b4 => Let (ceq x0.Kind 1) fun b5 => bif b5 then (Let (cge x0.Block 0) fun b6 => bif b6 then (Let (clt x0.Block 4096) fun b7 => bif b7 then (Let (ceq x0.Count 0) fun b8 => some b8) else (some false)) else (some false)) else (Let (ceq x0.Kind 2) fun b6 => bif b6 then (Let (cge x0.Block 0) fun b7 => bif b7 then (Let (clt x0.Block 4096) fun b8 => bif b8 then (Let (ceq x0.Count 0) fun b9 => bif b9 then (some b4) else (some false)) else (some false)) else (some false)) else (Let (ceq x0.Kind 3) fun b7 => bif b7 then (Let (ceq x0.Block 0) fun b8 => bif b8 then (Let (cge x0.Count 0) fun b9 => bif b9 then (Let (cle x0.Count 4096) fun b10 => bif b10 then (some b4) else (some false)) else (some false)) else (Let (ceq x0.Block 1) fun b9 => bif b9 then (Let (cge x0.Count 0) fun b10 => bif b10 then (Let (cle x0.Count 4096) fun b11 => bif b11 then (some b4) else (some false)) else (some false)) else (some false))) else (some false)))) fun j2 => Let (clt x0.Epoch 1) fun b4 => bif b4 then (some false) else (Let (cgt x0.Epoch 1099511627776) fun b5 => bif b5 then (some false) else (Let (clt x0.Seq 1) fun b6 => bif b6 then (some false) else (Let (cgt x0.Seq 1099511627776) fun b7 => bif b7 then (some false) else (j2 ()))))
/-- windrow/word.Put -/
def m_word_Put (x1 : Int) (x2 : Int) (x3 : Int) (o0 : Ar 64) : Option (Bool × (Ar 64)) :=
  Bnd (m_word_fits o0.l x1 x2) fun b3 => Let (!b3) fun b4 => bif b4 then (some (false, o0)) else (Jn (α := (Ar 64)) (fun a7 => some (true, a7)) fun j5 => Bnd (loop (σ := Int × (Ar 64)) (ρ := ((Ar 64))) (fun (v17, a18) => Let (clt v17 x2) fun b19 => bif b19 then (Let (iadd x1 v17) fun v20 => Let (IntKind.wrap .u64 v17) fun v21 => Let (binI .mul .u64 8 v21) fun v22 => Bnd (sh? v22) fun _ => Let (binI .shr .u64 x3 v22) fun v23 => Let (IntKind.wrap .u8 v23) fun v24 => Bnd (at? (a18.l) v20) fun v25 => Let (Ar.put a18 v20 v24) fun a29 => Let (iadd v17 1) fun v31 => some (.inl (v31, a29))) else (some (.inr a18))) (0, o0)) fun a19 => j5 a19)
/-- windrow/rec.Lay -/
def m_rec_Lay (x0 : TRec) : Option ((Ar 64)) :=
  Let (Ar.zero 64) fun z64u8 => Let (IntKind.wrap .u8 x0.Kind) fun v2 => Bnd (at? (z64u8.l) 0) fun v3 => Let (Ar.put z64u8 0 v2) fun a7 => Let (IntKind.wrap .u64 x0.Epoch) fun v9 => Bnd (m_word_Put 1 8 v9 a7) fun (b11, a12) => Let (IntKind.wrap .u64 x0.Seq) fun v13 => Bnd (m_word_Put 9 8 v13 a12) fun (b15, a16) => Let (IntKind.wrap .u64 x0.Block) fun v17 => Bnd (m_word_Put 17 4 v17 a16) fun (b19, a20) => Let (IntKind.wrap .u64 x0.Count) fun v21 => Bnd (m_word_Put 21 4 v21 a20) fun (b23, a24) => Let (Ar.cpAt a24 25 39 x0.Data.l) fun a25 => Let (copyN 39 x0.Data.l) fun v27 => Bnd (upto? (a25.l) 60) fun l29 => Bnd (m_crc_Sum l29) fun v36 => Let (IntKind.wrap .u64 v36) fun v37 => Bnd (m_word_Put 60 4 v37 a25) fun (b39, a40) => some a40
/-- windrow/rec.Read -/
def m_rec_Read (x0 : Ar 64) : Option (TRec × Int) :=
  Let (Ar.zero 32) fun z32u8 => Bnd (m_crc_Right x0.l) fun b3 => Let (!b3) fun b4 => bif b4 then (some ((TRec.mk 0 0 0 0 0 z32u8), 8)) else (Bnd (at? (x0.l) 0) fun v5 => Let (IntKind.wrap .i64 v5) fun v9 => Bnd (m_rec_number x0 1 8) fun v11 => Bnd (m_rec_number x0 9 8) fun v13 => Bnd (m_rec_number x0 17 4) fun v15 => Bnd (m_rec_number x0 21 4) fun v17 => Let (Ar.cpAt z32u8 0 32 ((x0.l.drop 25).take 39)) fun a18 => Let (copyN 32 ((x0.l.drop 25).take 39)) fun v20 => Bnd (m_rec_Right (TRec.mk v9 v11 v13 v15 v17 a18)) fun b23 => Let (!b23) fun b24 => bif b24 then (some ((TRec.mk 0 0 0 0 0 z32u8), 7)) else (Bnd (m_rec_Lay (TRec.mk v9 v11 v13 v15 v17 a18)) fun a26 => Let (!((a26.l == x0.l) && true)) fun b27 => bif b27 then (some ((TRec.mk 0 0 0 0 0 z32u8), 7)) else (some ((TRec.mk v9 v11 v13 v15 v17 a18), 0))))
/-- windrow/geom.Num -/
def m_geom_Num (x0 : TGeom) (x1 : TAt) : Option (Int) :=
  Jn (α := Unit) (fun _ => Let (isub x1.Zone x0.Conv) fun v4 => Let (imul v4 x0.Size) fun v5 => Let (iadd v5 x1.Off) fun v6 => Let (iadd v6 1) fun v7 => some v7) fun j2 => Let (clt x1.Zone x0.Conv) fun b4 => bif b4 then (some 0) else (Bnd (m_geom_Zones x0) fun v6 => Let (cge x1.Zone v6) fun b7 => bif b7 then (some 0) else (Let (clt x1.Off 0) fun b8 => bif b8 then (some 0) else (Let (cge x1.Off x0.Size) fun b9 => bif b9 then (some 0) else (j2 ()))))
/-- cmp.isNaN[int] -/
def m_cmp_isNaN (x0 : Int) : Option (Bool) :=
  Let (cne x0 x0) fun b2 => some b2
/-- cmp.Compare[int] -/
def m_cmp_Compare (x0 : Int) (x1 : Int) : Option (Int) :=
  Bnd (m_cmp_isNaN x0) fun b3 => Bnd (m_cmp_isNaN x1) fun b5 => bif b3 then (bif b5 then (some 0) else (some (-1))) else (bif b5 then (some 1) else (Let (clt x0 x1) fun b6 => bif b6 then (some (-1)) else (Let (cgt x0 x1) fun b7 => bif b7 then (some 1) else (some 0))))
/-- cmp.Or[int] -/
def m_cmp_Or (x0 : List Int) : Option (Int) :=
  Jn (α := Unit) (fun _ => some 0) fun j2 => Let (ln x0) fun v4 => Bnd (loop (σ := Int) (ρ := Sum Unit Int) (fun v15 => Let (clt v15 v4) fun b16 => bif b16 then (Bnd (at? x0 v15) fun y17 => Let (cne y17 0) fun b21 => bif b21 then (some (.inr (.inr y17))) else (Let (iadd v15 1) fun v22 => some (.inl v22))) else (some (.inr (.inl ())))) 0) fun q5 => (match q5 with | (.inl _) => j2 () | (.inr v16) => some v16)
/-- windrow/scan.All$1 -/
def m_scan_All_1 (x0 : TFound) (x1 : TFound) : Option (Int) :=
  Bnd (m_cmp_Compare x0.Rec.Seq x1.Rec.Seq) fun v3 => Bnd (m_cmp_Compare x0.Place x1.Place) fun v5 => Bnd (m_cmp_Or [v3, v5]) fun v7 => some v7
/-- (*windrow/dev.Device).Down -/
def m___dev_Device__Down (o0 : TDev_Device) : Option (Bool) :=
  some o0.down
/-- windrow/scan.down -/
def m_scan_down (o0 : TDev_Device) : Option (Int) :=
  Bnd (m___dev_Device__Down o0) fun b3 => bif b3 then (some 2) else (some 0)
/-- windrow/scan.All -/
def m_scan_All (x1 : TGeom) (x2 : Int) (x3 : Int) (o0 : TDev_Device) : Option ((List TFound) × Int × TDev_Device) :=
  Let (Ar.zero 32) fun z32u8 => Let (Ar.zero 64) fun z64u8 => Jn (α := TDev_Device × (List TFound)) (fun (o4, l5) => Bnd (srt2? (fun f : TFound => f.Rec.Seq) (fun f : TFound => f.Place) l5) fun l6 => Bnd (m_scan_down o4) fun v10 => some (l6, v10, o4)) fun j2 => Bnd (m___dev_Device__Zones o0) fun l5 => Let (ln l5) fun v6 => Bnd (loop (σ := Int × TDev_Device × (List TFound)) (ρ := Sum (TDev_Device × (List TFound)) ((Int × TDev_Device))) (fun (v17, o18, l19) => Let (clt v17 v6) fun b20 => bif b20 then (Jn (α := TDev_Device × (List TFound)) (fun (o23, l24) => Let (iadd v17 1) fun v25 => some (.inl (v25, o23, l24))) fun j21 => Bnd (at? l5 v17) fun y23 => Bnd (loop (σ := Int × TDev_Device × (List TFound)) (ρ := Sum (TDev_Device × (List TFound)) ((Int × TDev_Device))) (fun (v37, o38, l39) => Let (clt v37 y23.Point) fun b40 => bif b40 then (Bnd (m___dev_Device__Read (TAt.mk v17 v37) o38) fun (a42, v43, o44) => Let (cne v43 0) fun b45 => bif b45 then (some (.inr (.inr (v43, o44)))) else (Bnd (m_rec_Read a42) fun (o47, v48) => Jn (α := Bool) (fun b51 => bif b51 then (Bnd (m_geom_Num x1 (TAt.mk v17 v37)) fun v53 => Bnd (app? 80 l39 [(TFound.mk v53 o47)]) fun l54 => Let (iadd v37 1) fun v55 => some (.inl (v55, o44, l54))) else (Let (iadd v37 1) fun v52 => some (.inl (v52, o44, l39)))) fun j49 => Let (ceq v48 0) fun b51 => bif b51 then (Let (ceq o47.Epoch x2) fun b52 => bif b52 then (Let (cgt o47.Seq x3) fun b53 => j49 b53) else (j49 false)) else (j49 false))) else (some (.inr (.inl (o38, l39))))) (0, o18, l19)) fun q27 => (match q27 with | (.inl (o40, l41)) => j21 (o40, l41) | (.inr (v40, o41)) => some (.inr (.inr (v40, o41))))) else (some (.inr (.inl (o18, l19))))) (0, o0, ([] : List TFound))) fun q7 => (match q7 with | (.inl (o20, l21)) => j2 (o20, l21) | (.inr (v20, o21)) => some (([] : List TFound), v20, o21))
theorem w_eFound (hZ : ZS Ze Zn Za Zb Zm) (y : TFound) : LdW eFound [.int .i64, .int .i64, .int .i64, .int .i64, .int .i64, .int .i64, .big 32 .u8] true y (.agg [.d (.int .i64 y.Place), .d (.int .i64 y.Rec.Kind), .d (.int .i64 y.Rec.Epoch), .d (.int .i64 y.Rec.Seq), .d (.int .i64 y.Rec.Block), .d (.int .i64 y.Rec.Count), .big 32 (Za .u8 _ y.Rec.Data)]) := by
  obtain ⟨rfl, rfl, rfl, rfl, rfl⟩ := hZ
  refine ⟨_, ?_, rfl⟩
  rw [show eFound y = [.int .i64 y.Place, .int .i64 y.Rec.Kind, .int .i64 y.Rec.Epoch, .int .i64 y.Rec.Seq, .int .i64 y.Rec.Block, .int .i64 y.Rec.Count] ++ ((encL (eI .u8) y.Rec.Data.l) ++ []) from by first | rfl | simp [eFound]]
  exact .int (.int (.int (.int (.int (.int (.big ⟨eA_len _ _, by decide⟩ .nil))))))
/-- windrow/scan.Chain -/
def m_scan_Chain (x0 : List TFound) (x1 : Int) : Option ((List TFound)) :=
  Let (Ar.zero 32) fun z32u8 => Jn (α := (List TFound)) (fun l4 => some l4) fun j2 => Let (ln x0) fun v4 => Bnd (loop (σ := Int × Int × (List TFound)) (ρ := ((List TFound))) (fun (v15, v16, l17) => Let (clt v16 v4) fun b18 => bif b18 then (Bnd (at? x0 v16) fun y19 => Let (iadd v15 1) fun v23 => Let (ceq y19.Rec.Seq v23) fun b24 => bif b24 then (Bnd (app? 80 l17 [y19]) fun l25 => Let (iadd v15 1) fun v26 => Let (iadd v16 1) fun v27 => some (.inl (v26, v27, l25))) else (Let (iadd v16 1) fun v25 => some (.inl (v15, v25, l17)))) else (some (.inr l17))) (x1, 0, ([] : List TFound))) fun l18 => j2 l18
/-- windrow/scan.Last -/
def m_scan_Last (x0 : List TFound) (x1 : Int) : Option (Int) :=
  Bnd (m_scan_Chain x0 x1) fun l3 => Let (ln l3) fun v4 => Let (iadd x1 v4) fun v5 => some v5
theorem l_eFound_3_3 (hZ : ZS Ze Zn Za Zb Zm) (y : TFound) : LdS eFound 38 3 [.int .i64] false y (.d (.int .i64 y.Rec.Seq)) := by
  obtain ⟨rfl, rfl, rfl, rfl, rfl⟩ := hZ
  exact ⟨[.int .i64 y.Rec.Seq], _, by simp [encL_len (k := 1) (eI_len _), encL_len (k := 1) eBo_len, Ar.h], by first | rfl | simp [eFound, encL_len (k := 1) (eI_len _), encL_len (k := 1) eBo_len, Ar.h, takeA], (.int .nil), rfl⟩
theorem l_eFound_0_3 (hZ : ZS Ze Zn Za Zb Zm) (y : TFound) : LdS eFound 38 0 [.int .i64] false y (.d (.int .i64 y.Place)) := by
  obtain ⟨rfl, rfl, rfl, rfl, rfl⟩ := hZ
  exact ⟨[.int .i64 y.Place], _, by simp [encL_len (k := 1) (eI_len _), encL_len (k := 1) eBo_len, Ar.h], by first | rfl | simp [eFound, encL_len (k := 1) (eI_len _), encL_len (k := 1) eBo_len, Ar.h, takeA], (.int .nil), rfl⟩
/-- windrow/windrowlaw14.awake -/
def m_law14_awake  : Option (Bool) :=
  Let (Ar.zero 32) fun z32u8 => Bnd (m_law14_put 2 5) fun o3 => Bnd (m_law14_put 2 6) fun o5 => Bnd (m_law14_put 2 8) fun o7 => Bnd (m_law14_put 1 9) fun o9 => Bnd (m_ref14_Lay (TGeom.mk 2 8 6 8 3) [(TRef14_Step.mk 1 o3 false), (TRef14_Step.mk 0 o5 false), (TRef14_Step.mk 1 o7 false), (TRef14_Step.mk 1 o9 false)]) fun o11 => Bnd (m_scan_All (TGeom.mk 2 8 6 8 3) 2 4 o11) fun (l13, v14, o15) => Let (ceq v14 0) fun b16 => bif b16 then (Let (ln l13) fun v17 => Let (ceq v17 3) fun b18 => bif b18 then (Bnd (at? l13 0) fun y19 => Let (ceq y19.Place 9) fun b23 => bif b23 then (Bnd (at? l13 1) fun y24 => Let (ceq y24.Place 1) fun b28 => bif b28 then (Bnd (at? l13 2) fun y29 => Let (ceq y29.Rec.Seq 8) fun b33 => bif b33 then (Bnd (m_scan_Chain l13 4) fun l35 => Let (ln l35) fun v36 => Let (ceq v36 2) fun b37 => bif b37 then (Bnd (m_scan_Last l13 4) fun v39 => Let (ceq v39 6) fun b40 => bif b40 then (Bnd (m_scan_Last l13 6) fun v42 => Let (ceq v42 6) fun b43 => some b43) else (some false)) else (some false)) else (some false)) else (some false)) else (some false)) else (some false)) else (some false)
/-- windrow/windrowref14.Chain -/
def m_ref14_Chain (x0 : List TFound) (x1 : Int) : Option ((List TFound)) :=
  Bnd (loop (σ := Int × (List TFound)) (ρ := ((List TFound))) (fun (v12, l13) => Jn (α := Int) (fun v16 => Let (clt v16 0) fun b17 => bif b17 then (some (.inr l13)) else (Bnd (at? x0 v16) fun y18 => Bnd (app? 80 l13 [y18]) fun l22 => Let (iadd v16 1) fun v23 => some (.inl (v23, l22)))) fun j14 => Let (ln x0) fun v16 => Let (isub v16 1) fun v17 => Bnd (loop (σ := Int × Int) (ρ := Int) (fun (v28, v29) => Let (cge v29 v12) fun b30 => bif b30 then (Bnd (at? x0 v29) fun y31 => Let (iadd x1 1) fun v35 => Let (ln l13) fun v36 => Let (iadd v35 v36) fun v37 => Let (ceq y31.Rec.Seq v37) fun b38 => bif b38 then (Let (isub v29 1) fun v39 => some (.inl (v29, v39))) else (Let (isub v29 1) fun v39 => some (.inl (v28, v39)))) else (some (.inr v28))) ((-1), v17)) fun v30 => j14 v30) (0, ([] : List TFound))) fun l14 => some l14
/-- windrow/windrowref14.Same -/
def m_ref14_Same (x0 : List TFound) (x1 : List TFound) : Option (Bool) :=
  Let (ln x0) fun v2 => Let (ln x1) fun v3 => Let (cne v2 v3) fun b4 => bif b4 then (some false) else (Jn (α := Unit) (fun _ => some true) fun j5 => Bnd (loop (σ := Int) (ρ := Sum Unit Unit) (fun v17 => Let (ln x0) fun v18 => Let (clt v17 v18) fun b19 => bif b19 then (Bnd (at? x0 v17) fun y20 => Bnd (at? x1 v17) fun y24 => Let (!((y20.Place == y24.Place) && ((y20.Rec.Kind == y24.Rec.Kind) && ((y20.Rec.Epoch == y24.Rec.Epoch) && ((y20.Rec.Seq == y24.Rec.Seq) && ((y20.Rec.Block == y24.Rec.Block) && ((y20.Rec.Count == y24.Rec.Count) && ((y20.Rec.Data.l == y24.Rec.Data.l) && true)))))))) fun b28 => bif b28 then (some (.inr (.inr ()))) else (Let (iadd v17 1) fun v29 => some (.inl v29))) else (some (.inr (.inl ())))) 0) fun q7 => (match q7 with | (.inl _) => j5 () | (.inr _) => some false))
/-- windrow/windrowlaw14.ScanChains -/
def m_law14_ScanChains (x0 : List TFound) (x1 : Int) : Option (Bool) :=
  Jn (α := Unit) (fun _ => Bnd (m_ref14_Chain x0 x1) fun l5 => Bnd (m_scan_Chain x0 x1) fun l7 => Bnd (m_ref14_Same l7 l5) fun b9 => bif b9 then (Bnd (m_scan_Last x0 x1) fun v11 => Let (ln l5) fun v12 => Let (iadd x1 v12) fun v13 => Let (ceq v11 v13) fun b14 => some b14) else (some false)) fun j2 => Jn (α := Bool) (fun b6 => bif b6 then (Bnd (m_law14_awake ) fun b8 => some b8) else (j2 ())) fun j4 => Bnd (m_law14_awake ) fun b7 => Let (!b7) fun b8 => bif b8 then (j4 true) else (Let (ln x0) fun v9 => Let (cgt v9 60) fun b10 => bif b10 then (j4 true) else (Let (clt x1 0) fun b11 => bif b11 then (j4 true) else (Let (cgt x1 1099511627776) fun b12 => j4 b12)))
/-- windrow/windrowlaw14.ScanTwice -/
def m_law14_ScanTwice (x0 : List TFound) (x1 : Int) : Option (Bool) :=
  Jn (α := Unit) (fun _ => Bnd (m_scan_Chain x0 x1) fun l5 => Jn (α := Unit) (fun _ => Bnd (m_scan_Last x0 x1) fun v9 => Bnd (m_scan_Chain l5 x1) fun l11 => Bnd (m_ref14_Same l11 l5) fun b13 => bif b13 then (Let (ln l5) fun v14 => Let (iadd x1 v14) fun v15 => Let (ceq v9 v15) fun b16 => bif b16 then (Bnd (m_scan_Chain l5 v9) fun l18 => Let (ln l18) fun v19 => Let (ceq v19 0) fun b20 => some b20) else (some false)) else (some false)) fun j6 => Bnd (loop (σ := Int) (ρ := Sum Unit Unit) (fun v18 => Let (ln l5) fun v19 => Let (clt v18 v19) fun b20 => bif b20 then (Bnd (at? l5 v18) fun y21 => Let (iadd x1 1) fun v25 => Let (iadd v25 v18) fun v26 => Let (cne y21.Rec.Seq v26) fun b27 => bif b27 then (some (.inr (.inr ()))) else (Let (iadd v18 1) fun v28 => some (.inl v28))) else (some (.inr (.inl ())))) 0) fun q8 => (match q8 with | (.inl _) => j6 () | (.inr _) => some false)) fun j2 => Jn (α := Bool) (fun b6 => bif b6 then (Bnd (m_law14_awake ) fun b8 => some b8) else (j2 ())) fun j4 => Bnd (m_law14_awake ) fun b7 => Let (!b7) fun b8 => bif b8 then (j4 true) else (Let (ln x0) fun v9 => Let (cgt v9 60) fun b10 => bif b10 then (j4 true) else (Let (clt x1 0) fun b11 => bif b11 then (j4 true) else (Let (cgt x1 549755813888) fun b12 => j4 b12)))
/-- windrow/windrowref03.Blocks -/
def m_ref03_Blocks (x0 : TGeom) : Option (Int) :=
  Jn (α := Int) (fun v4 => Let (cgt v4 4096) fun b5 => bif b5 then (some 4096) else (some v4)) fun j2 => Bnd (loop (σ := Int × Int) (ρ := Int) (fun (v14, v15) => Let (clt v15 x0.Seq) fun b16 => bif b16 then (Bnd (nz? 2) fun _ => Let (binI .quo .i64 x0.Size 2) fun v17 => Let (iadd v14 v17) fun v18 => Let (iadd v15 1) fun v19 => some (.inl (v18, v19))) else (some (.inr v14))) (0, 5)) fun v16 => j2 v16
/-- windrow/windrowref03.Pages -/
def m_ref03_Pages (x0 : TGeom) : Option (Int) :=
  Jn (α := Int) (fun v4 => some v4) fun j2 => Bnd (loop (σ := Int) (ρ := Int) (fun v14 => Let (imul 10 v14) fun v15 => Bnd (m_ref03_Blocks x0) fun v17 => Let (clt v15 v17) fun b18 => bif b18 then (Let (iadd v14 1) fun v19 => some (.inl v19)) else (some (.inr v14))) 0) fun v15 => j2 v15
/-- windrow/windrowref03.Right -/
def m_ref03_Right (x0 : TGeom) : Option (Bool) :=
  Jn (α := Unit) (fun _ => Jn (α := Unit) (fun _ => Bnd (m_ref03_Pages x0) fun v7 => Let (iadd v7 3) fun v8 => Let (cge x0.Soft v8) fun b9 => some b9) fun j4 => Let (clt x0.Size 8) fun b6 => bif b6 then (some false) else (Let (cgt x0.Size 256) fun b7 => bif b7 then (some false) else (Let (clt x0.Open 3) fun b8 => bif b8 then (some false) else (Let (cgt x0.Soft 65536) fun b9 => bif b9 then (some false) else (j4 ()))))) fun j2 => Let (clt x0.Conv 2) fun b4 => bif b4 then (some false) else (Let (cgt x0.Conv 64) fun b5 => bif b5 then (some false) else (Let (clt x0.Seq 6) fun b6 => bif b6 then (some false) else (Let (cgt x0.Seq 64) fun b7 => bif b7 then (some false) else (Let (iadd x0.Conv x0.Seq) fun v8 => Let (cgt v8 64) fun b9 => bif b9 then (some false) else (j2 ())))))
/-- windrow/windrowref14.Little -/
def m_ref14_Little (x0 : TGeom) : Option (Bool) :=
  Bnd (m_ref03_Right x0) fun b3 => bif b3 then (Let (iadd x0.Conv x0.Seq) fun v4 => Let (cle v4 14) fun b5 => bif b5 then (Let (cle x0.Size 24) fun b6 => bif b6 then (Let (cle x0.Soft 60) fun b7 => some b7) else (some false)) else (some false)) else (some false)
/-- windrow/windrowref06.Summed -/
def m_ref06_Summed (x0 : Ar 64) : Option (Bool) :=
  Jn (α := (List Int)) (fun l4 => Bnd (m_ref02_Seal l4) fun l6 => Jn (α := Unit) (fun _ => some true) fun j7 => Bnd (loop (σ := Int) (ρ := Sum Unit Unit) (fun v19 => Let (clt v19 64) fun b20 => bif b20 then (Bnd (at? l6 v19) fun y21 => Bnd (at? (x0.l) v19) fun v25 => Let (cne y21 v25) fun b29 => bif b29 then (some (.inr (.inr ()))) else (Let (iadd v19 1) fun v30 => some (.inl v30))) else (some (.inr (.inl ())))) 60) fun q9 => (match q9 with | (.inl _) => j7 () | (.inr _) => some false)) fun j2 => Bnd (loop (σ := Int × (List Int)) (ρ := ((List Int))) (fun (v14, l15) => Let (clt v14 60) fun b16 => bif b16 then (Bnd (at? (x0.l) v14) fun v17 => Bnd (app? 1 l15 [v17]) fun l21 => Let (iadd v14 1) fun v22 => some (.inl (v22, l21))) else (some (.inr l15))) (0, ([] : List Int))) fun l16 => j2 l16
/-- windrow/windrowref06.high -/
def m_ref06_high (x0 : Ar 64) (x1 : Int) (x2 : Int) : Option (Int) :=
  Jn (α := Int) (fun v4 => some v4) fun j2 => Let (iadd x1 x2) fun v4 => Let (isub v4 1) fun v5 => Bnd (loop (σ := Int × Int) (ρ := Sum Int Unit) (fun (v16, v17) => Let (cge v17 x1) fun b18 => bif b18 then (Let (imul v16 256) fun v19 => Bnd (at? (x0.l) v17) fun v20 => Let (IntKind.wrap .i64 v20) fun v24 => Let (iadd v19 v24) fun v25 => Let (cgt v25 1099511627776) fun b26 => bif b26 then (some (.inr (.inr ()))) else (Let (isub v17 1) fun v27 => some (.inl (v25, v27)))) else (some (.inr (.inl v16)))) (0, v5)) fun q6 => (match q6 with | (.inl v18) => j2 v18 | (.inr _) => some (-1))
/-- windrow/windrowref06.Right -/
def m_ref06_Right (x0 : TRec) : Option (Bool) :=
  Let (Ar.zero 32) fun z32u8 => Jn (α := Unit) (fun _ => Jn (α := Unit) (fun _ => Let (ceq x0.Kind 3) fun b6 => bif b6 then (Let (cge x0.Block 0) fun b7 => bif b7 then (Let (cle x0.Block 1) fun b8 => bif b8 then (Let (cge x0.Count 0) fun b9 => bif b9 then (Let (cle x0.Count 4096) fun b10 => some b10) else (some false)) else (some false)) else (some false)) else (Let (cge x0.Block 0) fun b7 => bif b7 then (Let (clt x0.Block 4096) fun b8 => bif b8 then (Let (ceq x0.Count 0) fun b9 => some b9) else (some false)) else (some false))) fun j4 => Let (cne x0.Kind 1) fun b6 => bif b6 then (Let (!((x0.Data.l == z32u8.l) && true)) fun b7 => bif b7 then (some false) else (j4 ())) else (j4 ())) fun j2 => Let (clt x0.Epoch 1) fun b4 => bif b4 then (some false) else (Let (clt x0.Seq 1) fun b5 => bif b5 then (some false) else (Let (cgt x0.Epoch 1099511627776) fun b6 => bif b6 then (some false) else (Let (cgt x0.Seq 1099511627776) fun b7 => bif b7 then (some false) else (Let (clt x0.Kind 1) fun b8 => bif b8 then (some false) else (Let (cgt x0.Kind 3) fun b9 => bif b9 then (some false) else (j2 ()))))))
/-- windrow/windrowref06.Read -/
def m_ref06_Read (x0 : Ar 64) : Option (TRec × Int) :=
  Let (Ar.zero 32) fun z32u8 => Bnd (m_ref06_Summed x0) fun b3 => Let (!b3) fun b4 => bif b4 then (some ((TRec.mk 0 0 0 0 0 z32u8), 8)) else (Bnd (at? (x0.l) 0) fun v5 => Let (IntKind.wrap .i64 v5) fun v9 => Bnd (m_ref06_high x0 1 8) fun v11 => Bnd (m_ref06_high x0 9 8) fun v13 => Bnd (m_ref06_high x0 17 4) fun v15 => Bnd (m_ref06_high x0 21 4) fun v17 => Jn (α := TRec) (fun o20 => Bnd (m_ref06_Right o20) fun b22 => Let (!b22) fun b23 => bif b23 then (some ((TRec.mk 0 0 0 0 0 z32u8), 7)) else (Bnd (at? (x0.l) 57) fun v24 => Let (cne v24 0) fun b28 => bif b28 then (some ((TRec.mk 0 0 0 0 0 z32u8), 7)) else (Bnd (at? (x0.l) 58) fun v29 => Let (cne v29 0) fun b33 => bif b33 then (some ((TRec.mk 0 0 0 0 0 z32u8), 7)) else (Bnd (at? (x0.l) 59) fun v34 => Let (cne v34 0) fun b38 => bif b38 then (some ((TRec.mk 0 0 0 0 0 z32u8), 7)) else (some (o20, 0)))))) fun j18 => Bnd (loop (σ := Int × TRec) (ρ := TRec) (fun (v30, o31) => Let (clt v30 32) fun b32 => bif b32 then (Let (iadd 25 v30) fun v33 => Bnd (at? (x0.l) v33) fun v34 => Bnd (at? (o31.Data.l) v30) fun v38 => Let (Ar.put o31.Data v30 v34) fun a42 => Let (iadd v30 1) fun v44 => some (.inl (v44, (TRec.mk o31.Kind o31.Epoch o31.Seq o31.Block o31.Count a42)))) else (some (.inr o31))) (0, (TRec.mk v9 v11 v13 v15 v17 z32u8))) fun o32 => j18 o32)
/-- windrow/windrowref03.Num -/
def m_ref03_Num (x0 : TGeom) (x1 : TAt) : Option (Int) :=
  Jn (α := Unit) (fun _ => some 0) fun j2 => Bnd (loop (σ := Int × Int) (ρ := Sum Unit Int) (fun (v14, v15) => Let (iadd x0.Conv x0.Seq) fun v16 => Let (clt v15 v16) fun b17 => bif b17 then (Jn (α := Int) (fun v20 => Let (iadd v15 1) fun v21 => some (.inl (v20, v21))) fun j18 => Bnd (loop (σ := Int × Int) (ρ := Sum Int Int) (fun (v30, v31) => Let (clt v31 x0.Size) fun b32 => bif b32 then (Let (iadd v30 1) fun v33 => Let (ceq x1.Zone v15) fun b34 => bif b34 then (Let (ceq x1.Off v31) fun b35 => bif b35 then (some (.inr (.inr v33))) else (Let (iadd v31 1) fun v36 => some (.inl (v33, v36)))) else (Let (iadd v31 1) fun v35 => some (.inl (v33, v35)))) else (some (.inr (.inl v30)))) (v14, 0)) fun q20 => (match q20 with | (.inl v32) => j18 v32 | (.inr v32) => some (.inr (.inr v32)))) else (some (.inr (.inl ())))) (0, x0.Conv)) fun q4 => (match q4 with | (.inl _) => j2 () | (.inr v16) => some v16)
/-- windrow/windrowref14.All -/
def m_ref14_All (x1 : TGeom) (x2 : Int) (x3 : Int) (o0 : TDev_Device) : Option ((List TFound) × TDev_Device) :=
  Let (Ar.zero 32) fun z32u8 => Let (Ar.zero 64) fun z64u8 => Bnd (m___dev_Device__Zones o0) fun l3 => Jn (α := TDev_Device × (List TFound)) (fun (o6, l7) => some (l7, o6)) fun j4 => Bnd (loop (σ := Int × TDev_Device × (List TFound)) (ρ := (TDev_Device × (List TFound))) (fun (v16, o17, l18) => Let (ln l3) fun v19 => Let (clt v16 v19) fun b20 => bif b20 then (Jn (α := TDev_Device × (List TFound)) (fun (o23, l24) => Let (iadd v16 1) fun v25 => some (.inl (v25, o23, l24))) fun j21 => Bnd (loop (σ := Int × TDev_Device × (List TFound)) (ρ := (TDev_Device × (List TFound))) (fun (v33, o34, l35) => Bnd (at? l3 v16) fun y36 => Let (clt v33 y36.Point) fun b40 => bif b40 then (Jn (α := TDev_Device × (List TFound)) (fun (o43, l44) => Let (iadd v33 1) fun v45 => some (.inl (v45, o43, l44))) fun j41 => Bnd (m___dev_Device__Read (TAt.mk v16 v33) o34) fun (a44, v45, o46) => Bnd (m_ref06_Read a44) fun (o48, v49) => Jn (α := Unit) (fun _ => Bnd (m_ref03_Num x1 (TAt.mk v16 v33)) fun v53 => Let (ln l35) fun v54 => Bnd (app? 80 l35 [(TFound.mk v53 o48)]) fun l55 => Jn (α := Int × (List TFound)) (fun (v58, l59) => Bnd (at? l59 v58) fun y60 => Let (set' l59 v58 (TFound.mk v53 o48)) fun l64 => j41 (o46, l64)) fun j56 => Bnd (loop (σ := Int × (List TFound)) (ρ := (Int × (List TFound))) (fun (v68, l69) => Jn (α := Unit) (fun _ => Let (isub v68 1) fun v72 => Bnd (at? l69 v72) fun y73 => Bnd (at? l69 v68) fun y77 => Let (set' l69 v68 y73) fun l81 => Let (isub v68 1) fun v83 => some (.inl (v83, l81))) fun j70 => Let (cgt v68 0) fun b72 => bif b72 then (Let (isub v68 1) fun v73 => Bnd (at? l69 v73) fun y74 => Let (cgt y74.Rec.Seq o48.Seq) fun b78 => bif b78 then (j70 ()) else (some (.inr (v68, l69)))) else (some (.inr (v68, l69)))) (v54, l55)) fun (v70, l71) => j56 (v70, l71)) fun j50 => Let (cne v49 0) fun b52 => bif b52 then (j41 (o46, l35)) else (Let (cne o48.Epoch x2) fun b53 => bif b53 then (j41 (o46, l35)) else (Let (cle o48.Seq x3) fun b54 => bif b54 then (j41 (o46, l35)) else (j50 ())))) else (some (.inr (o34, l35)))) (0, o17, l18)) fun (o36, l37) => j21 (o36, l37)) else (some (.inr (o17, l18)))) (0, o0, ([] : List TFound))) fun (o19, l20) => j4 (o19, l20)
/-- (*windrow/dev.Device).Illegal -/
def m___dev_Device__Illegal (o0 : TDev_Device) : Option (Int) :=
  some o0.illegal
/-- (*windrow/dev.Device).Arm -/
def m___dev_Device__Arm (x1 : Int) (o0 : TDev_Device) : Option (TDev_Device) :=
  bif o0.down then (some o0) else (Let (ceq x1 0) fun b3 => some (TDev_Device.mk o0.g o0.zones o0.finished o0.safe o0.now o0.cached x1 b3 o0.illegal))
/-- windrow/windrowlaw14.ScanAlls -/
def m_law14_ScanAlls (x0 : TGeom) (x1 : List TRef14_Step) (x2 : Int) (x3 : Int) : Option (Bool) :=
  Jn (α := Unit) (fun _ => Bnd (m_ref14_Lay x0 x1) fun o5 => Bnd (m_scan_All x0 x2 x3 o5) fun (l7, v8, o9) => Jn (α := TDev_Device) (fun o12 => Bnd (m___dev_Device__Illegal o12) fun v14 => Bnd (m___dev_Device__Arm 0 o12) fun o16 => Bnd (m_scan_All x0 x2 x3 o16) fun (l18, v19, o20) => Let (ceq v19 2) fun b21 => bif b21 then (Let (ln l18) fun v22 => Let (ceq v22 0) fun b23 => bif b23 then (Bnd (m___dev_Device__Illegal o20) fun v25 => Let (ceq v25 v14) fun b26 => some b26) else (some false)) else (some false)) fun j10 => Let (cne v8 0) fun b12 => bif b12 then (some false) else (Bnd (m_ref14_All x0 x2 x3 o9) fun (l14, o15) => Bnd (m_ref14_Same l7 l14) fun b17 => Let (!b17) fun b18 => bif b18 then (some false) else (j10 o15))) fun j2 => Jn (α := Bool) (fun b6 => bif b6 then (Bnd (m_law14_awake ) fun b8 => some b8) else (j2 ())) fun j4 => Bnd (m_law14_awake ) fun b7 => Let (!b7) fun b8 => bif b8 then (j4 true) else (Bnd (m_ref14_Little x0) fun b10 => Let (!b10) fun b11 => bif b11 then (j4 true) else (Let (ln x1) fun v12 => Let (cgt v12 60) fun b13 => j4 b13))
structure TWreck where
  Keep : List Int
  Soft : Int
  Tear : Int
/-- (*windrow/dev.Device).keep -/
def m___dev_Device__keep (x1 : TWreck) (x2 : Int) (o0 : TDev_Device) : Option (Int) :=
  Let (isub x2 o0.g.Conv) fun v2 => Let (ln x1.Keep) fun v3 => Let (clt v2 v3) fun b4 => bif b4 then (Bnd (at? x1.Keep v2) fun y5 => Let (if 0 > y5 then 0 else y5) fun v9 => some v9) else (some 0)
/-- (*windrow/dev.Device).tear -/
def m___dev_Device__tear (x1 : TDev_write) (x2 : Int) (o0 : TDev_Device) : Option (TDev_Device) :=
  Let (Ar.zero 64) fun z64u8 => Jn (α := (Ar 64)) (fun a4 => Let (if 64 < x2 then 64 else x2) fun v5 => Bnd (upto? (a4.l) v5) fun l6 => Bnd (upto? (x1.page.l) v5) fun l12 => Let (Ar.cp a4 (l6.length) l12) fun a18 => Let (copyN (l6.length) l12) fun v20 => Let (gSet eAt o0.safe x1.at_ a18) fun m22 => some (TDev_Device.mk o0.g o0.zones o0.finished m22 o0.now o0.cached o0.left_ o0.down o0.illegal)) fun j2 => Let (clt x1.at_.Zone o0.g.Conv) fun b4 => bif b4 then (Let (gGet eAt o0.safe x1.at_) fun o5 => Let (Option.getD o5 z64u8) fun y6 => Let (Option.isSome o5) fun b7 => j2 y6) else (j2 z64u8)
theorem w_eDev_write (hZ : ZS Ze Zn Za Zb Zm) (y : TDev_write) : LdW eDev_write [.int .i64, .int .i64, .big 64 .u8] true y (.agg [.d (.int .i64 y.at_.Zone), .d (.int .i64 y.at_.Off), .big 64 (Za .u8 _ y.page)]) := by
  obtain ⟨rfl, rfl, rfl, rfl, rfl⟩ := hZ
  refine ⟨_, ?_, rfl⟩
  rw [show eDev_write y = [.int .i64 y.at_.Zone, .int .i64 y.at_.Off] ++ ((encL (eI .u8) y.page.l) ++ []) from by first | rfl | simp [eDev_write]]
  exact .int (.int (.big ⟨eA_len _ _, by decide⟩ .nil))
/-- windrow/zone.shut -/
def m_zone_shut (x0 : List TZone) (x0i : Int) (x0y : TZone) : Option ((List TZone)) :=
  Let (set' x0 x0i (TZone.mk 2 x0y.Point)) fun l5 => Bnd (at? l5 x0i) fun y7 => Let (ceq y7.Point 0) fun b9 => bif b9 then (Bnd (at? l5 x0i) fun y10 => Let (set' l5 x0i (TZone.mk 0 y10.Point)) fun l12 => some l12) else (some l5)
/-- windrow/zone.Power -/
def m_zone_Power (x0 : List TZone) : Option ((List TZone)) :=
  Bnd (m_slices_Clone x0) fun l3 => Jn (α := (List TZone)) (fun l6 => some l6) fun j4 => Let (ln l3) fun v6 => Bnd (loop (σ := Int × (List TZone)) (ρ := ((List TZone))) (fun (v17, l18) => Let (clt v17 v6) fun b19 => bif b19 then (Bnd (at? l18 v17) fun y20 => Let (ceq y20.State 1) fun b24 => bif b24 then (Bnd (at? l18 v17) fun y25 => Bnd (m_zone_shut l18 v17 y25) fun l30 => Bnd (lenq l30 l18) fun _ => Let (iadd v17 1) fun v31 => some (.inl (v31, l30))) else (Let (iadd v17 1) fun v25 => some (.inl (v25, l18)))) else (some (.inr l18))) (0, l3)) fun l19 => j4 l19
/-- (*windrow/dev.Device).wake -/
def m___dev_Device__wake (o0 : TDev_Device) : Option (TDev_Device) :=
  Let (Ar.zero 64) fun z64u8 => Bnd (m_zone_Power o0.zones) fun l3 => Jn (α := TDev_Device) (fun o6 => some (TDev_Device.mk o6.g o6.zones o6.finished o6.safe o6.safe ([] : List TDev_write) (-1) false o6.illegal)) fun j4 => Bnd (loop (σ := Int × TDev_Device) (ρ := TDev_Device) (fun (v16, o17) => Let (ln o17.zones) fun v18 => Let (clt v16 v18) fun b19 => bif b19 then (Jn (α := TDev_Device) (fun o22 => Let (iadd v16 1) fun v23 => some (.inl (v23, o22))) fun j20 => Jn (α := Int) (fun v24 => Bnd (at? o17.zones v16) fun y25 => Let (set' o17.zones v16 (TZone.mk y25.State v24)) fun l29 => Let (gGet (eI .i64) o17.finished v16) fun o31 => Let (Option.getD o31 false) fun y32 => Let (Option.isSome o31) fun b33 => bif y32 then (j20 (TDev_Device.mk o17.g l29 o17.finished o17.safe o17.now o17.cached o17.left_ o17.down o17.illegal)) else (Let (ceq v24 0) fun b35 => bif b35 then (Bnd (at? l29 v16) fun y36 => Let (set' l29 v16 (TZone.mk 0 y36.Point)) fun l38 => j20 (TDev_Device.mk o17.g l38 o17.finished o17.safe o17.now o17.cached o17.left_ o17.down o17.illegal)) else (Let (clt v24 o17.g.Size) fun b36 => bif b36 then (Bnd (at? l29 v16) fun y37 => Let (set' l29 v16 (TZone.mk 2 y37.Point)) fun l39 => j20 (TDev_Device.mk o17.g l39 o17.finished o17.safe o17.now o17.cached o17.left_ o17.down o17.illegal)) else (j20 (TDev_Device.mk o17.g l29 o17.finished o17.safe o17.now o17.cached o17.left_ o17.down o17.illegal))))) fun j22 => Bnd (loop (σ := Int) (ρ := Int) (fun v34 => Let (clt v34 o17.g.Size) fun b35 => bif b35 then (Let (gGet eAt o17.safe (TAt.mk v16 v34)) fun o36 => Let (Option.getD o36 z64u8) fun y37 => Let (Option.isSome o36) fun b38 => Let (!b38) fun b39 => bif b39 then (some (.inr v34)) else (Let (iadd v34 1) fun v40 => some (.inl v40))) else (some (.inr v34))) 0) fun v35 => j22 v35) else (some (.inr o17))) (o0.g.Conv, (TDev_Device.mk o0.g l3 o0.finished o0.safe o0.now o0.cached o0.left_ o0.down o0.illegal))) fun o18 => j4 o18
/-- (*windrow/dev.Device).Crash -/
def m___dev_Device__Crash (x1 : TWreck) (o0 : TDev_Device) : Option (TDev_Device) :=
  Let (Ar.zero 64) fun z64u8 => Jn (α := TDev_Device) (fun o4 => Bnd (m___dev_Device__wake o4) fun o6 => some (TDev_Device.mk o6.g o6.zones o6.finished o6.safe o6.now ([] : List TDev_write) o6.left_ o6.down o6.illegal)) fun j2 => Let (ln o0.cached) fun v4 => Bnd (loop (σ := Int × Int × TDev_Device × (List (Int × Int))) (ρ := TDev_Device) (fun (v15, v16, o17, m18) => Let (clt v16 v4) fun b19 => bif b19 then (Bnd (at? o17.cached v16) fun y20 => Jn (α := Int × Bool × Bool × (List (Int × Int))) (fun (v26, b27, b28, m29) => bif b27 then (Let (gSet eAt o17.safe y20.at_ y20.page) fun m30 => Let (iadd v16 1) fun v31 => some (.inl (v26, v31, (TDev_Device.mk o17.g o17.zones o17.finished m30 o17.now o17.cached o17.left_ o17.down o17.illegal), m29))) else (Jn (α := Bool) (fun b32 => bif b32 then (Bnd (m___dev_Device__tear y20 x1.Tear o17) fun o34 => Bnd (lenq o34.cached o17.cached) fun _ => Let (iadd v16 1) fun v35 => some (.inl (v26, v35, o34, m29))) else (Let (iadd v16 1) fun v33 => some (.inl (v26, v33, o17, m29)))) fun j30 => Let (ln o17.cached) fun v32 => Let (isub v32 1) fun v33 => Let (ceq v16 v33) fun b34 => bif b34 then (bif b28 then (Let (cgt x1.Tear 0) fun b35 => j30 b35) else (j30 false)) else (j30 false))) fun j24 => Let (clt y20.at_.Zone o17.g.Conv) fun b26 => bif b26 then (Bnd (nz? 64) fun _ => Let (binI .rem .i64 v15 64) fun v27 => Let (IntKind.wrap .u64 v27) fun v28 => Bnd (sh? v28) fun _ => Let (binI .shr .u64 x1.Soft v28) fun v29 => Let (binI .and .u64 v29 1) fun v30 => Let (ceq v30 1) fun b31 => Let (iadd v15 1) fun v32 => j24 (v32, b31, true, m18)) else (Let (gGet (eI .i64) m18 y20.at_.Zone) fun o27 => Let (Option.getD o27 0) fun y28 => Let (Option.isSome o27) fun b29 => Bnd (m___dev_Device__keep x1 y20.at_.Zone o17) fun v31 => Let (clt y28 v31) fun b32 => Let (gGet (eI .i64) m18 y20.at_.Zone) fun o33 => Let (Option.getD o33 0) fun y34 => Let (Option.isSome o33) fun b35 => Bnd (m___dev_Device__keep x1 y20.at_.Zone o17) fun v37 => Let (ceq y34 v37) fun b38 => Let (gGet (eI .i64) m18 y20.at_.Zone) fun o39 => Let (Option.getD o39 0) fun y40 => Let (Option.isSome o39) fun b41 => Let (iadd y40 1) fun v42 => Let (gSet (eI .i64) m18 y20.at_.Zone v42) fun m43 => j24 (v15, b32, b38, m43))) else (some (.inr o17))) (0, 0, o0, ([] : List (Int × Int)))) fun o19 => j2 o19
/-- windrow/windrowlaw14.ScanPrefix -/
def m_law14_ScanPrefix (x0 : TGeom) (x1 : List Int) (x2 : Int) (x3 : TWreck) : Option (Bool) :=
  Let (Ar.zero 32) fun z32u8 => Jn (α := Unit) (fun _ => Jn (α := (List TRef14_Step)) (fun l6 => Bnd (m_ref14_Lay x0 l6) fun o8 => Let (IntKind.wrap .i64 x2) fun v9 => Bnd (m_scan_All x0 7 v9 o8) fun (l11, v12, o13) => Bnd (m___dev_Device__Crash (TWreck.mk x3.Keep x3.Soft 0) o13) fun o15 => Let (IntKind.wrap .i64 x2) fun v16 => Bnd (m_scan_All x0 7 v16 (TDev_Device.mk o15.g o15.zones o15.finished o15.safe o15.now ([] : List TDev_write) o15.left_ o15.down o15.illegal)) fun (l18, v19, o20) => Jn (α := Unit) (fun _ => Let (IntKind.wrap .i64 x2) fun v23 => Bnd (m_scan_Chain l18 v23) fun l25 => Jn (α := Unit) (fun _ => Jn (α := Unit) (fun _ => Let (ln l25) fun v30 => Let (IntKind.wrap .i64 x2) fun v31 => Bnd (m_scan_Chain l11 v31) fun l33 => Let (ln l33) fun v34 => Let (ceq v30 v34) fun b35 => bif b35 then (some true) else (Let (ln l18) fun v36 => Let (ln l11) fun v37 => Let (clt v36 v37) fun b38 => some b38)) fun j28 => Bnd (loop (σ := Int) (ρ := Sum Unit Unit) (fun v40 => Let (ln l18) fun v41 => Let (clt v40 v41) fun b42 => bif b42 then (Bnd (at? l18 v40) fun y43 => Let (IntKind.wrap .i64 x2) fun v47 => Let (ln l25) fun v48 => Let (iadd v47 v48) fun v49 => Let (iadd v49 1) fun v50 => Let (ceq y43.Rec.Seq v50) fun b51 => bif b51 then (some (.inr (.inr ()))) else (Let (iadd v40 1) fun v52 => some (.inl v52))) else (some (.inr (.inl ())))) 0) fun q30 => (match q30 with | (.inl _) => j28 () | (.inr _) => some false)) fun j26 => Let (ln l25) fun v28 => Let (ln l11) fun v29 => Let (cgt v28 v29) fun b30 => bif b30 then (some false) else (Let (ln l25) fun v31 => Bnd (upto? l11 v31) fun l32 => Bnd (m_ref14_Same l25 l32) fun b34 => Let (!b34) fun b35 => bif b35 then (some false) else (j26 ()))) fun j21 => Let (cne v12 0) fun b23 => bif b23 then (some false) else (Let (cne v19 0) fun b24 => bif b24 then (some false) else (j21 ()))) fun j4 => Bnd (loop (σ := Int × (List TRef14_Step)) (ρ := ((List TRef14_Step))) (fun (v16, l17) => Let (ln x1) fun v18 => Let (clt v16 v18) fun b19 => bif b19 then (Bnd (at? x1 v16) fun y20 => Bnd (nz? 3) fun _ => Let (binI .rem .u8 y20 3) fun v24 => Let (IntKind.wrap .i64 x2) fun v25 => Let (iadd v25 v16) fun v26 => Let (iadd v26 1) fun v27 => Bnd (m_law14_put 7 v27) fun o29 => Bnd (app? 88 l17 [(TRef14_Step.mk v24 o29 false)]) fun l30 => Let (iadd v16 1) fun v31 => some (.inl (v31, l30))) else (some (.inr l17))) (0, ([] : List TRef14_Step))) fun l18 => j4 l18) fun j2 => Jn (α := Bool) (fun b6 => bif b6 then (Bnd (m_law14_awake ) fun b8 => some b8) else (j2 ())) fun j4 => Bnd (m_law14_awake ) fun b7 => Let (!b7) fun b8 => bif b8 then (j4 true) else (Bnd (m_ref14_Little x0) fun b10 => Let (!b10) fun b11 => bif b11 then (j4 true) else (Let (ln x1) fun v12 => Let (cgt v12 60) fun b13 => j4 b13))
end Go.AX
