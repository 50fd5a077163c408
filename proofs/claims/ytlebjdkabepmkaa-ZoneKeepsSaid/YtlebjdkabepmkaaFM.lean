/- Functions of the program as Lean functions. -/
import Derived.Test.YtlebjdkabepmkaaF0
namespace Go.AX
open Go.Proofs
set_option autoImplicit false
set_option linter.unusedVariables false
set_option maxRecDepth 100000
set_option maxHeartbeats 4000000
set_option linter.unusedSimpArgs false

structure TGeom where
  Conv : Int
  Soft : Int
  Seq : Int
  Size : Int
  Open : Int
structure TZone where
  State : Int
  Point : Int
def eZone (y : TZone) : List D := [.int .i64 y.State, .int .i64 y.Point]
theorem eZone_len (a : TZone) : (eZone a).length = 2 := rfl
theorem eZone_noL (a : TZone) : ∀ d ∈ eZone a, d.noL := by intro d hd; simp [eZone] at hd; rcases hd with rfl | rfl <;> trivial
structure TAt where
  Zone : Int
  Off : Int
/-- windrow/windrowlaw04.measure -/
def m_law04_measure  : Option (TGeom) :=
  some (TGeom.mk 2 8 6 8 3)
/-- windrow/geom.Zones -/
def m_geom_Zones (x0 : TGeom) : Option (Int) :=
  Let (iadd x0.Conv x0.Seq) fun v8 => some v8
/-- windrow/zone.New -/
def m_zone_New (x0 : TGeom) : Option ((List TZone)) :=
  Bnd (m_geom_Zones x0) fun r11 => Bnd (mk? 16 (TZone.mk 0 0) r11 r11) fun l14 => Bnd (loop (σ := Int × (List TZone)) (ρ := ((List TZone))) (fun s28 => Let (clt s28.1 x0.Conv) fun b33 => bif b33 then (Bnd (at? s28.2 s28.1) fun y34 => Let (set' s28.2 s28.1 (TZone.mk 4 y34.Point)) fun l40 => Let (iadd s28.1 1) fun v43 => some (.inl (v43, l40))) else (some (.inr (s28.2)))) (0, l14)) fun q18 => some q18
/-- slices.Clone[[]windrow/api.Zone,windrow/api.Zone] -/
def m_slices_Clone (x0 : List TZone) : Option (List TZone) := Bnd (app? 16 ([] : List TZone) x0) fun x => some x
/-- windrow/geom.Sectors -/
def m_geom_Sectors (x0 : TGeom) (x1 : Int) : Option (Int) :=
  Jn (α := Bool) (fun q9 => bif q9 then (some 0) else (Let (clt x1 x0.Conv) fun b13 => bif b13 then (some x0.Soft) else (some x0.Size))) fun j10 => Let (clt x1 0) fun b12 => bif b12 then (j10 (true)) else (Bnd (m_geom_Zones x0) fun r13 => Let (cge x1 r13) fun b16 => j10 (b16))
/-- windrow/zone.there -/
def m_zone_there (x0 : TGeom) (x1 : TAt) : Option (Bool) :=
  Let (cge x1.Off 0) fun b10 => bif b10 then (Bnd (m_geom_Sectors x0 x1.Zone) fun r11 => Let (clt x1.Off r11) fun b14 => some b14) else (some false)
/-- windrow/zone.open -/
def m_zone_open (x0 : List TZone) : Option (Int) :=
  Let (ln x0) fun v7 => Bnd (loop (σ := Int × Int) (ρ := Int) (fun s18 => Let (clt s18.2 v7) fun b20 => bif b20 then (Bnd (at? x0 s18.2) fun y21 => Let (ceq y21.State 1) fun b27 => bif b27 then (Let (iadd s18.1 1) fun v28 => Let (iadd s18.2 1) fun v29 => some (.inl (v28, v29))) else (Let (iadd s18.2 1) fun v28 => some (.inl (s18.1, v28)))) else (some (.inr (s18.1)))) (0, 0)) fun q8 => some q8
/-- windrow/zone.Write -/
def m_zone_Write (x0 : TGeom) (x1 : List TZone) (x2 : TAt) : Option ((List TZone) × Int) :=
  Bnd (m_slices_Clone x1) fun r18 => Bnd (m_zone_there x0 x2) fun r24 => Let (!r24) fun b27 => bif b27 then (some (r18, 6)) else (Bnd (at? r18 x2.Zone) fun y28 => Jn (α := Unit) (fun q34 => Let (set' r18 x2.Zone (TZone.mk 1 y28.Point)) fun l37 => Bnd (at? l37 x2.Zone) fun y40 => Let (iadd y40.Point 1) fun v44 => Bnd (at? l37 x2.Zone) fun y45 => Let (set' l37 x2.Zone (TZone.mk y45.State v44)) fun l49 => Bnd (at? l49 x2.Zone) fun y52 => Let (ceq y52.Point x0.Size) fun b56 => bif b56 then (Bnd (at? l49 x2.Zone) fun y57 => Let (set' l49 x2.Zone (TZone.mk 3 y57.Point)) fun l61 => some (l61, 0)) else (some (l49, 0))) fun j35 => Let (ceq y28.State 4) fun b37 => bif b37 then (some (r18, 0)) else (Let (ceq y28.State 3) fun b38 => bif b38 then (some (r18, 3)) else (Let (cne x2.Off y28.Point) fun b39 => bif b39 then (some (r18, 4)) else (Let (cne y28.State 1) fun b40 => bif b40 then (Bnd (m_zone_open x1) fun r41 => Let (cge r41 x0.Open) fun b44 => bif b44 then (some (r18, 5)) else (j35 ())) else (j35 ())))))
/-- windrow/zone.one -/
def m_zone_one (x0 : TGeom) (x1 : TZone) : Option (Bool) :=
  Let (ceq x1.State 0) fun b10 => bif b10 then (Let (ceq x1.Point 0) fun b11 => some b11) else (Let (ceq x1.State 1) fun b11 => bif b11 then (Let (cge x1.Point 0) fun b12 => bif b12 then (Let (clt x1.Point x0.Size) fun b13 => some b13) else (some false)) else (Let (ceq x1.State 2) fun b12 => bif b12 then (Let (cgt x1.Point 0) fun b13 => bif b13 then (Let (clt x1.Point x0.Size) fun b14 => some b14) else (some false)) else (Let (ceq x1.State 3) fun b13 => bif b13 then (Let (cge x1.Point 0) fun b14 => bif b14 then (Let (cle x1.Point x0.Size) fun b15 => some b15) else (some false)) else (some false))))
/-- windrow/zone.Right -/
def m_zone_Right (x0 : TGeom) (x1 : List TZone) : Option (Bool) :=
  Jn (α := Unit) (fun q12 => Let (ln x1) fun v15 => Bnd (loop (σ := Int) (ρ := Sum Unit Unit) (fun s26 => Let (clt s26 v15) fun b27 => bif b27 then (Bnd (at? x1 s26) fun y28 => Let (clt s26 x0.Conv) fun b34 => bif b34 then (Let (!((ceq y28.State 4 && ceq y28.Point 0))) fun b35 => bif b35 then (some (.inr (.inr ()))) else (Let (cge s26 x0.Conv) fun b36 => bif b36 then (Bnd (m_zone_one x0 y28) fun r37 => Let (!r37) fun b40 => bif b40 then (some (.inr (.inr ()))) else (Let (iadd s26 1) fun v41 => some (.inl (v41)))) else (Let (iadd s26 1) fun v37 => some (.inl (v37))))) else (Let (cge s26 x0.Conv) fun b35 => bif b35 then (Bnd (m_zone_one x0 y28) fun r36 => Let (!r36) fun b39 => bif b39 then (some (.inr (.inr ()))) else (Let (iadd s26 1) fun v40 => some (.inl (v40)))) else (Let (iadd s26 1) fun v36 => some (.inl (v36))))) else (some (.inr (.inl ())))) (0)) fun q16 => (match q16 with | (.inl q16') => some true | (.inr q16'') => some false)) fun j13 => Let (ln x1) fun v15 => Bnd (m_geom_Zones x0) fun r16 => Let (cne v15 r16) fun b19 => bif b19 then (some false) else (Bnd (m_zone_open x1) fun r20 => Let (cgt r20 x0.Open) fun b23 => bif b23 then (some false) else (j13 ()))
/-- windrow/zone.Read -/
def m_zone_Read (x0 : TGeom) (x1 : List TZone) (x2 : TAt) : Option (Int) :=
  Bnd (m_zone_there x0 x2) fun r14 => Let (!r14) fun b17 => bif b17 then (some 6) else (Bnd (at? x1 x2.Zone) fun y18 => Let (cne y18.State 4) fun b24 => bif b24 then (Bnd (at? x1 x2.Zone) fun y25 => Let (cge x2.Off y25.Point) fun b31 => bif b31 then (some 4) else (some 0)) else (some 0))
/-- windrow/windrowlaw04.awake -/
def m_law04_awake  : Option (Bool) :=
  Bnd (m_law04_measure ) fun r3 => Bnd (m_zone_New r3) fun r10 => Bnd (m_zone_Write r3 r10 (TAt.mk 2 0)) fun r16 => Bnd (m_zone_Write r3 r16.1 (TAt.mk 2 1)) fun r23 => Bnd (m_zone_Write r3 r23.1 (TAt.mk 2 3)) fun r30 => Let (ceq r16.2 0) fun b37 => bif b37 then (Let (ceq r23.2 0) fun b38 => bif b38 then (Let (ceq r30.2 4) fun b39 => bif b39 then (Let (ln r23.1) fun v40 => Let (ceq v40 8) fun b41 => bif b41 then (Bnd (at? r23.1 2) fun y42 => Let ((ceq y42.State 1 && ceq y42.Point 2)) fun b48 => bif b48 then (Bnd (m_zone_Right r3 r23.1) fun r49 => bif r49 then (Bnd (m_zone_Read r3 r23.1 (TAt.mk 2 2)) fun r52 => Let (ceq r52 4) fun b55 => some b55) else (some false)) else (some false)) else (some false)) else (some false)) else (some false)) else (some false)
/-- windrow/windrowref03.Blocks -/
def m_ref03_Blocks (x0 : TGeom) : Option (Int) :=
  Bnd (loop (σ := Int × Int) (ρ := Int) (fun s18 => Let (clt s18.2 x0.Seq) fun b20 => bif b20 then (Bnd (nz? 2) fun _ => Let (binI .quo .i64 x0.Size 2) fun v21 => Let (iadd s18.1 v21) fun v22 => Let (iadd s18.2 1) fun v23 => some (.inl (v22, v23))) else (some (.inr (s18.1)))) (0, 5)) fun q8 => Let (cgt q8 4096) fun b21 => bif b21 then (some 4096) else (some q8)
/-- windrow/windrowref03.Pages -/
def m_ref03_Pages (x0 : TGeom) : Option (Int) :=
  Bnd (loop (σ := Int) (ρ := Int) (fun s18 => Let (imul 10 s18) fun v19 => Bnd (m_ref03_Blocks x0) fun r20 => Let (clt v19 r20) fun b23 => bif b23 then (Let (iadd s18 1) fun v24 => some (.inl (v24))) else (some (.inr (s18)))) (0)) fun q8 => some q8
/-- windrow/windrowref03.Right -/
def m_ref03_Right (x0 : TGeom) : Option (Bool) :=
  Jn (α := Unit) (fun q8 => Jn (α := Unit) (fun q11 => Bnd (m_ref03_Pages x0) fun r14 => Let (iadd r14 3) fun v17 => Let (cge x0.Soft v17) fun b18 => some b18) fun j12 => Let (clt x0.Size 8) fun b14 => bif b14 then (some false) else (Let (cgt x0.Size 256) fun b15 => bif b15 then (some false) else (Let (clt x0.Open 3) fun b16 => bif b16 then (some false) else (Let (cgt x0.Soft 65536) fun b17 => bif b17 then (some false) else (j12 ()))))) fun j9 => Let (clt x0.Conv 2) fun b11 => bif b11 then (some false) else (Let (cgt x0.Conv 64) fun b12 => bif b12 then (some false) else (Let (clt x0.Seq 6) fun b13 => bif b13 then (some false) else (Let (cgt x0.Seq 64) fun b14 => bif b14 then (some false) else (Let (iadd x0.Conv x0.Seq) fun v15 => Let (cgt v15 64) fun b16 => bif b16 then (some false) else (j9 ())))))
/-- windrow/windrowref04.opened -/
def m_ref04_opened (x0 : List TZone) : Option (Int) :=
  Bnd (loop (σ := Int × Int) (ρ := Int) (fun s17 => Let (ln x0) fun v19 => Let (clt s17.2 v19) fun b20 => bif b20 then (Bnd (at? x0 s17.2) fun y21 => Let (ceq y21.State 1) fun b27 => bif b27 then (Let (iadd s17.1 1) fun v28 => Let (iadd s17.2 1) fun v29 => some (.inl (v28, v29))) else (Let (iadd s17.2 1) fun v28 => some (.inl (s17.1, v28)))) else (some (.inr (s17.1)))) (0, 0)) fun q7 => some q7
/-- windrow/windrowref04.Right -/
def m_ref04_Right (x0 : TGeom) (x1 : List TZone) : Option (Bool) :=
  Jn (α := Unit) (fun q12 => Bnd (loop (σ := Int) (ρ := Sum Unit Unit) (fun s25 => Let (ln x1) fun v26 => Let (clt s25 v26) fun b27 => bif b27 then (Bnd (at? x1 s25) fun y28 => Bnd (at? x1 s25) fun y34 => Let (clt s25 x0.Conv) fun b40 => bif b40 then (Let (cne y28.State 4) fun b41 => bif b41 then (some (.inr (.inr ()))) else (Let (cne y34.Point 0) fun b42 => bif b42 then (some (.inr (.inr ()))) else (Let (iadd s25 1) fun v43 => some (.inl (v43))))) else (Let (clt y28.State 0) fun b41 => bif b41 then (some (.inr (.inr ()))) else (Let (cgt y28.State 3) fun b42 => bif b42 then (some (.inr (.inr ()))) else (Let (clt y34.Point 0) fun b43 => bif b43 then (some (.inr (.inr ()))) else (Let (cgt y34.Point x0.Size) fun b44 => bif b44 then (some (.inr (.inr ()))) else (Let (ceq y28.State 0) fun b45 => bif b45 then (Let (cne y34.Point 0) fun b46 => bif b46 then (some (.inr (.inr ()))) else (Let (ceq y28.State 1) fun b47 => bif b47 then (Let (ceq y34.Point x0.Size) fun b48 => bif b48 then (some (.inr (.inr ()))) else (Let (ceq y28.State 2) fun b49 => bif b49 then (Let (ceq y34.Point 0) fun b50 => bif b50 then (some (.inr (.inr ()))) else (Let (iadd s25 1) fun v51 => some (.inl (v51)))) else (Let (iadd s25 1) fun v50 => some (.inl (v50))))) else (Let (ceq y28.State 2) fun b48 => bif b48 then (Let (ceq y34.Point x0.Size) fun b49 => bif b49 then (some (.inr (.inr ()))) else (Let (ceq y28.State 2) fun b50 => bif b50 then (Let (ceq y34.Point 0) fun b51 => bif b51 then (some (.inr (.inr ()))) else (Let (iadd s25 1) fun v52 => some (.inl (v52)))) else (Let (iadd s25 1) fun v51 => some (.inl (v51))))) else (Let (ceq y28.State 2) fun b49 => bif b49 then (Let (ceq y34.Point 0) fun b50 => bif b50 then (some (.inr (.inr ()))) else (Let (iadd s25 1) fun v51 => some (.inl (v51)))) else (Let (iadd s25 1) fun v50 => some (.inl (v50))))))) else (Let (ceq y28.State 1) fun b46 => bif b46 then (Let (ceq y34.Point x0.Size) fun b47 => bif b47 then (some (.inr (.inr ()))) else (Let (ceq y28.State 2) fun b48 => bif b48 then (Let (ceq y34.Point 0) fun b49 => bif b49 then (some (.inr (.inr ()))) else (Let (iadd s25 1) fun v50 => some (.inl (v50)))) else (Let (iadd s25 1) fun v49 => some (.inl (v49))))) else (Let (ceq y28.State 2) fun b47 => bif b47 then (Let (ceq y34.Point x0.Size) fun b48 => bif b48 then (some (.inr (.inr ()))) else (Let (ceq y28.State 2) fun b49 => bif b49 then (Let (ceq y34.Point 0) fun b50 => bif b50 then (some (.inr (.inr ()))) else (Let (iadd s25 1) fun v51 => some (.inl (v51)))) else (Let (iadd s25 1) fun v50 => some (.inl (v50))))) else (Let (ceq y28.State 2) fun b48 => bif b48 then (Let (ceq y34.Point 0) fun b49 => bif b49 then (some (.inr (.inr ()))) else (Let (iadd s25 1) fun v50 => some (.inl (v50)))) else (Let (iadd s25 1) fun v49 => some (.inl (v49)))))))))))) else (some (.inr (.inl ())))) (0)) fun q15 => (match q15 with | (.inl q15') => some true | (.inr q15'') => some false)) fun j13 => Let (ln x1) fun v15 => Let (iadd x0.Conv x0.Seq) fun v16 => Let (cne v15 v16) fun b17 => bif b17 then (some false) else (Bnd (m_ref04_opened x1) fun r18 => Let (cgt r18 x0.Open) fun b21 => bif b21 then (some false) else (j13 ()))
/-- windrow/windrowref04.New -/
def m_ref04_New (x0 : TGeom) : Option ((List TZone)) :=
  Bnd (loop (σ := Int × (List TZone)) (ρ := ((List TZone))) (fun s21 => Let (iadd x0.Conv x0.Seq) fun v26 => Let (clt s21.1 v26) fun b27 => bif b27 then (Let (clt s21.1 x0.Conv) fun b28 => bif b28 then (Bnd (app? 16 s21.2 [(TZone.mk 4 0)]) fun l30 => Let (iadd s21.1 1) fun v34 => some (.inl (v34, l30))) else (Bnd (app? 16 s21.2 [(TZone.mk 0 0)]) fun l30 => Let (iadd s21.1 1) fun v34 => some (.inl (v34, l30)))) else (some (.inr (s21.2)))) (0, ([] : List TZone))) fun q11 => some q11
/-- windrow/windrowref04.Same -/
def m_ref04_Same (x0 : List TZone) (x1 : List TZone) : Option (Bool) :=
  Let (ln x0) fun v11 => Let (ln x1) fun v12 => Let (cne v11 v12) fun b13 => bif b13 then (some false) else (Bnd (loop (σ := Int) (ρ := Sum Unit Unit) (fun s24 => Let (ln x0) fun v25 => Let (clt s24 v25) fun b26 => bif b26 then (Bnd (at? x0 s24) fun y27 => Bnd (at? x1 s24) fun y33 => Let (!((ceq y27.State y33.State && ceq y27.Point y33.Point))) fun b39 => bif b39 then (some (.inr (.inr ()))) else (Let (iadd s24 1) fun v40 => some (.inl (v40)))) else (some (.inr (.inl ())))) (0)) fun q14 => (match q14 with | (.inl q14') => some true | (.inr q14'') => some false))
/-- windrow/zone.sequential -/
def m_zone_sequential (x0 : TGeom) (x1 : Int) : Option (Int) :=
  Bnd (m_geom_Sectors x0 x1) fun r9 => Let (ceq r9 0) fun b12 => bif b12 then (some 6) else (Let (clt x1 x0.Conv) fun b13 => bif b13 then (some 3) else (some 0))
/-- windrow/zone.Reset -/
def m_zone_Reset (x0 : TGeom) (x1 : List TZone) (x2 : Int) : Option ((List TZone) × Int) :=
  Bnd (m_slices_Clone x1) fun r17 => Bnd (m_zone_sequential x0 x2) fun r23 => Let (cne r23 0) fun b26 => bif b26 then (some (r17, r23)) else (Bnd (at? r17 x2) fun y27 => Let (set' r17 x2 (TZone.mk 0 0)) fun l33 => some (l33, 0))
/-- windrow/zone.Finish -/
def m_zone_Finish (x0 : TGeom) (x1 : List TZone) (x2 : Int) : Option ((List TZone) × Int) :=
  Bnd (m_slices_Clone x1) fun r17 => Bnd (m_zone_sequential x0 x2) fun r23 => Let (cne r23 0) fun b26 => bif b26 then (some (r17, r23)) else (Bnd (at? r17 x2) fun y27 => Let (ceq y27.State 3) fun b33 => bif b33 then (some (r17, 3)) else (Bnd (at? r17 x2) fun y34 => Let (set' r17 x2 (TZone.mk 3 y34.Point)) fun l40 => some (l40, 0)))
/-- windrow/zone.Open -/
def m_zone_Open (x0 : TGeom) (x1 : List TZone) (x2 : Int) : Option ((List TZone) × Int) :=
  Bnd (m_slices_Clone x1) fun r17 => Bnd (m_zone_sequential x0 x2) fun r23 => Let (cne r23 0) fun b26 => bif b26 then (some (r17, r23)) else (Bnd (at? r17 x2) fun y27 => Let (ceq y27.State 3) fun b33 => bif b33 then (some (r17, 3)) else (Let (ceq y27.State 1) fun b34 => bif b34 then (some (r17, 0)) else (Bnd (m_zone_open x1) fun r35 => Let (cge r35 x0.Open) fun b38 => bif b38 then (some (r17, 5)) else (Let (set' r17 x2 (TZone.mk 1 y27.Point)) fun l39 => some (l39, 0)))))
/-- windrow/zone.shut -/
def m_zone_shut (x0 : List TZone) (x0i : Int) (x0y : TZone) : Option ((List TZone)) :=
  Let (set' x0 x0i (TZone.mk 2 x0y.Point)) fun l16 => Bnd (at? l16 x0i) fun y19 => Let (ceq y19.Point 0) fun b23 => bif b23 then (Bnd (at? l16 x0i) fun y24 => Let (set' l16 x0i (TZone.mk 0 y24.Point)) fun l28 => some l28) else (some l16)
/-- windrow/zone.Close -/
def m_zone_Close (x0 : TGeom) (x1 : List TZone) (x2 : Int) : Option ((List TZone) × Int) :=
  Bnd (m_slices_Clone x1) fun r17 => Bnd (m_zone_sequential x0 x2) fun r23 => Let (cne r23 0) fun b26 => bif b26 then (some (r17, r23)) else (Bnd (at? r17 x2) fun y27 => Let (cne y27.State 1) fun b33 => bif b33 then (some (r17, 3)) else (Bnd (at? r17 x2) fun y34 => Bnd (m_zone_shut r17 x2 y34) fun r40 => Bnd (lenq r40 r17) fun _ => some (r40, 0)))
/-- windrow/zone.Power -/
def m_zone_Power (x0 : List TZone) : Option ((List TZone)) :=
  Bnd (m_slices_Clone x0) fun r10 => Let (ln r10) fun v16 => Bnd (loop (σ := Int × (List TZone)) (ρ := ((List TZone))) (fun s27 => Let (clt s27.1 v16) fun b32 => bif b32 then (Bnd (at? s27.2 s27.1) fun y33 => Let (ceq y33.State 1) fun b39 => bif b39 then (Bnd (at? s27.2 s27.1) fun y40 => Bnd (m_zone_shut s27.2 s27.1 y40) fun r46 => Bnd (lenq r46 s27.2) fun _ => Let (iadd s27.1 1) fun v52 => some (.inl (v52, r46))) else (Let (iadd s27.1 1) fun v40 => some (.inl (v40, s27.2)))) else (some (.inr (s27.2)))) (0, r10)) fun q17 => some q17
/-- windrow/windrowlaw04.act -/
def m_law04_act (x0 : TGeom) (x1 : List TZone) (x2 : Int) (x3 : TAt) : Option ((List TZone) × Int) :=
  Let (ceq x2 0) fun b19 => bif b19 then (Bnd (m_zone_Write x0 x1 x3) fun r20 => some (r20.1, r20.2)) else (Let (ceq x2 1) fun b20 => bif b20 then (Bnd (m_zone_Read x0 x1 x3) fun r21 => some (x1, r21)) else (Let (ceq x2 2) fun b21 => bif b21 then (Bnd (m_zone_Reset x0 x1 x3.Zone) fun r22 => some (r22.1, r22.2)) else (Let (ceq x2 3) fun b22 => bif b22 then (Bnd (m_zone_Finish x0 x1 x3.Zone) fun r23 => some (r23.1, r23.2)) else (Let (ceq x2 4) fun b23 => bif b23 then (Bnd (m_zone_Open x0 x1 x3.Zone) fun r24 => some (r24.1, r24.2)) else (Let (ceq x2 5) fun b24 => bif b24 then (Bnd (m_zone_Close x0 x1 x3.Zone) fun r25 => some (r25.1, r25.2)) else (Bnd (m_zone_Power x1) fun r25 => some (r25, 0)))))))
/-- windrow/windrowref03.Sectors -/
def m_ref03_Sectors (x0 : TGeom) (x1 : Int) : Option (Int) :=
  Jn (α := Unit) (fun q9 => Let (clt x1 x0.Conv) fun b12 => bif b12 then (some x0.Soft) else (some x0.Size)) fun j10 => Let (clt x1 0) fun b12 => bif b12 then (some 0) else (Let (iadd x0.Conv x0.Seq) fun v13 => Let (cge x1 v13) fun b14 => bif b14 then (some 0) else (j10 ()))
/-- windrow/windrowref04.with -/
def m_ref04_with (x0 : List TZone) (x1 : Int) (x2 : TZone) : Option ((List TZone)) :=
  Bnd (app? 16 ([] : List TZone) x0) fun l14 => Bnd (at? l14 x1) fun y18 => Let (set' l14 x1 x2) fun l24 => some l24
/-- windrow/windrowref04.Act -/
def m_ref04_Act (x0 : TGeom) (x1 : List TZone) (x2 : Int) (x3 : TAt) : Option ((List TZone) × Int) :=
  Jn (α := Unit) (fun q19 => Bnd (m_ref03_Sectors x0 x3.Zone) fun r22 => Jn (α := Unit) (fun q25 => Bnd (at? x1 x3.Zone) fun y28 => Let (clt x3.Zone x0.Conv) fun b34 => Jn (α := Bool) (fun q35 => bif q35 then (some (x1, 3)) else (Let (ceq x2 1) fun b39 => bif b39 then (Let (clt x3.Off y28.Point) fun b40 => bif b40 then (some (x1, 0)) else (some (x1, 4))) else (Let (ceq x2 2) fun b40 => bif b40 then (Bnd (m_ref04_with x1 x3.Zone (TZone.mk 0 0)) fun r41 => some (r41, 0)) else (Let (ceq x2 5) fun b41 => bif b41 then (Let (cne y28.State 1) fun b42 => bif b42 then (some (x1, 3)) else (Jn (α := Int) (fun q43 => Bnd (m_ref04_with x1 x3.Zone (TZone.mk q43 y28.Point)) fun r47 => some (r47, 0)) fun j44 => Let (ceq y28.Point 0) fun b46 => bif b46 then (j44 (0)) else (j44 (2)))) else (Let (ceq y28.State 3) fun b42 => bif b42 then (some (x1, 3)) else (Let (ceq x2 3) fun b43 => bif b43 then (Bnd (m_ref04_with x1 x3.Zone (TZone.mk 3 y28.Point)) fun r44 => some (r44, 0)) else (Jn (α := Unit) (fun q44 => Jn (α := Unit) (fun q47 => Jn (α := Int × Int) (fun q50 => Bnd (m_ref04_with x1 x3.Zone (TZone.mk q50.1 q50.2)) fun r55 => some (r55, 0)) fun j51 => Let (ceq x2 0) fun b53 => bif b53 then (Let (iadd y28.Point 1) fun v54 => Let (ceq v54 x0.Size) fun b55 => bif b55 then (j51 (3, v54)) else (j51 (1, v54))) else (j51 (1, y28.Point))) fun j48 => Let (cne y28.State 1) fun b50 => bif b50 then (Bnd (m_ref04_opened x1) fun r51 => Let (cge r51 x0.Open) fun b54 => bif b54 then (some (x1, 5)) else (j48 ())) else (j48 ())) fun j45 => Let (ceq x2 0) fun b47 => bif b47 then (Let (cne x3.Off y28.Point) fun b48 => bif b48 then (some (x1, 4)) else (j45 ())) else (j45 ())))))))) fun j36 => bif b34 then (Let (cle x2 1) fun b38 => bif b38 then (some (x1, 0)) else (j36 (true))) else (j36 (false))) fun j26 => Let (ceq r22 0) fun b28 => bif b28 then (some (x1, 6)) else (Let (cle x2 1) fun b29 => bif b29 then (Let (clt x3.Off 0) fun b30 => bif b30 then (some (x1, 6)) else (Let (cge x3.Off r22) fun b31 => bif b31 then (some (x1, 6)) else (j26 ()))) else (j26 ()))) fun j20 => Jn (α := Bool) (fun q22 => bif q22 then (Bnd (loop (σ := Int × (List TZone)) (ρ := ((List TZone))) (fun s36 => Let (ln x1) fun v41 => Let (clt s36.1 v41) fun b42 => bif b42 then (Bnd (at? x1 s36.1) fun y43 => Jn (α := Bool) (fun q49 => bif q49 then (Bnd (app? 16 s36.2 [(TZone.mk 0 y43.Point)]) fun l54 => Let (iadd s36.1 1) fun v58 => some (.inl (v58, l54))) else (Let (ceq y43.State 1) fun b53 => bif b53 then (Bnd (app? 16 s36.2 [(TZone.mk 2 y43.Point)]) fun l55 => Let (iadd s36.1 1) fun v59 => some (.inl (v59, l55))) else (Bnd (app? 16 s36.2 [y43]) fun l55 => Let (iadd s36.1 1) fun v59 => some (.inl (v59, l55))))) fun j50 => Let (ceq y43.State 1) fun b52 => bif b52 then (Let (ceq y43.Point 0) fun b53 => j50 (b53)) else (j50 (false))) else (some (.inr (s36.2)))) (0, ([] : List TZone))) fun q26 => some (q26, 0)) else (j20 ())) fun j23 => Let (cgt x2 5) fun b25 => bif b25 then (j23 (true)) else (Let (clt x2 0) fun b26 => j23 (b26))
/-- windrow/windrowlaw04.ZoneActs -/
def m_law04_ZoneActs (x0 : TGeom) (x1 : List TZone) (x2 : Int) (x3 : TAt) : Option (Bool) :=
  Jn (α := Unit) (fun q15 => Jn (α := Unit) (fun q18 => Bnd (m_ref04_Right x0 x1) fun r21 => Let (!r21) fun b24 => bif b24 then (some true) else (Bnd (nz? 7) fun _ => Let (binI .rem .u8 x2 7) fun v25 => Let (IntKind.wrap .i64 v25) fun v26 => Bnd (m_law04_act x0 x1 v26 x3) fun r27 => Bnd (m_ref04_Act x0 x1 v26 x3) fun r34 => Bnd (m_ref04_Same r27.1 r34.1) fun r41 => bif r41 then (Let (ceq r27.2 r34.2) fun b44 => some b44) else (some false))) fun j19 => Bnd (m_zone_Right x0 x1) fun r21 => Bnd (m_ref04_Right x0 x1) fun r24 => Let (!(r21 == r24)) fun b27 => bif b27 then (some false) else (Bnd (m_zone_New x0) fun r28 => Bnd (m_ref04_New x0) fun r34 => Bnd (m_ref04_Same r28 r34) fun r40 => Let (!r40) fun b43 => bif b43 then (some false) else (j19 ()))) fun j16 => Jn (α := Bool) (fun q18 => bif q18 then (Bnd (m_law04_awake ) fun r22 => some r22) else (j16 ())) fun j19 => Bnd (m_law04_awake ) fun r21 => Let (!r21) fun b24 => bif b24 then (j19 (true)) else (Bnd (m_ref03_Right x0) fun r25 => Let (!r25) fun b28 => j19 (b28))
/-- windrow/windrowlaw04.act -/
def m_law04_act_ (x0 : TGeom) (x1 : List TZone) (x2 : Int) (x3 : TAt) : Option ((List TZone) × Int) :=
  Let (ceq x2 0) fun b19 => bif b19 then (Bnd (m_zone_Write x0 x1 x3) fun r20 => some (r20.1, r20.2)) else (Let (ceq x2 1) fun b20 => bif b20 then (Bnd (m_zone_Read x0 x1 x3) fun r21 => none) else (Let (ceq x2 2) fun b21 => bif b21 then (Bnd (m_zone_Reset x0 x1 x3.Zone) fun r22 => some (r22.1, r22.2)) else (Let (ceq x2 3) fun b22 => bif b22 then (Bnd (m_zone_Finish x0 x1 x3.Zone) fun r23 => some (r23.1, r23.2)) else (Let (ceq x2 4) fun b23 => bif b23 then (Bnd (m_zone_Open x0 x1 x3.Zone) fun r24 => some (r24.1, r24.2)) else (Let (ceq x2 5) fun b24 => bif b24 then (Bnd (m_zone_Close x0 x1 x3.Zone) fun r25 => some (r25.1, r25.2)) else (Bnd (m_zone_Power x1) fun r25 => some (r25, 0)))))))
/-- windrow/windrowlaw04.ZoneKeeps -/
def m_law04_ZoneKeeps (x0 : TGeom) (x1 : List TZone) (x2 : Int) (x3 : TAt) : Option (Bool) :=
  Jn (α := Unit) (fun q15 => Bnd (nz? 7) fun _ => Let (binI .rem .u8 x2 7) fun v18 => Let (IntKind.wrap .i64 v18) fun v19 => Let (ceq v19 1) fun b20 => bif b20 then (some true) else (Bnd (app? 16 ([] : List TZone) x1) fun l22 => Bnd (m_law04_act_ x0 x1 v19 x3) fun r26 => Bnd (loop (σ := Int × (List TZone)) (ρ := Unit) (fun s43 => Let (ln s43.2) fun v48 => Let (clt s43.1 v48) fun b49 => bif b49 then (Bnd (at? s43.2 s43.1) fun y50 => Let (set' s43.2 s43.1 (TZone.mk y50.State (-7))) fun l56 => Let (iadd s43.1 1) fun v59 => some (.inl (v59, l56))) else (some (.inr ()))) (0, r26.1)) fun q33 => Bnd (m_ref04_Same x1 l22) fun r48 => some r48)) fun j16 => Jn (α := Bool) (fun q18 => bif q18 then (Bnd (m_law04_awake ) fun r22 => some r22) else (j16 ())) fun j19 => Bnd (m_law04_awake ) fun r21 => Let (!r21) fun b24 => bif b24 then (j19 (true)) else (Bnd (m_ref03_Right x0) fun r25 => Let (!r25) fun b28 => bif b28 then (j19 (true)) else (Bnd (m_ref04_Right x0 x1) fun r29 => Let (!r29) fun b32 => j19 (b32)))
end Go.AX
