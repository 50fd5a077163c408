/- Chapter 12: LaneReserve, LaneLess, LaneKeeps, LaneZones. -/
import Derived.Test.YtjpajfgdbmeiiaaP12e
namespace Go.AX
set_option autoImplicit false
set_option linter.unusedVariables false
set_option linter.unusedSimpArgs false

theorem keep_room {g : TGeom} {p : TPool} (hg : Geo g) (hp : RightQ g p) : keepF p = if roomF g p 2 = 0 then 2 else 1 := by
  unfold keepF roomF
  by_cases h : hd p 2 = 0
  · simp [h]
  · have := (hp.heads 2 (by omega) h).2.1
    rw [if_neg h, if_neg h, if_neg (by omega)]

/-- As long as the reserve is there, a zone can be moved. -/
theorem moves_ok {g : TGeom} (hg : Geo g) {p : TPool} (hp : RightQ g p) {n : Nat} (hn : (n : Int) < g.Size) (hk : keepF p ≤ frees g p) : movesF g p n = true := by
  have hz := hg.z
  unfold movesF
  have h1 : zonesN g p 1 n ≤ 1 := by
    obtain ⟨r, e, r0, r1, d0, r2⟩ := zonesN_range hg hp (show 1 < 3 by omega) (show (0 : Int) ≤ n by omega)
    have hr := room_range hg hp (show 1 < 3 by omega)
    by_cases hle : roomF g p 1 < n
    · have := r1 hle
      have h2 : g.Size * zonesN g p 1 n < g.Size * 2 := by omega
      have := Int.lt_of_mul_lt_mul_left h2 (by omega)
      omega
    · have := r2 (by omega)
      have h2 : g.Size * zonesN g p 1 n < g.Size * 1 := by omega
      have := Int.lt_of_mul_lt_mul_left h2 (by omega)
      omega
  have h2 : zonesN g p 2 1 = if roomF g p 2 = 0 then 1 else 0 := by
    have hr := room_range hg hp (show 2 < 3 by omega)
    unfold zonesN
    by_cases h : roomF g p 2 = 0
    · rw [if_pos h, if_neg (by omega), h]
      rw [show (1 : Int) - 0 + g.Size - 1 = g.Size by omega]
      exact Int.ediv_self (by omega)
    · rw [if_neg h, if_pos (by omega)]
  have hkr := keep_room hg hp
  have hh := plan_two hg hp (a := 1) (b := 2) (by omega) (by omega) (by omega) n 1
  rcases hh with ⟨k1, k2⟩ | ⟨A, q, k1, _⟩
  · exfalso
    have k1 : frees g p < zonesN g p 1 n + zonesN g p 2 1 := k1
    rw [h2] at k1
    split at hkr <;> rename_i h0 <;> simp only [h0, if_true, if_false] at k1 <;> omega
  · have k1 : planF g p (List.replicate n 1 ++ List.replicate 1 2) = some (A, q) := k1
    rw [k1]; rfl

theorem law_LaneReserve (x0 : TGeom) (x1 : TPool) (a2 a3 a4 : Int) (w0 : BGeom x0) (w1 : BPool x1) (w2 : (Lit.int .i64 a2).wf = true) (w3 : (Lit.int .i64 a3).wf = true) (w4 : (Lit.int .u8 a4).wf = true) : m_law12_LaneReserve x0 x1 a2 a3 a4 = some true := by
  unfold m_law12_LaneReserve
  simp only [jn_eq, let_eq, awake12, bnd_some, Bool.not_true, cond_false, ref12_Num]
  obtain ⟨b, hb, hk⟩ := law12_right x0 x1 w0
  rw [hb]
  cases b with
  | false => rfl
  | true =>
    obtain ⟨hg, hq⟩ := hk rfl
    have hz := hg.z
    have hql := ((rightQ hg).2 hq).len' hg
    simp only [bnd_some, Bool.not_true, cond_false]
    cases h2 : (decide (0 ≤ a2) && decide (a2 ≤ 4096)) with
    | false => rfl
    | true =>
      cases h3 : (decide (0 ≤ a3) && decide (a3 ≤ 4096)) with
      | false => rfl
      | true =>
        obtain ⟨n2, rfl, k2⟩ := num_nat h2
        obtain ⟨n3, rfl, k3⟩ := num_nat h3
        have h4 := wf_u8 w4
        obtain ⟨n4, e4, l4⟩ : ∃ n : Nat, binI .rem .i64 (IntKind.wrap .i64 a4) x0.Size = (n : Int) ∧ (n : Int) < x0.Size := by
          have e1 : IntKind.wrap .i64 a4 = a4 := by rw [IntKind.wrap_i64]; omega
          have e2 : binI .rem .i64 a4 x0.Size = a4 % x0.Size := by
            show a4.tmod x0.Size = _
            rw [Int.tmod_eq_emod_of_nonneg (by omega)]
          have := Int.emod_nonneg a4 (show x0.Size ≠ 0 by omega)
          have := Int.emod_lt_of_pos a4 (show 0 < x0.Size by omega)
          exact ⟨(a4 % x0.Size).toNat, by rw [e1, e2]; omega, by omega⟩
        have hnz : nz? x0.Size = some () := by unfold nz?; rw [if_neg (by omega)]
        simp only [Bool.not_true, cond_false, hnz, bnd_some, e4, pool_Free x0 x1 hg (show x1.Points.length ≤ 1000 by omega), lane_Keep hg hq, lane_Moves hg hq (show n4 ≤ 4199 by omega), lane_Fits hg hq (show n2 ≤ 4199 by omega) (show n3 ≤ 4199 by omega), cge_eq, cond_dec]
        have hstep : (if keepF x1 ≤ ln (zonesF x0 x1 0) then (bif !movesF x0 x1 n4 then some false else bif !fitsF x0 x1 n2 n3 then some true else some true) else some true) = some true := by
          split
          · rename_i h; rw [moves_ok hg hq l4 h]; cases fitsF x0 x1 n2 n3 <;> rfl
          · rfl
        have hst : Strs (List.replicate n2 (0 : Int) ++ List.replicate n3 (2 : Int)) := strs_two (a := 0) (b := 2) (by omega) (by omega) n2 n3
        have tail : (bif !fitsF x0 x1 n2 n3 then some true else
            Bnd (loop (σ := Int × (List Int)) (ρ := ((List Int))) (fun s40 => Let (clt s40.1 n2) fun b45 => bif b45 then (Bnd (app? 8 s40.2 [0]) fun l47 => Let (iadd s40.1 1) fun v51 => some (.inl (v51, l47))) else (some (.inr (s40.2)))) (0, ([] : List Int))) fun q30 =>
            Bnd (loop (σ := Int × (List Int)) (ρ := ((List Int))) (fun s59 => Let (clt s59.1 n3) fun b64 => bif b64 then (Bnd (app? 8 s59.2 [2]) fun l66 => Let (iadd s59.1 1) fun v70 => some (.inl (v70, l66))) else (some (.inr (s59.2)))) (0, q30)) fun q49 =>
            Bnd (m_lane_Plan x0 x1 q49) fun r68 => bif r68.2.2 then (Bnd (m_lane_Moves x0 r68.2.1 n4) fun r82 => some r82) else (some false)) = some true := by
          cases hf : fitsF x0 x1 n2 n3 with
          | false => rfl
          | true =>
            simp only [Bool.not_true, cond_false]
            rw [fill_loop 0 n2 (by omega) [] (by simp) _ rfl, fill_loop 2 n3 (by omega) _ (by simp; omega) _ rfl, List.nil_append, lane_Plan x0 x1 hg hq _ hst (by simp; omega), bnd_some]
            unfold fitsF at hf
            unfold planR
            cases hF : planF x0 x1 (List.replicate n2 0 ++ List.replicate n3 2) with
            | none => rw [hF] at hf; cases hf
            | some r =>
              obtain ⟨A, q⟩ := r
              rw [hF] at hf
              have hr := (planF_right hg hq hst hF).1
              simp only [cond_true]
              rw [lane_Moves hg hr (by omega), bnd_some, moves_ok hg hr l4 (of_decide_eq_true hf)]
        by_cases h : keepF x1 ≤ ln (zonesF x0 x1 0)
        · rw [if_pos h, moves_ok hg hq l4 h]
          exact tail
        · rw [if_neg h]
          exact tail

theorem law_LaneLess (x0 : TGeom) (x1 : TPool) (a2 a3 a4 : Int) (w0 : BGeom x0) (w1 : BPool x1) (w2 : (Lit.int .i64 a2).wf = true) (w3 : (Lit.int .i64 a3).wf = true) (w4 : (Lit.int .i64 a4).wf = true) : m_law12_LaneLess x0 x1 a2 a3 a4 = some true := by
  unfold m_law12_LaneLess
  simp only [jn_eq, let_eq, awake12, bnd_some, Bool.not_true, cond_false, ref12_Num, clt_eq, cgt_eq, cond_dec]
  obtain ⟨b, hb, hk⟩ := law12_right x0 x1 w0
  rw [hb]
  cases b with
  | false => rfl
  | true =>
    obtain ⟨hg, hq⟩ := hk rfl
    have hz := hg.z
    simp only [bnd_some, Bool.not_true, cond_false]
    cases h2 : (decide (0 ≤ a2) && decide (a2 ≤ 4096)) with
    | false => rfl
    | true =>
      cases h4 : (decide (0 ≤ a4) && decide (a4 ≤ 4096)) with
      | false => rfl
      | true =>
        obtain ⟨n2, rfl, k2⟩ := num_nat h2
        obtain ⟨n4, rfl, k4⟩ := num_nat h4
        simp only [Bool.not_true, cond_false]
        by_cases h3 : a3 < 0
        · rw [if_pos h3]; rfl
        rw [if_neg h3]
        by_cases h5 : (n2 : Int) < a3
        · simp [h5]
        simp only [h5, decide_false, cond_false]
        obtain ⟨n3, rfl⟩ : ∃ n : Nat, a3 = (n : Int) := ⟨a3.toNat, by omega⟩
        rw [lane_Fits hg hq (by omega) (by omega), lane_Fits hg hq (by omega) (by omega)]
        simp only [bnd_some]
        cases hf : fitsF x0 x1 n2 n4 with
        | false => rfl
        | true =>
          simp only [Bool.not_true, cond_false]
          unfold fitsF at hf ⊢
          have t2 := plan_two hg hq (a := 0) (b := 2) (by omega) (by omega) (by omega) n2 n4
          have t3 := plan_two hg hq (a := 0) (b := 2) (by omega) (by omega) (by omega) n3 n4
          have hmono : zonesN x0 x1 0 n3 ≤ zonesN x0 x1 0 n2 := by
            have hr := room_range hg hq (show 0 < 3 by omega)
            obtain ⟨r, e, r0, r1, d0, r2⟩ := zonesN_range hg hq (show 0 < 3 by omega) (show (0 : Int) ≤ n2 by omega)
            obtain ⟨r', e', r0', r1', d0', r2'⟩ := zonesN_range hg hq (show 0 < 3 by omega) (show (0 : Int) ≤ n3 by omega)
            by_cases hle : roomF x0 x1 0 < n3
            · have := r1' hle
              have h6 : x0.Size * zonesN x0 x1 0 n3 < x0.Size * (zonesN x0 x1 0 n2 + 1) := by rw [Int.mul_add]; omega
              have := Int.lt_of_mul_lt_mul_left h6 (by omega)
              omega
            · have := r2' (by omega)
              have h6 : x0.Size * zonesN x0 x1 0 n3 = 0 := by omega
              rcases Int.mul_eq_zero.1 h6 with h7 | h7 <;> omega
          rcases t2 with ⟨_, c2⟩ | ⟨A, q, c1, c2, c3, c4, c5⟩
          · have c2 : planF x0 x1 (List.replicate n2 0 ++ List.replicate n4 2) = none := c2
            rw [c2] at hf; cases hf
          · have c1 : planF x0 x1 (List.replicate n2 0 ++ List.replicate n4 2) = some (A, q) := c1
            rw [c1] at hf
            have hf : keepF q ≤ frees x0 q := of_decide_eq_true hf
            have c3 : zonesN x0 x1 0 n2 + zonesN x0 x1 2 n4 ≤ frees x0 x1 := c3
            have c4 : frees x0 q = frees x0 x1 - zonesN x0 x1 0 n2 - zonesN x0 x1 2 n4 := c4
            rcases t3 with ⟨d1, _⟩ | ⟨A', q', d1, d2, d3, d4, d5⟩
            · have d1 : frees x0 x1 < zonesN x0 x1 0 n3 + zonesN x0 x1 2 n4 := d1
              omega
            · have d1 : planF x0 x1 (List.replicate n3 0 ++ List.replicate n4 2) = some (A', q') := d1
              have d4 : frees x0 q' = frees x0 x1 - zonesN x0 x1 0 n3 - zonesN x0 x1 2 n4 := d4
              rw [d1]
              have hkk : keepF q' = keepF q := by rw [keep_room hg d2, keep_room hg c2, d5, c5]
              show some (decide (keepF q' ≤ frees x0 q')) = some true
              exact congrArg some (decide_eq_true (by omega))

theorem law_LaneKeeps (x0 : TGeom) (x1 : TPool) (x2 : List Int) (w0 : BGeom x0) (w1 : BPool x1) (w2 : (∀ x ∈ x2, (Lit.int .i64 x).wf = true) ∧ x2.length ≤ maxLen) : m_law12_LaneKeeps x0 x1 x2 = some true := by
  unfold m_law12_LaneKeeps
  simp only [jn_eq, let_eq, awake12, bnd_some, Bool.not_true, cond_false]
  obtain ⟨b, hb, hk⟩ := law12_right x0 x1 w0
  rw [hb]
  cases b with
  | false => rfl
  | true =>
    obtain ⟨hg, hq⟩ := hk rfl
    have hql := ((rightQ hg).2 hq).len' hg
    obtain ⟨c, hc, hk2⟩ := law12_few x2 w2.2
    rw [hc]
    cases c with
    | false => rfl
    | true =>
      obtain ⟨hs, hl⟩ := hk2 rfl
      obtain ⟨hr, hal⟩ := planR_right hg hq hs
      have hrl := ((rightQ hg).2 hr).len' hg
      simp only [bnd_some, Bool.not_true, cond_false, lane_Plan x0 x1 hg hq x2 hs (by omega)]
      rw [app_ok (by simp; omega), bnd_some]
      generalize hP : (planR x0 x1 x2).2.1.Points = P at hrl
      refine bnd_rnd (fun x => x = some true) (fun t : Int × List Int => ∃ i : Nat, t.1 = (i : Int) ∧ t.2.length = P.length ∧ i ≤ P.length) (fun t => ((P.length : Int) - t.1).toNat) (fun _ => True) ⟨0, rfl, rfl, by omega⟩ (by simp; omega) ?_ ?_
      · rintro ⟨_, l⟩ ⟨i, rfl, h1, h2⟩
        simp only at h1
        simp only [ln, clt_eq, cond_dec]
        by_cases hi : (i : Int) < (l.length : Int)
        · rw [if_pos hi, at?_get (by omega), bnd_some, show iadd (i : Int) 1 = i + 1 from add_ok (by omega)]
          exact rnd_l ⟨i + 1, rfl, by simp [set', h1], by omega⟩ (by simp only; omega)
        · rw [if_neg hi]; exact rnd_r trivial
      · rintro r _
        have hF : m_lane_Fits x0 x1 3 3 = some (fitsF x0 x1 3 3) := lane_Fits hg hq (n := 3) (m := 3) (by omega) (by omega)
        rw [hF, bnd_some, List.nil_append]
        rw [show (TPool.mk x1.Points x1.Heads) = x1 from rfl, ref11_Same x1 (by omega)]
        rfl

theorem law_LaneZones (x0 : TGeom) (x1 : TPool) (a2 a3 : Int) (w0 : BGeom x0) (w1 : BPool x1) (w2 : (Lit.int .u8 a2).wf = true) (w3 : (Lit.int .u8 a3).wf = true) : m_law12_LaneZones x0 x1 a2 a3 = some true := by
  unfold m_law12_LaneZones
  simp only [jn_eq, let_eq, awake12, bnd_some, Bool.not_true, cond_false]
  obtain ⟨b, hb, hk⟩ := law12_right x0 x1 w0
  rw [hb]
  cases b with
  | false => rfl
  | true =>
    obtain ⟨hg, hq⟩ := hk rfl
    have hql := ((rightQ hg).2 hq).len' hg
    obtain ⟨s, hs, e⟩ := stream3 (wf_u8 w2)
    have h3 := wf_u8 w3
    obtain ⟨n, en, hn⟩ : ∃ n : Nat, IntKind.wrap .i64 a3 = (n : Int) ∧ n < 256 := ⟨a3.toNat, by rw [IntKind.wrap_i64]; omega, by omega⟩
    simp only [bnd_some, Bool.not_true, cond_false, show nz? 3 = some () from rfl, e, en]
    refine Eq.trans (fill_loop (s : Int) n (by omega) [] (by simp) _ rfl _) ?_
    simp only [List.nil_append]
    rw [lane_Zones hg hq hs (by omega) (by omega), bnd_some, lane_Plan x0 x1 hg hq _ (strs_rep hs n) (by simp; omega), bnd_some, pool_Free x0 x1 hg (by omega), bnd_some]
    unfold planR
    rcases plan_one hg hq hs n with ⟨h1, h2⟩ | ⟨A, q, h1, h2, hA, h4, h5, h6⟩
    · rw [h2]
      have h1 : ln (zonesF x0 x1 0) < zonesN x0 x1 s n := h1
      simp only [Bool.not_false, cond_true, cgt_eq, cond_dec]
      rw [if_pos h1]; rfl
    · rw [h1]
      have hf0 : 0 ≤ frees x0 q := by unfold frees; omega
      have hqq := ((rightQ hg).2 h2).len' hg
      have hd0 : 0 ≤ zonesN x0 x1 s n := by obtain ⟨r, _, _, _, h, _⟩ := zonesN_range hg hq hs (show (0 : Int) ≤ n by omega); exact h
      have hfl : (zonesF x0 x1 0).length ≤ x1.Points.length := zonesTo_len x0 x1 0 _
      simp only [Bool.not_true, cond_false, cle_eq, cond_dec, ceq_eq]
      rw [if_pos (show zonesN x0 x1 s n ≤ ln (zonesF x0 x1 0) by unfold frees at h4 hf0; unfold ln; omega)]
      rw [if_pos (show ln A = (n : Int) by unfold ln; omega)]
      rw [pool_Free x0 q hg (by omega), bnd_some]
      rw [show isub (ln (zonesF x0 x1 0)) (zonesN x0 x1 s n) = ln (zonesF x0 x1 0) - zonesN x0 x1 s n from sub_ok (by unfold ln; unfold frees at h4 hf0; omega)]
      congr 1
      exact decide_eq_true h4
end Go.AX
