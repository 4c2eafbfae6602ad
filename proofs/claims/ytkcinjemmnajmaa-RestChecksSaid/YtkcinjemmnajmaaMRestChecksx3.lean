import Derived.Test.YtkcinjemmnajmaaMRestChecksx2
/- A part of the proof of the given statement that each law names; no condition. Written by a program of this session's own (wip/tools/myprint.py, over the kit's print); Lean checks it. -/


namespace Go.Proofs.Ytkcinjemmnajmaa.MRestChecks
open Go.RowKit Go.Proofs.Ytkcinjemmnajmaa Go.Proofs.YtkcinjemmnajmaaW.PrintWords Go.Proofs.YtkcinjemmnajmaaW.PrintLast Go.Proofs.YtkcinjemmnajmaaW.PrintMore
attribute [local go_sem] max2_int min2_int max_two min_two max_three min_three max_four min_four   -- for this text's walks alone
set_option linter.unusedVariables false
set_option linter.unusedSimpArgs false


/-- More may be held from here on. -/
theorem more_ {P : Program} {md : Region.Mode} {ops : Array Oper} {Q : Exit → Act → World → Prop} {S S' : World → Prop} (hs : ∀ w, S' w → S w) {fuel : Nat} {l : Array Bool} {a : Act} {w : World} (h0 : S' w)
    (h : S' w → wpAnyLast P md ops Q S' [] fuel l a w) : wpAnyLast P md ops Q S [] fuel l a w := by
  have key : ∀ (fuel : Nat) (l : Array Bool) (a : Act) (w : World), S' w → wpAnyLast P md ops Q S' [] fuel l a w → wpAnyLast P md ops Q S [] fuel l a w := by
    intro fuel
    induction fuel with
    | zero => exact fun _ _ _ _ h => h
    | succ fuel ih => exact fun l a w h0 h => ⟨h.1, fun i hi => wpOp_mono (fun a' w' h3 => ⟨fun _ _ => hs _ (h3.1 (by simp) h0), ih _ _ _ (h3.1 (by simp) h0) h3.2⟩) (h.2 i hi)⟩
  exact key fuel l a w h0 (h h0)
theorem drawn_below {w w' : World} (h : Drawn0 w w') : Below w.heap.size w w' := by
  obtain ⟨m, rfl⟩ := h
  exact pw_below_drewN (Below.refl _ _) m
def signalmanlaw03_RestChecks.f (k : Nat) (l0 : List Int) : Option (Bool) := if 300 < l0.length then some true else
  (rest_With.f k l0).bind fun wr => (rest_Check.f k l0).bind fun ac => (signalmanref01_Check.f k l0).bind fun bc => (signalmanref01_Whole.f k l0).bind fun wh => (rest_Right.f k wr).bind fun ri => (signalmanref01_Bits.f k wr).bind fun tb => (rest_Bits.f k tb).bind fun le =>
    if bc = ac ∧ wh = wr ∧ ri = true ∧ le = 61624 then some true else none
set_option maxHeartbeats 8000000 in
set_option maxRecDepth 100000 in
theorem signalmanlaw03_RestChecks.calls (k : Nat) (A0 : Option Addr) (c0 : Nat) (l0 : List Int) (r : Bool) (w : World) (hr0 : Kd.C (Kd.int .u8) w A0 l0.length l0) (hc0 : l0.length ≤ c0) (h : signalmanlaw03_RestChecks.f k l0 = some r) :
    Calls Try.prog 6 #[.slice A0 l0.length c0] w fun e w' => e = .returned (.bool r) ∧ Below w.heap.size w w' := by
  have HR0 := Aside0.mk hr0
  have HC0 := Aside0.mk hc0
  clear hr0 hc0
  have HB := Aside0.mk (Below.refl w.heap.size w)
  unfold signalmanlaw03_RestChecks.f at h
  by_cases hlen : 300 < l0.length
  · rw [if_pos hlen] at h
    obtain rfl := Option.some.inj h
    clear h
    have d1 : decide ((300 : Int) < (l0.length : Int)) = true := decide_eq_true (by omega)
    have d2 : decide ((l0.length : Int) > 300) = true := decide_eq_true (by omega)
    have d3 : decide (300 < l0.length) = true := decide_eq_true (by omega)
    clear hlen
    go_enter Try.func6, Try.ntmps6
    go_wp2_with (first | ((with_reducible refine gate_callee (f := 7) rfl ?_); refine goesL_ (some 4) rfl rfl Try.func7 (by kernel_rfl) rfl #[] rfl (by (try simp only [List.map_toArray, List.map_cons, List.map_nil]); first | done | rfl | (simp [Act.eval, *]; done)) ?_; (with_reducible refine (signalmanlaw03_awake.calls  true _ rfl).mono ?_); rintro e w5 ⟨rfl, hb⟩; refine ⟨_, rfl, ?_⟩; have n0_ := Aside0.mk (below_step HB.out hb); clear HB; have HB := n0_; clear n0_ hb) | ((with_reducible refine gate_callee (f := 7) rfl ?_); refine goesL_ (some 11) rfl rfl Try.func7 (by kernel_rfl) rfl #[] rfl (by (try simp only [List.map_toArray, List.map_cons, List.map_nil]); first | done | rfl | (simp [Act.eval, *]; done)) ?_; (with_reducible refine (signalmanlaw03_awake.calls  true _ rfl).mono ?_); rintro e w5 ⟨rfl, hb⟩; refine ⟨_, rfl, ?_⟩; have n0_ := Aside0.mk (below_step HB.out hb); clear HB; have HB := n0_; clear n0_ hb))
    go_ret
    exact ⟨rfl, HB.out⟩
  · rw [if_neg hlen] at h
    obtain ⟨wr, h1, h⟩ := Option.bind_eq_some_iff.mp h
    obtain ⟨ac, h2, h⟩ := Option.bind_eq_some_iff.mp h
    obtain ⟨bc, h3, h⟩ := Option.bind_eq_some_iff.mp h
    obtain ⟨wh, h4, h⟩ := Option.bind_eq_some_iff.mp h
    obtain ⟨ri, h5, h⟩ := Option.bind_eq_some_iff.mp h
    obtain ⟨tb, h6, h⟩ := Option.bind_eq_some_iff.mp h
    obtain ⟨le, h7, h⟩ := Option.bind_eq_some_iff.mp h
    by_cases hc : bc = ac ∧ wh = wr ∧ ri = true ∧ le = 61624
    · rw [if_pos hc] at h
      obtain rfl := Option.some.inj h
      clear h
      obtain ⟨e1, e2, e3, e4⟩ := hc
      rw [e1] at h3
      rw [e2] at h4
      rw [e3] at h5
      rw [e4] at h7
      clear e1 e2 e3 e4
      have HWi := Aside0.mk h1
      have HK := Aside0.mk h2
      have HKr := Aside0.mk h3
      have HWh := Aside0.mk h4
      have HRi := Aside0.mk h5
      have HBi := Aside0.mk h6
      have HRB := Aside0.mk h7
      clear h1 h2 h3 h4 h5 h6 h7
      have d1 : decide ((300 : Int) < (l0.length : Int)) = false := decide_eq_false (by omega)
      have d2 : decide ((l0.length : Int) > 300) = false := decide_eq_false (by omega)
      have d3 : decide (300 < l0.length) = false := decide_eq_false (by omega)
      clear hlen
      go_enter Try.func6, Try.ntmps6
      go_wp2_with (first | ((with_reducible refine gate_callee (f := 7) rfl ?_); refine goesL_ (some 4) rfl rfl Try.func7 (by kernel_rfl) rfl #[] rfl (by (try simp only [List.map_toArray, List.map_cons, List.map_nil]); first | done | rfl | (simp [Act.eval, *]; done)) ?_; (with_reducible refine (signalmanlaw03_awake.calls  true _ rfl).mono ?_); rintro e w5 ⟨rfl, hb⟩; refine ⟨_, rfl, ?_⟩; have n0_ := Aside0.mk (below_step HB.out hb); clear HB; have HB := n0_; clear n0_ hb) | ((with_reducible refine gate_callee (f := 15) rfl ?_); refine goesL_ (some 13) rfl rfl Try.func15 (by kernel_rfl) rfl #[.slice A0 l0.length c0] rfl (by (try simp only [List.map_toArray, List.map_cons, List.map_nil]); first | done | rfl | (simp [Act.eval, *]; done)) ?_; (with_reducible refine (rest_With.calls k _ _ l0 wr _ (Kd.C_below HR0.out HB.out) HC0.out HWi.out).mono ?_); rintro e w1 ⟨v, rfl, ho, hb⟩; refine ⟨_, rfl, ?_⟩; obtain ⟨Aw, cw, rfl⟩ := Kd.R_slice ho; have HW := Aside0.mk (Kd.R_reads' ho).2.2; have HCw := Aside0.mk (Kd.R_reads' ho).2.1; clear ho; have n0_ := Aside0.mk (below_step HB.out hb); clear HB hb; have HB := n0_; clear n0_))
      refine start_ (n := 26) (S := fun w' => (Kd.C (Kd.int .u8) w' A0 l0.length l0) ∧ (Kd.C (Kd.int .u8) w' Aw wr.length wr)) (ds := []) #[false, false, false, false, false, false, false, false, false, false, false, false, false, false, false, false, false, false, false, false, false, false, false, false, false, false] (by kernel_rfl) rfl rfl (by exact ⟨Kd.C_drew (Kd.C_below HR0.out HB.out), Kd.C_drew HW.out⟩) (fun hHeld => ?_)
      have HB' := Aside0.mk (below_drew1 HB.out)
      clear HB
      have HB := HB'
      clear HB' HW
      generalize w1.drew = W at HB hHeld ⊢
      refine pure_ (i := 0) (N := some 14) (v := ?_) (a' := ?_) #[true, false, false, false, false, false, false, false, false, false, false, false, false, false, false, false, false, false, false, false, false, false, false, false, false, false] rfl rfl (by kernel_rfl) (fun _ _ _ h => h) (Or.inl ⟨by rfl, ?_⟩) ?_ ?_
      rotate_left
      · intro w'
        go_simp
        with_reducible rfl
      rotate_left
      · simp only [Act.put, List.setIfInBounds_toArray, List.set_cons_zero, List.set_cons_succ, i64_w, i32_w]
        rfl
      refine pure_ (i := 3) (N := some 17) (v := ?_) (a' := ?_) #[true, false, false, true, false, false, false, false, false, false, false, false, false, false, false, false, false, false, false, false, false, false, false, false, false, false] rfl rfl (by kernel_rfl) (fun _ _ _ h => h) (Or.inl ⟨by rfl, ?_⟩) ?_ ?_
      rotate_left
      · intro w'
        go_simp
        with_reducible rfl
      rotate_left
      · simp only [Act.put, List.setIfInBounds_toArray, List.set_cons_zero, List.set_cons_succ, i64_w, i32_w]
        rfl
      refine one_ (i := 1) (N := some 15) #[true, true, false, true, false, false, false, false, false, false, false, false, false, false, false, false, false, false, false, false, false, false, false, false, false, false] rfl rfl (by kernel_rfl) (by decide) (fun K hK => ?_)
      refine goes_ Try.func16 (by kernel_rfl) rfl #[.slice A0 l0.length c0] (by rfl) rfl rfl (by (try simp only [List.map_toArray, List.map_cons, List.map_nil]); first | done | rfl) ?_
      with_reducible refine (rest_Check.calls k _ _ l0 ac _ hHeld.1 HC0.out HK.out).mono ?_
      rintro e wq1 ⟨v, rfl, ho, hb⟩
      refine ⟨_, rfl, ?_⟩
      obtain ⟨Aa, ca, rfl⟩ := Kd.R_slice ho
      have HCF_Aa := (Kd.R_reads' ho).2.2
      have HCC_Aa := Aside0.mk (Kd.R_reads' ho).2.1
      clear ho
      refine hK.out _ _ (by exact ⟨Kd.C_below hHeld.1 hb, Kd.C_below hHeld.2 hb⟩) (fun hHeld' => ?_)
      clear hK K hHeld
      have hHeld := hHeld'
      clear hHeld'
      have HB' := Aside0.mk (below_step HB.out hb)
      clear HB hb
      have HB := HB'
      clear HB'
      refine more_ (S' := fun w' => (Kd.C (Kd.int .u8) w' A0 l0.length l0) ∧ (Kd.C (Kd.int .u8) w' Aw wr.length wr) ∧ (Kd.C (Kd.int .u8) w' Aa ac.length ac)) (fun _ h => ⟨h.1, h.2.1⟩) (by exact ⟨hHeld.1, hHeld.2, HCF_Aa⟩) (fun hHeld' => ?_)
      clear hHeld HCF_Aa
      have hHeld := hHeld'
      clear hHeld'
      refine norm_ (a' := ?_) ?_ ?_
      rotate_left
      · show Act.put _ (some 15) _ = _
        simp only [Act.put, List.setIfInBounds_toArray, List.set_cons_zero, List.set_cons_succ, i64_w, i32_w]
        rfl
      refine take_ (i := 2) (N := some 16) (v := ?_) (a' := ?_) #[true, true, true, true, false, false, false, false, false, false, false, false, false, false, false, false, false, false, false, false, false, false, false, false, false, false] rfl rfl (by kernel_rfl) (fun _ _ _ h => h) (Or.inl ⟨by rfl, ?_⟩) hHeld ?_ ?_
      rotate_left
      · intro w' s0
        have hcvS := Kd.C_string (P := Try.prog) (A := Aa) (c := ca) Try.underlying22 Try.underlying5 Try.underlying9 s0.2.2
        go_simp
        with_reducible rfl
      rotate_left
      · simp only [Act.put, List.setIfInBounds_toArray, List.set_cons_zero, List.set_cons_succ, i64_w, i32_w]
        rfl
      refine one_ (i := 4) (N := some 18) #[true, true, true, true, true, false, false, false, false, false, false, false, false, false, false, false, false, false, false, false, false, false, false, false, false, false] rfl rfl (by kernel_rfl) (by decide) (fun K hK => ?_)
      refine goes_ Try.func17 (by kernel_rfl) rfl #[.slice A0 l0.length c0] (by rfl) rfl rfl (by (try simp only [List.map_toArray, List.map_cons, List.map_nil]); first | done | rfl) ?_
      with_reducible refine (signalmanref01_Check.calls k _ _ l0 ac _ hHeld.1 HC0.out HKr.out).mono ?_
      rintro e wq2 ⟨v, rfl, ho, hb⟩
      refine ⟨_, rfl, ?_⟩
      obtain ⟨Ab, cb, rfl⟩ := Kd.R_slice ho
      have HCF_Ab := (Kd.R_reads' ho).2.2
      have HCC_Ab := Aside0.mk (Kd.R_reads' ho).2.1
      clear ho
      refine hK.out _ _ (by exact ⟨Kd.C_below hHeld.1 hb, Kd.C_below hHeld.2.1 hb, Kd.C_below hHeld.2.2 hb⟩) (fun hHeld' => ?_)
      clear hK K hHeld
      have hHeld := hHeld'
      clear hHeld'
      have HB' := Aside0.mk (below_step HB.out hb)
      clear HB hb
      have HB := HB'
      clear HB'
      refine more_ (S' := fun w' => (Kd.C (Kd.int .u8) w' A0 l0.length l0) ∧ (Kd.C (Kd.int .u8) w' Aw wr.length wr) ∧ (Kd.C (Kd.int .u8) w' Aa ac.length ac) ∧ (Kd.C (Kd.int .u8) w' Ab ac.length ac)) (fun _ h => ⟨h.1, h.2.1, h.2.2.1⟩) (by exact ⟨hHeld.1, hHeld.2.1, hHeld.2.2, HCF_Ab⟩) (fun hHeld' => ?_)
      clear hHeld HCF_Ab
      have hHeld := hHeld'
      clear hHeld'
      refine norm_ (a' := ?_) ?_ ?_
      rotate_left
      · show Act.put _ (some 18) _ = _
        simp only [Act.put, List.setIfInBounds_toArray, List.set_cons_zero, List.set_cons_succ, i64_w, i32_w]
        rfl
      refine take_ (i := 5) (N := some 19) (v := ?_) (a' := ?_) #[true, true, true, true, true, true, false, false, false, false, false, false, false, false, false, false, false, false, false, false, false, false, false, false, false, false] rfl rfl (by kernel_rfl) (fun _ _ _ h => h) (Or.inl ⟨by rfl, ?_⟩) hHeld ?_ ?_
      rotate_left
      · intro w' s0
        have hcvS := Kd.C_string (P := Try.prog) (A := Ab) (c := cb) Try.underlying22 Try.underlying5 Try.underlying9 s0.2.2.2
        go_simp
        with_reducible rfl
      rotate_left
      · simp only [Act.put, List.setIfInBounds_toArray, List.set_cons_zero, List.set_cons_succ, i64_w, i32_w]
        rfl
      refine pure_ (i := 6) (N := some 20) (v := ?_) (a' := ?_) #[true, true, true, true, true, true, true, false, false, false, false, false, false, false, false, false, false, false, false, false, false, false, false, false, false, false] rfl rfl (by kernel_rfl) (fun _ _ _ h => h) (Or.inl ⟨by rfl, ?_⟩) ?_ ?_
      rotate_left
      · intro w'
        go_simp
        with_reducible rfl
      rotate_left
      · simp only [Act.put, List.setIfInBounds_toArray, List.set_cons_zero, List.set_cons_succ, i64_w, i32_w]
        rfl
      refine pure_ (i := 7) (N := some 21) (v := ?_) (a' := ?_) #[true, true, true, true, true, true, true, true, false, false, false, false, false, false, false, false, false, false, false, false, false, false, false, false, false, false] rfl rfl (by kernel_rfl) (fun _ _ _ h => h) (Or.inl ⟨by rfl, ?_⟩) ?_ ?_
      rotate_left
      · intro w'
        go_simp
        with_reducible rfl
      rotate_left
      · simp only [Act.put, List.setIfInBounds_toArray, List.set_cons_zero, List.set_cons_succ, i64_w, i32_w]
        rfl
      refine pure_ (i := 8) (N := some 22) (v := ?_) (a' := ?_) #[true, true, true, true, true, true, true, true, true, false, false, false, false, false, false, false, false, false, false, false, false, false, false, false, false, false] rfl rfl (by kernel_rfl) (fun _ _ _ h => h) (Or.inl ⟨by rfl, ?_⟩) ?_ ?_
      rotate_left
      · intro w'
        go_simp
        with_reducible rfl
      rotate_left
      · simp only [Act.put, List.setIfInBounds_toArray, List.set_cons_zero, List.set_cons_succ, i64_w, i32_w]
        rfl
      refine take_ (i := 9) (N := some 23) (v := ?_) (a' := ?_) #[true, true, true, true, true, true, true, true, true, true, false, false, false, false, false, false, false, false, false, false, false, false, false, false, false, false] rfl rfl (by kernel_rfl) (fun _ _ _ h => h) (Or.inl ⟨by rfl, ?_⟩) hHeld ?_ ?_
      rotate_left
      · intro w' s0
        have hcvS := Kd.C_string (P := Try.prog) (A := Aw) (c := cw) Try.underlying22 Try.underlying5 Try.underlying9 s0.2.1
        go_simp
        with_reducible rfl
      rotate_left
      · simp only [Act.put, List.setIfInBounds_toArray, List.set_cons_zero, List.set_cons_succ, i64_w, i32_w]
        rfl
      refine pure_ (i := 10) (N := some 24) (v := ?_) (a' := ?_) #[true, true, true, true, true, true, true, true, true, true, true, false, false, false, false, false, false, false, false, false, false, false, false, false, false, false] rfl rfl (by kernel_rfl) (fun _ _ _ h => h) (Or.inl ⟨by rfl, ?_⟩) ?_ ?_
      rotate_left
      · intro w'
        go_simp
        with_reducible rfl
      rotate_left
      · simp only [Act.put, List.setIfInBounds_toArray, List.set_cons_zero, List.set_cons_succ, i64_w, i32_w]
        rfl
      refine one_ (i := 11) (N := some 25) #[true, true, true, true, true, true, true, true, true, true, true, true, false, false, false, false, false, false, false, false, false, false, false, false, false, false] rfl rfl (by kernel_rfl) (by decide) (fun K hK => ?_)
      refine goes_ Try.func13 (by kernel_rfl) rfl #[.slice A0 l0.length c0] (by rfl) rfl rfl (by (try simp only [List.map_toArray, List.map_cons, List.map_nil]); first | done | rfl) ?_
      with_reducible refine (signalmanref01_Whole.calls k _ _ l0 wr _ hHeld.1 HC0.out HWh.out).mono ?_
      rintro e wq3 ⟨v, rfl, ho, hb⟩
      refine ⟨_, rfl, ?_⟩
      obtain ⟨Ac, cc, rfl⟩ := Kd.R_slice ho
      have HCF_Ac := (Kd.R_reads' ho).2.2
      have HCC_Ac := Aside0.mk (Kd.R_reads' ho).2.1
      clear ho
      refine hK.out _ _ (by exact ⟨Kd.C_below hHeld.1 hb, Kd.C_below hHeld.2.1 hb, Kd.C_below hHeld.2.2.1 hb, Kd.C_below hHeld.2.2.2 hb⟩) (fun hHeld' => ?_)
      clear hK K hHeld
      have hHeld := hHeld'
      clear hHeld'
      have HB' := Aside0.mk (below_step HB.out hb)
      clear HB hb
      have HB := HB'
      clear HB'
      refine more_ (S' := fun w' => (Kd.C (Kd.int .u8) w' A0 l0.length l0) ∧ (Kd.C (Kd.int .u8) w' Aw wr.length wr) ∧ (Kd.C (Kd.int .u8) w' Aa ac.length ac) ∧ (Kd.C (Kd.int .u8) w' Ab ac.length ac) ∧ (Kd.C (Kd.int .u8) w' Ac wr.length wr)) (fun _ h => ⟨h.1, h.2.1, h.2.2.1, h.2.2.2.1⟩) (by exact ⟨hHeld.1, hHeld.2.1, hHeld.2.2.1, hHeld.2.2.2, HCF_Ac⟩) (fun hHeld' => ?_)
      clear hHeld HCF_Ac
      have hHeld := hHeld'
      clear hHeld'
      refine norm_ (a' := ?_) ?_ ?_
      rotate_left
      · show Act.put _ (some 25) _ = _
        simp only [Act.put, List.setIfInBounds_toArray, List.set_cons_zero, List.set_cons_succ, i64_w, i32_w]
        rfl
      refine take_ (i := 12) (N := some 26) (v := ?_) (a' := ?_) #[true, true, true, true, true, true, true, true, true, true, true, true, true, false, false, false, false, false, false, false, false, false, false, false, false, false] rfl rfl (by kernel_rfl) (fun _ _ _ h => h) (Or.inl ⟨by rfl, ?_⟩) hHeld ?_ ?_
      rotate_left
      · intro w' s0
        have hcvS := Kd.C_string (P := Try.prog) (A := Ac) (c := cc) Try.underlying22 Try.underlying5 Try.underlying9 s0.2.2.2.2
        go_simp
        with_reducible rfl
      rotate_left
      · simp only [Act.put, List.setIfInBounds_toArray, List.set_cons_zero, List.set_cons_succ, i64_w, i32_w]
        rfl
      refine pure_ (i := 13) (N := some 27) (v := ?_) (a' := ?_) #[true, true, true, true, true, true, true, true, true, true, true, true, true, true, false, false, false, false, false, false, false, false, false, false, false, false] rfl rfl (by kernel_rfl) (fun _ _ _ h => h) (Or.inl ⟨by rfl, ?_⟩) ?_ ?_
      rotate_left
      · intro w'
        go_simp
        with_reducible rfl
      rotate_left
      · simp only [Act.put, List.setIfInBounds_toArray, List.set_cons_zero, List.set_cons_succ, i64_w, i32_w]
        rfl
      refine pure_ (i := 14) (N := some 28) (v := ?_) (a' := ?_) #[true, true, true, true, true, true, true, true, true, true, true, true, true, true, true, false, false, false, false, false, false, false, false, false, false, false] rfl rfl (by kernel_rfl) (fun _ _ _ h => h) (Or.inl ⟨by rfl, ?_⟩) ?_ ?_
      rotate_left
      · intro w'
        go_simp
        with_reducible rfl
      rotate_left
      · simp only [Act.put, List.setIfInBounds_toArray, List.set_cons_zero, List.set_cons_succ, i64_w, i32_w]
        rfl
      refine pure_ (i := 15) (N := some 29) (v := ?_) (a' := ?_) #[true, true, true, true, true, true, true, true, true, true, true, true, true, true, true, true, false, false, false, false, false, false, false, false, false, false] rfl rfl (by kernel_rfl) (fun _ _ _ h => h) (Or.inl ⟨by rfl, ?_⟩) ?_ ?_
      rotate_left
      · intro w'
        go_simp
        with_reducible rfl
      rotate_left
      · simp only [Act.put, List.setIfInBounds_toArray, List.set_cons_zero, List.set_cons_succ, i64_w, i32_w]
        rfl
      refine pure_ (i := 16) (N := some 30) (v := ?_) (a' := ?_) #[true, true, true, true, true, true, true, true, true, true, true, true, true, true, true, true, true, false, false, false, false, false, false, false, false, false] rfl rfl (by kernel_rfl) (fun _ _ _ h => h) (Or.inl ⟨by rfl, ?_⟩) ?_ ?_
      rotate_left
      · intro w'
        go_simp
        with_reducible rfl
      rotate_left
      · simp only [Act.put, List.setIfInBounds_toArray, List.set_cons_zero, List.set_cons_succ, i64_w, i32_w]
        rfl
      refine one_ (i := 17) (N := some 31) #[true, true, true, true, true, true, true, true, true, true, true, true, true, true, true, true, true, true, false, false, false, false, false, false, false, false] rfl rfl (by kernel_rfl) (by decide) (fun K hK => ?_)
      refine goes_ Try.func11 (by kernel_rfl) rfl #[.slice Aw wr.length cw] (by rfl) rfl rfl (by (try simp only [List.map_toArray, List.map_cons, List.map_nil]); first | done | rfl) ?_
      with_reducible refine (rest_Right.calls k _ _ wr true _ hHeld.2.1 HCw.out HRi.out).mono ?_
      rintro e wq4 ⟨rfl, hb⟩
      refine ⟨_, rfl, ?_⟩
      refine hK.out _ _ (by exact ⟨Kd.C_below hHeld.1 hb, Kd.C_below hHeld.2.1 hb, Kd.C_below hHeld.2.2.1 hb, Kd.C_below hHeld.2.2.2.1 hb, Kd.C_below hHeld.2.2.2.2 hb⟩) (fun hHeld' => ?_)
      clear hK K hHeld
      have hHeld := hHeld'
      clear hHeld'
      have HB' := Aside0.mk (below_step HB.out hb)
      clear HB hb
      have HB := HB'
      clear HB'
      refine norm_ (a' := ?_) ?_ ?_
      rotate_left
      · show Act.put _ (some 31) _ = _
        simp only [Act.put, List.setIfInBounds_toArray, List.set_cons_zero, List.set_cons_succ, i64_w, i32_w]
        rfl
      refine pure_ (i := 18) (N := some 32) (v := ?_) (a' := ?_) #[true, true, true, true, true, true, true, true, true, true, true, true, true, true, true, true, true, true, true, false, false, false, false, false, false, false] rfl rfl (by kernel_rfl) (fun _ _ _ h => h) (Or.inl ⟨by rfl, ?_⟩) ?_ ?_
      rotate_left
      · intro w'
        go_simp
        with_reducible rfl
      rotate_left
      · simp only [Act.put, List.setIfInBounds_toArray, List.set_cons_zero, List.set_cons_succ, i64_w, i32_w]
        rfl
      refine pure_ (i := 19) (N := some 33) (v := ?_) (a' := ?_) #[true, true, true, true, true, true, true, true, true, true, true, true, true, true, true, true, true, true, true, true, false, false, false, false, false, false] rfl rfl (by kernel_rfl) (fun _ _ _ h => h) (Or.inl ⟨by rfl, ?_⟩) ?_ ?_
      rotate_left
      · intro w'
        go_simp
        with_reducible rfl
      rotate_left
      · simp only [Act.put, List.setIfInBounds_toArray, List.set_cons_zero, List.set_cons_succ, i64_w, i32_w]
        rfl
      refine pure_ (i := 20) (N := some 34) (v := ?_) (a' := ?_) #[true, true, true, true, true, true, true, true, true, true, true, true, true, true, true, true, true, true, true, true, true, false, false, false, false, false] rfl rfl (by kernel_rfl) (fun _ _ _ h => h) (Or.inl ⟨by rfl, ?_⟩) ?_ ?_
      rotate_left
      · intro w'
        go_simp
        with_reducible rfl
      rotate_left
      · simp only [Act.put, List.setIfInBounds_toArray, List.set_cons_zero, List.set_cons_succ, i64_w, i32_w]
        rfl
      refine one_ (i := 21) (N := some 35) #[true, true, true, true, true, true, true, true, true, true, true, true, true, true, true, true, true, true, true, true, true, true, false, false, false, false] rfl rfl (by kernel_rfl) (by decide) (fun K hK => ?_)
      refine goes_ Try.func8 (by kernel_rfl) rfl #[.slice Aw wr.length cw] (by rfl) rfl rfl (by (try simp only [List.map_toArray, List.map_cons, List.map_nil]); first | done | rfl) ?_
      with_reducible refine (signalmanref01_Bits.calls k _ _ wr tb _ hHeld.2.1 HCw.out HBi.out).mono ?_
      rintro e wq5 ⟨v, rfl, ho, hb⟩
      refine ⟨_, rfl, ?_⟩
      obtain ⟨At, ct, rfl⟩ := Kd.R_slice ho
      have HCF_At := (Kd.R_reads' ho).2.2
      have HCC_At := Aside0.mk (Kd.R_reads' ho).2.1
      clear ho
      refine hK.out _ _ (by exact ⟨Kd.C_below hHeld.1 hb, Kd.C_below hHeld.2.1 hb, Kd.C_below hHeld.2.2.1 hb, Kd.C_below hHeld.2.2.2.1 hb, Kd.C_below hHeld.2.2.2.2 hb⟩) (fun hHeld' => ?_)
      clear hK K hHeld
      have hHeld := hHeld'
      clear hHeld'
      have HB' := Aside0.mk (below_step HB.out hb)
      clear HB hb
      have HB := HB'
      clear HB'
      refine more_ (S' := fun w' => (Kd.C (Kd.int .u8) w' A0 l0.length l0) ∧ (Kd.C (Kd.int .u8) w' Aw wr.length wr) ∧ (Kd.C (Kd.int .u8) w' Aa ac.length ac) ∧ (Kd.C (Kd.int .u8) w' Ab ac.length ac) ∧ (Kd.C (Kd.int .u8) w' Ac wr.length wr) ∧ (Kd.C Kd.bool w' At tb.length tb)) (fun _ h => ⟨h.1, h.2.1, h.2.2.1, h.2.2.2.1, h.2.2.2.2.1⟩) (by exact ⟨hHeld.1, hHeld.2.1, hHeld.2.2.1, hHeld.2.2.2.1, hHeld.2.2.2.2, HCF_At⟩) (fun hHeld' => ?_)
      clear hHeld HCF_At
      have hHeld := hHeld'
      clear hHeld'
      refine norm_ (a' := ?_) ?_ ?_
      rotate_left
      · show Act.put _ (some 35) _ = _
        simp only [Act.put, List.setIfInBounds_toArray, List.set_cons_zero, List.set_cons_succ, i64_w, i32_w]
        rfl
      refine one_ (i := 22) (N := some 36) #[true, true, true, true, true, true, true, true, true, true, true, true, true, true, true, true, true, true, true, true, true, true, true, false, false, false] rfl rfl (by kernel_rfl) (by decide) (fun K hK => ?_)
      refine goes_ Try.func9 (by kernel_rfl) rfl #[.slice At tb.length ct] (by rfl) rfl rfl (by (try simp only [List.map_toArray, List.map_cons, List.map_nil]); first | done | rfl) ?_
      with_reducible refine (rest_Bits.calls k _ _ tb 61624 _ hHeld.2.2.2.2.2 HCC_At.out HRB.out).mono ?_
      rintro e wq6 ⟨rfl, hd⟩
      refine ⟨_, rfl, ?_⟩
      have hb := drawn_below hd
      clear hd
      refine hK.out _ _ (by exact ⟨Kd.C_below hHeld.1 hb, Kd.C_below hHeld.2.1 hb, Kd.C_below hHeld.2.2.1 hb, Kd.C_below hHeld.2.2.2.1 hb, Kd.C_below hHeld.2.2.2.2.1 hb, Kd.C_below hHeld.2.2.2.2.2 hb⟩) (fun hHeld' => ?_)
      clear hK K hHeld
      have hHeld := hHeld'
      clear hHeld'
      have HB' := Aside0.mk (below_step HB.out hb)
      clear HB hb
      have HB := HB'
      clear HB'
      refine norm_ (a' := ?_) ?_ ?_
      rotate_left
      · show Act.put _ (some 36) _ = _
        simp only [Act.put, List.setIfInBounds_toArray, List.set_cons_zero, List.set_cons_succ, i64_w, i32_w]
        rfl
      refine pure_ (i := 23) (N := some 37) (v := ?_) (a' := ?_) #[true, true, true, true, true, true, true, true, true, true, true, true, true, true, true, true, true, true, true, true, true, true, true, true, false, false] rfl rfl (by kernel_rfl) (fun _ _ _ h => h) (Or.inl ⟨by rfl, ?_⟩) ?_ ?_
      rotate_left
      · intro w'
        go_simp
        with_reducible rfl
      rotate_left
      · simp only [Act.put, List.setIfInBounds_toArray, List.set_cons_zero, List.set_cons_succ, i64_w, i32_w]
        rfl
      refine pure_ (i := 24) (N := some 38) (v := ?_) (a' := ?_) #[true, true, true, true, true, true, true, true, true, true, true, true, true, true, true, true, true, true, true, true, true, true, true, true, true, false] rfl rfl (by kernel_rfl) (fun _ _ _ h => h) (Or.inl ⟨by rfl, ?_⟩) ?_ ?_
      rotate_left
      · intro w'
        go_simp
        with_reducible rfl
      rotate_left
      · simp only [Act.put, List.setIfInBounds_toArray, List.set_cons_zero, List.set_cons_succ, i64_w, i32_w]
        rfl
      refine pure_ (i := 25) (N := some 2) (v := ?_) (a' := ?_) #[true, true, true, true, true, true, true, true, true, true, true, true, true, true, true, true, true, true, true, true, true, true, true, true, true, true] rfl rfl (by kernel_rfl) (fun _ _ _ h => h) (Or.inl ⟨by rfl, ?_⟩) ?_ ?_
      rotate_left
      · intro w'
        go_simp
        with_reducible rfl
      rotate_left
      · simp only [Act.put, List.setIfInBounds_toArray, List.set_cons_zero, List.set_cons_succ, i64_w, i32_w]
        rfl
      refine done_ (by kernel_rfl) ?_
      try go_wp2
      go_ret
      exact ⟨rfl, HB.out⟩
    · rw [if_neg hc] at h
      cases h
def signalmanlaw03_RestChecks.Pure : Prop := ∀ (l0 : List Int), l0.length ≤ maxLen → l0.length * 1 ≤ 140737488351232 → (∀ x ∈ l0, (Lit.int .u8 x).wf = true) → ∃ k, signalmanlaw03_RestChecks.f k l0 = some true
theorem signalmanlaw03_RestChecks.walk (P : signalmanlaw03_RestChecks.Pure) (a0 : Option Addr) (len0 cap0 : Nat) (z0 : List Int) (w : World) (w0 : (a0 = none ∧ len0 = 0 ∧ cap0 = 0 ∧ z0 = []) ∨ ∃ x, a0 = some x ∧ len0 ≤ cap0 ∧ cap0 ≤ maxLen ∧ z0.length = cap0 ∧ (∀ i, i < z0.length → w.cell? (x.add i) = some (.int .u8 (z0.getD i 0))) ∧ ∀ n ∈ z0, (Lit.int .u8 n).wf = true) (y0 : len0 * 1 ≤ 140737488351232) :
    Calls Try.prog 6 #[.slice a0 len0 cap0] w fun e w' => e = .returned (.bool true) ∧ Below w.heap.size w w' := by
  obtain ⟨l0, rfl, hr0, hm0, hw0, hc0⟩ := ReadsInt.ofRowC w0
  obtain ⟨k, h⟩ := P l0 hm0 y0 hw0
  refine (signalmanlaw03_RestChecks.calls k _ _ l0 true w (Kd.C_of_reads (d := (0 : Int)) (h1 := fun _ => rfl) hr0) hc0 h).mono ?_
  rintro e w' ⟨rfl, hd⟩
  exact ⟨rfl, hd⟩

end Go.Proofs.Ytkcinjemmnajmaa.MRestChecks
