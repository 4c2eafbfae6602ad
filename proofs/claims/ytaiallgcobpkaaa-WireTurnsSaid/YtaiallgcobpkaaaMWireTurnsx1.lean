/- A part of the proof of the given statement that each law names; no condition. Written by a program of this session's own (wip/tools/myprint.py, over the kit's print); Lean checks it. -/
import Derived.Test.YtaiallgcobpkaaaMWireTurnsx0
namespace Go.Proofs.Ytaiallgcobpkaaa.MWireTurns
open Go.RowKit Go.Proofs.Ytaiallgcobpkaaa Go.Proofs.YtaiallgcobpkaaaW.PrintWords Go.Proofs.YtaiallgcobpkaaaW.PrintLast Go.Proofs.YtaiallgcobpkaaaW.PrintMore
attribute [local go_sem] max2_int min2_int max_two min_two max_three min_three max_four min_four   -- for this text's walks alone
set_option linter.unusedVariables false
set_option linter.unusedSimpArgs false

-- NOT PRINTED: function 9 (wire_New)

-- NOT PRINTED: function 11 (wire_Wire_Pass)

-- NOT PRINTED: function 8 (signalmanlaw20_awake)

/-! ### signalmanref01_Bits: function 10 -/
def signalmanref01_Bits.l0 : Nat → List Int → List Bool → Int → Option (List Bool)
  | 0, _, _, _ => none
  | k + 1, x0, x3, x4 => if x4 < (wrap64 (8 * (x0.length : Int))) then (if 0 ≤ (wrap64 (Int.tdiv x4 8)) then (if (wrap64 (Int.tdiv x4 8)) < (x0.length : Int) then (if 0 ≤ (Int.tmod x4 8) then (if (shl .u8 1 (Int.tmod x4 8)) = 0 then (none) else (if x3.length < 140737488355328 then (signalmanref01_Bits.l0 k x0 (x3 ++ [((Int.tmod (IntKind.u8.wrap (Int.tdiv (rd x0 (wrap64 (Int.tdiv x4 8))) (shl .u8 1 (Int.tmod x4 8)))) 2) == 1)]) (wrap64 (x4 + 1))) else (none))) else (none)) else (none)) else (none)) else (some x3)
def signalmanref01_Bits.f (k : Nat) (l0 : List Int) : Option (List Bool) := signalmanref01_Bits.l0 k l0 ([] : List Bool) 0
theorem signalmanref01_Bits.mono_l : ∀ k, (∀ y0 y1 y2, LeO (signalmanref01_Bits.l0 k y0 y1 y2) (signalmanref01_Bits.l0 (k + 1) y0 y1 y2))
  | 0 => fun _ _ _ r h => by simp [signalmanref01_Bits.l0] at h
  | k + 1 => by
    have ih0 := signalmanref01_Bits.mono_l k
    · intro y0 y1 y2
      unfold signalmanref01_Bits.l0
      repeat' first
      | (with_reducible exact ih0 _ _ _)
      | (with_reducible exact LeO.refl _)
      | (with_reducible exact LeO.none _)
      | (with_reducible refine LeO.ite ?_ ?_)
      | (with_reducible refine LeO.bind ?_ (fun _ => ?_))
      | exact ih0 _ _ _
      | exact LeO.none _
      | refine LeO.ite ?_ ?_
      | refine LeO.bind ?_ (fun _ => ?_)
theorem signalmanref01_Bits.mono : ∀ a0 k, LeO (signalmanref01_Bits.f k a0) (signalmanref01_Bits.f (k + 1) a0) := by
  intro a0 k
  have ih0 := signalmanref01_Bits.mono_l k
  unfold signalmanref01_Bits.f
  repeat' first
      | (with_reducible exact ih0 _ _ _)
      | (with_reducible exact LeO.refl _)
      | (with_reducible exact LeO.none _)
      | (with_reducible refine LeO.ite ?_ ?_)
      | (with_reducible refine LeO.bind ?_ (fun _ => ?_))
      | exact ih0 _ _ _
      | exact LeO.none _
      | refine LeO.ite ?_ ?_
      | refine LeO.bind ?_ (fun _ => ?_)
def signalmanref01_Bits.T5 : Bool × List (List Nat × List Nat) := (true, [([], []), ([], []), ([], []), ([2], [2]), ([1, 3], [1, 3]), ([4], [4]), ([], []), ([6], [6]), ([7], [7]), ([5, 8], [5, 8]), ([9], [9]), ([10], [10]), ([11], [11]), ([0, 12], [0, 12]), ([13, 13, 0, 1, 2, 3, 4, 5, 6, 7, 8, 9, 10, 11, 12, 13], [0, 13])])
def signalmanref01_Bits.B5 : List Nat := [0, 0, 0, 4, 14, 30, 0, 64, 192, 510, 1022, 2046, 4094, 8191, 16383]
theorem signalmanref01_Bits.tab5 : rtab .any (opsOf Try.f10 5) = signalmanref01_Bits.T5 := by kernel_rfl
theorem signalmanref01_Bits.bits5 : waitsOk signalmanref01_Bits.T5.2 signalmanref01_Bits.B5 = true := by kernel_rfl
set_option maxHeartbeats 8000000 in
set_option maxRecDepth 100000 in
theorem signalmanref01_Bits.calls (k : Nat) (A0 : Option Addr) (c0 : Nat) (l0 : List Int) (r : List Bool) (w : World) (hr0 : Kd.C (Kd.int .u8) w A0 l0.length l0) (hc0 : l0.length ≤ c0) (h : signalmanref01_Bits.f k l0 = some r) :
    Calls Try.prog 10 #[.slice A0 l0.length c0] w fun e w' => ∃ v0_ : Value, e = .returned (v0_) ∧ Kd.R Kd.bool 4 w' w.heap.size (fun _ => True) v0_ r ∧ Below w.heap.size w w' := by
  have HR0 := Aside0.mk hr0
  have HC0 := Aside0.mk hc0
  clear hr0 hc0
  have HB := Aside0.mk (Below.refl w.heap.size w)
  have H : (signalmanref01_Bits.l0 k l0 ([] : List Bool) 0) = some r := h
  clear h
  have H' := Aside0.mk H
  clear H
  go_enter Try.func10, Try.ntmps10
  go_wp2
  go_loopg [3, 4] k (fun kq v3 v4 w' => ∃ (x3_1 : List Bool) (x4_1 : Int), v4 = .int .i64 x4_1 ∧ Aside0 (signalmanref01_Bits.l0 kq l0 x3_1 x4_1 = some r) ∧ Aside0 (kq ≤ k) ∧ Aside0 (Kd.R Kd.bool 4 w' w.heap.size (fun _ => True) v3 x3_1) ∧ Aside0 (Below w.heap.size w w'))
  case atStart => exact ⟨(([] : List Bool)), (0), (by first | rfl | (simp; done) | (simp [*]; done) | (simp; omega)), H', ⟨Nat.le_refl _⟩, ⟨by first | exact Kd.R_nil _ _ _ _ _ | exact Kd.N_nil _ _ _ _ _ | exact Kd.V_nil _ _ _ _ _ | exact Kd.Q_nil _ _ _ _ _ | exact Kd.S_nil _ _ _ _ _⟩, ⟨by repeat (first | (with_reducible first | exact HB.out | apply below_alloc | apply pw_below_drewN | apply below_drew1) | exact HB.out)⟩⟩
  case round =>
    clear H'
    try clear c1
    obtain ⟨x3_1, x4_1, rfl, HA, HK1, HO_3, HB⟩ := hrel
    cases gk with
    | zero => exact absurd HA.out (by simp [signalmanref01_Bits.l0])
    | succ k1 =>
      have H := HA.out
      clear HA
      simp only [signalmanref01_Bits.l0] at H
      by_cases c2 : x4_1 < (wrap64 (8 * (l0.length : Int)))
      · rw [if_pos c2] at H
        have c2b0 : decide (x4_1 < (wrap64 (8 * (l0.length : Int)))) = true := decide_eq_true c2
        clear c2
        obtain ⟨ji3, hji3⟩ : ∃ j_ : Int, (wrap64 (Int.tdiv x4_1 8)) = j_ := ⟨_, rfl⟩
        replace H : (if 0 ≤ (ji3) then (if (ji3) < (l0.length : Int) then (if 0 ≤ (Int.tmod x4_1 8) then (if (shl .u8 1 (Int.tmod x4_1 8)) = 0 then (none) else (if x3_1.length < 140737488355328 then (signalmanref01_Bits.l0 k1 l0 (x3_1 ++ [((Int.tmod (IntKind.u8.wrap (Int.tdiv (rd l0 (ji3)) (shl .u8 1 (Int.tmod x4_1 8)))) 2) == 1)]) (wrap64 (x4_1 + 1))) else (none))) else (none)) else (none)) else (none)) = some r := by first | (rw [hji3] at H; exact H) | (simp only [hji3] at H ⊢; exact H)
        have hji3w : (IntKind.i64.wrap (Int.tdiv x4_1 8)) = ji3 := (i64_w _).trans hji3
        by_cases c4 : 0 ≤ (ji3)
        · rw [if_pos c4] at H
          have c4b0 : decide (0 ≤ (ji3)) = true := decide_eq_true c4
          clear c4
          by_cases c5 : (ji3) < (l0.length : Int)
          · rw [if_pos c5] at H
            have c5b0 : decide ((ji3) < (l0.length : Int)) = true := decide_eq_true c5
            clear c5
            obtain ⟨ji6, hji6⟩ : ∃ j_ : Int, (Int.tmod x4_1 8) = j_ := ⟨_, rfl⟩
            replace H : (if 0 ≤ (ji6) then (if (shl .u8 1 (ji6)) = 0 then (none) else (if x3_1.length < 140737488355328 then (signalmanref01_Bits.l0 k1 l0 (x3_1 ++ [((Int.tmod (IntKind.u8.wrap (Int.tdiv (rd l0 (ji3)) (shl .u8 1 (ji6)))) 2) == 1)]) (wrap64 (x4_1 + 1))) else (none))) else (none)) = some r := by first | (rw [hji6] at H; exact H) | (simp only [hji6] at H ⊢; exact H)
            by_cases c7 : 0 ≤ (ji6)
            · rw [if_pos c7] at H
              have c7b0 := eq_true c7
              have c7b1 : decide (0 ≤ (ji6)) = true := decide_eq_true c7
              clear c7
              obtain ⟨ji8, hji8⟩ : ∃ j_ : Int, (shl .u8 1 (ji6)) = j_ := ⟨_, rfl⟩
              replace H : (if (ji8) = 0 then (none) else (if x3_1.length < 140737488355328 then (signalmanref01_Bits.l0 k1 l0 (x3_1 ++ [((Int.tmod (IntKind.u8.wrap (Int.tdiv (rd l0 (ji3)) (ji8))) 2) == 1)]) (wrap64 (x4_1 + 1))) else (none))) = some r := by first | (rw [hji8] at H; exact H) | (simp only [hji8] at H ⊢; exact H)
              have hji8_ : (IntKind.u8.wrap (1 * 2 ^ min (ji6).toNat 8)) = ji8 := hji8
              have hji8z : (ji6) ≤ 8 → (IntKind.u8.wrap (1 * 2 ^ (ji6).toNat)) = ji8 := shl_small hji8
              have hji8u : (IntKind.u8.wrap (2 ^ min (ji6).toNat 8)) = ji8 := by have h_ := hji8_; rw [Int.one_mul] at h_; exact h_
              have hji8v : (ji6) ≤ 8 → (IntKind.u8.wrap (2 ^ (ji6).toNat)) = ji8 := fun hle_ => by have h_ := hji8z hle_; rw [Int.one_mul] at h_; exact h_
              by_cases c9 : (ji8) = 0
              · rw [if_pos c9] at H
                exact absurd H (by simp)
              · rw [if_neg c9] at H
                have c9b0 : ((ji8) == 0) = false := beq_eq_false_iff_ne.mpr c9
                have c9b1 : ((ji8) != 0) = true := bne_iff_ne.mpr c9
                by_cases c10 : x3_1.length < 140737488355328
                · rw [if_pos c10] at H
                  have LMc10 := Aside0.mk c10
                  clear c10
                  obtain ⟨y102, hy102⟩ : ∃ y_ : List Bool, y_ = (x3_1 ++ [((Int.tmod (IntKind.u8.wrap (Int.tdiv (rd l0 (ji3)) (ji8))) 2) == 1)]) := ⟨_, rfl⟩
                  replace H : (signalmanref01_Bits.l0 k1 l0 y102 (wrap64 (x4_1 + 1))) = some r := by first | (rw [hy102]; with_reducible exact H) | (have H2_ := (Option.bind_some _ _).symm.trans H; rw [hy102]; with_reducible exact H2_) | (have H2_ := (Option.bind_some _ _).symm.trans H; with_reducible exact H2_) | with_reducible exact H | (rw [hy102]; exact H) | exact H
                  have Ny102 := Aside0.mk hy102
                  clear hy102
                  have H' := Aside0.mk H
                  clear H
                  try go_wp2
                  have n0_ := Aside0.mk (Kd.R_drew HO_3.out)
                  have n1_ := Aside0.mk (below_drew1 HB.out)
                  clear HO_3
                  clear HB
                  have HO_3 := n0_
                  have HB := n1_
                  clear n0_ n1_
                  have p101 : 0 ≤ ((ji3) : Int) := of_decide_eq_true (by first | (with_reducible assumption) | assumption)
                  have q101 : (ji3) < (l0.length : Int) := of_decide_eq_true (by first | (with_reducible assumption) | assumption)
                  obtain ⟨ad101, e101, hx101_0⟩ := Kd.at_int HR0.out (ji3) p101 q101
                  have hw101_0 := hx101_0
                  cases e101
                  replace hx101_0 := (HB.out.cell (World.block_lt_of_cell? w _ hx101_0)).trans hx101_0
                  replace p101 := eq_true p101
                  replace q101 := eq_true q101
                  refine start_ (n := 15) (S := fun w' => w'.cell? (ad101.add ((ji3)).toNat) = some (.int .u8 (rd l0 (ji3)))) (ds := []) #[false, false, false, false, false, false, false, false, false, false, false, false, false, false, false] (by kernel_rfl) rfl rfl (((HB.out.cell (World.block_lt_of_cell? w _ hw101_0)).trans hw101_0)) (fun hHeld => ?_); refine with_tabW signalmanref01_Bits.tab5 signalmanref01_Bits.bits5 (fun HT_ HW_ => ?_)
                  generalize wr.drew = w11 at HO_3 HB hx101_0 hHeld ⊢
                  refine pure_ (i := 0) (N := some 12) (v := ?_) (a' := ?_) #[true, false, false, false, false, false, false, false, false, false, false, false, false, false, false] rfl rfl (any_of HT_.out (by kernel_rfl)) (fun _ _ _ h => h) (Or.inl ⟨by rfl, ?_⟩) ?_ ?_
                  rotate_left
                  · intro w'
                    go_simp
                    with_reducible rfl
                  rotate_left
                  · simp only [Act.put, List.setIfInBounds_toArray, List.set_cons_zero, List.set_cons_succ, i64_w, i32_w]
                    rfl
                  refine pure_ (i := 1) (N := some 13) (v := ?_) (a' := ?_) #[true, true, false, false, false, false, false, false, false, false, false, false, false, false, false] rfl rfl (any_of HT_.out (by kernel_rfl)) (fun _ _ _ h => h) (Or.inl ⟨by rfl, ?_⟩) ?_ ?_
                  rotate_left
                  · intro w'
                    go_simp
                    with_reducible rfl
                  rotate_left
                  · simp only [Act.put, List.setIfInBounds_toArray, List.set_cons_zero, List.set_cons_succ, i64_w, i32_w]
                    rfl
                  refine pure_ (i := 2) (N := some 14) (v := ?_) (a' := ?_) #[true, true, true, false, false, false, false, false, false, false, false, false, false, false, false] rfl rfl (any_of HT_.out (by kernel_rfl)) (fun _ _ _ h => h) (Or.inl ⟨by rfl, ?_⟩) ?_ ?_
                  rotate_left
                  · intro w'
                    go_simp
                    with_reducible rfl
                  rotate_left
                  · simp only [Act.put, List.setIfInBounds_toArray, List.set_cons_zero, List.set_cons_succ, i64_w, i32_w]
                    rfl
                  refine pure_ (i := 3) (N := some 15) (v := ?_) (a' := ?_) #[true, true, true, true, false, false, false, false, false, false, false, false, false, false, false] rfl rfl (any_of HT_.out (by kernel_rfl)) (fun _ _ _ h => h) (Or.inl ⟨by rfl, ?_⟩) ?_ ?_
                  rotate_left
                  · intro w'
                    go_simp
                    with_reducible rfl
                  rotate_left
                  · simp only [Act.put, List.setIfInBounds_toArray, List.set_cons_zero, List.set_cons_succ, i64_w, i32_w]
                    rfl
                  refine pure_ (i := 4) (N := some 16) (v := ?_) (a' := ?_) #[true, true, true, true, true, false, false, false, false, false, false, false, false, false, false] rfl rfl (any_of HT_.out (by kernel_rfl)) (fun _ _ _ h => h) (Or.inl ⟨by rfl, ?_⟩) ?_ ?_
                  rotate_left
                  · intro w'
                    go_simp
                    with_reducible rfl
                  rotate_left
                  · simp only [Act.put, List.setIfInBounds_toArray, List.set_cons_zero, List.set_cons_succ, i64_w, i32_w]
                    rfl
                  refine pure_ (i := 6) (N := some 18) (v := ?_) (a' := ?_) #[true, true, true, true, true, false, true, false, false, false, false, false, false, false, false] rfl rfl (any_of HT_.out (by kernel_rfl)) (fun _ _ _ h => h) (Or.inl ⟨by rfl, ?_⟩) ?_ ?_
                  rotate_left
                  · intro w'
                    go_simp
                    with_reducible rfl
                  rotate_left
                  · simp only [Act.put, List.setIfInBounds_toArray, List.set_cons_zero, List.set_cons_succ, i64_w, i32_w]
                    rfl
                  refine pure_ (i := 7) (N := some 19) (v := ?_) (a' := ?_) #[true, true, true, true, true, false, true, true, false, false, false, false, false, false, false] rfl rfl (any_of HT_.out (by kernel_rfl)) (fun _ _ _ h => h) (Or.inl ⟨by rfl, ?_⟩) ?_ ?_
                  rotate_left
                  · intro w'
                    go_simp
                    with_reducible rfl
                  rotate_left
                  · simp only [Act.put, List.setIfInBounds_toArray, List.set_cons_zero, List.set_cons_succ, i64_w, i32_w]
                    rfl
                  refine pure_ (i := 8) (N := some 20) (v := ?_) (a' := ?_) #[true, true, true, true, true, false, true, true, true, false, false, false, false, false, false] rfl rfl (any_of HT_.out (by kernel_rfl)) (fun _ _ _ h => h) (Or.inl ⟨by rfl, ?_⟩) ?_ ?_
                  rotate_left
                  · intro w'
                    go_simp
                    with_reducible rfl
                  rotate_left
                  · simp only [Act.put, List.setIfInBounds_toArray, List.set_cons_zero, List.set_cons_succ, i64_w, i32_w]
                    rfl
                  refine take_ (i := 5) (N := some 17) (v := ?_) (a' := ?_) #[true, true, true, true, true, true, true, true, true, false, false, false, false, false, false] rfl rfl (take_ofW HT_.out HW_.out (by kernel_rfl)) (fun _ _ _ h => h) (Or.inl ⟨by rfl, ?_⟩) hHeld ?_ ?_
                  rotate_left
                  · intro w' s0
                    go_simp
                    with_reducible rfl
                  rotate_left
                  · simp only [Act.put, List.setIfInBounds_toArray, List.set_cons_zero, List.set_cons_succ, i64_w, i32_w]
                    rfl
                  refine pure_ (i := 9) (N := some 21) (v := ?_) (a' := ?_) #[true, true, true, true, true, true, true, true, true, true, false, false, false, false, false] rfl rfl (any_of HT_.out (by kernel_rfl)) (fun _ _ _ h => h) (Or.inl ⟨by rfl, ?_⟩) ?_ ?_
                  rotate_left
                  · intro w'
                    go_simp
                    with_reducible rfl
                  rotate_left
                  · simp only [Act.put, List.setIfInBounds_toArray, List.set_cons_zero, List.set_cons_succ, i64_w, i32_w]
                    rfl
                  refine pure_ (i := 10) (N := some 22) (v := ?_) (a' := ?_) #[true, true, true, true, true, true, true, true, true, true, true, false, false, false, false] rfl rfl (any_of HT_.out (by kernel_rfl)) (fun _ _ _ h => h) (Or.inl ⟨by rfl, ?_⟩) ?_ ?_
                  rotate_left
                  · intro w'
                    go_simp
                    with_reducible rfl
                  rotate_left
                  · simp only [Act.put, List.setIfInBounds_toArray, List.set_cons_zero, List.set_cons_succ, i64_w, i32_w]
                    rfl
                  refine pure_ (i := 11) (N := some 23) (v := ?_) (a' := ?_) #[true, true, true, true, true, true, true, true, true, true, true, true, false, false, false] rfl rfl (any_of HT_.out (by kernel_rfl)) (fun _ _ _ h => h) (Or.inl ⟨by rfl, ?_⟩) ?_ ?_
                  rotate_left
                  · intro w'
                    go_simp
                    with_reducible rfl
                  rotate_left
                  · simp only [Act.put, List.setIfInBounds_toArray, List.set_cons_zero, List.set_cons_succ, i64_w, i32_w]
                    rfl
                  refine one_ (i := 12) (N := some 24) #[true, true, true, true, true, true, true, true, true, true, true, true, true, false, false] rfl rfl (one_of HT_.out (by kernel_rfl)) (by decide) (fun K hK => ?_)
                  refine value_ (w1 := ?_) (v := ?_) (by rfl) rfl ?_ ?_
                  rotate_left 2
                  · go_simp
                    constructor
                    · rfl
                    · rfl
                  refine hK.out _ _ ((World.cell?_alloc_lt _ _ _ (World.block_lt_of_cell? _ _ (((HB.out.cell (World.block_lt_of_cell? w _ hw101_0)).trans hw101_0)))).trans (((HB.out.cell (World.block_lt_of_cell? w _ hw101_0)).trans hw101_0))) (fun hHeld => ?_)
                  clear hK K
                  refine norm_ (a' := ?_) ?_ ?_
                  rotate_left
                  · show Act.put _ (some 24) _ = _
                    simp only [Act.put, List.setIfInBounds_toArray, List.set_cons_zero, List.set_cons_succ, i64_w, i32_w]
                    rfl
                  refine one_ (i := 13) (N := some 25) #[true, true, true, true, true, true, true, true, true, true, true, true, true, true, false] rfl rfl (one_of HT_.out (by kernel_rfl)) (by decide) (fun K hK => ?_)
                  refine Kd.R_append_step Kd.bool (w0 := w) w.heap.size (by rfl) (.tmp 12) (.tmp 24) 28 4 (.bool false) 1 rfl Try.underlying28 info4 rfl (by decide) (by omega) u3 x3_1 ((Int.tmod (IntKind.u8.wrap (Int.tdiv (rd l0 (ji3)) (ji8))) 2) == 1) [.bool ((Int.tmod (IntKind.u8.wrap (Int.tdiv (rd l0 (ji3)) (ji8))) 2) == 1)] (fun _ => True) (fun _ => False) rfl rfl ?aP (fun _ hk => hk.elim) ?aF ?aO ?aB ?aS ?aL ?_
                  (case aP => exact rfl)
                  (case aB => exact (by repeat (first | (with_reducible first | exact HB.out | apply below_alloc | apply pw_below_drewN | apply below_drew1) | exact HB.out)))
                  (case aF => exact (fun _ _ => trivial))
                  (case aO => exact (by (with_reducible repeat (first | apply Kd.R_alloc | apply Kd.R_drewN | apply Kd.R_drew)); exact HO_3.out))
                  (case aS => exact (below_size (by repeat (first | (with_reducible first | exact HB.out | apply below_alloc | apply pw_below_drewN | apply below_drew1) | exact HB.out))))
                  (case aL => have := LMc10.out; omega)
                  intro v103 w12 ho hb hg hat
                  rw [← Ny102.out] at ho
                  have n0_ := Aside0.mk (hb)
                  have n1_ := Aside0.mk (ho)
                  clear HB
                  clear HO_3
                  have HB := n0_
                  have HO104 := n1_
                  clear n0_ n1_
                  clear ho hb hg hat
                  refine hK.out _ _ (((HB.out.cell (World.block_lt_of_cell? w _ hw101_0)).trans hw101_0)) (fun hHeld => ?_)
                  clear hK K
                  refine norm_ (a' := ?_) ?_ ?_
                  rotate_left
                  · show Act.put _ (some 25) _ = _
                    simp only [Act.put, List.setIfInBounds_toArray, List.set_cons_zero, List.set_cons_succ, i64_w, i32_w]
                    rfl
                  refine pure_ (i := 14) (N := some 3) (v := ?_) (a' := ?_) #[true, true, true, true, true, true, true, true, true, true, true, true, true, true, true] rfl rfl (any_of HT_.out (by kernel_rfl)) (fun _ _ _ h => h) (Or.inl ⟨by rfl, ?_⟩) ?_ ?_
                  rotate_left
                  · intro w'
                    go_simp
                    with_reducible rfl
                  rotate_left
                  · simp only [Act.put, List.setIfInBounds_toArray, List.set_cons_zero, List.set_cons_succ, i64_w, i32_w]
                    rfl
                  refine done_ (done_of HT_.out (by kernel_rfl)) ?_
                  try go_wp2
                  go_roundg k1
                  case measure => have := HK1.out; omega
                  case rel => exact ⟨(y102), (wrap64 (x4_1 + 1)), (by first | rfl | (simp; done) | (simp [*]; done) | (simp; omega)), H', ⟨by have := HK1.out; omega⟩, ⟨by (with_reducible repeat (first | apply Kd.R_alloc | apply Kd.R_drewN | apply Kd.R_drew)); exact HO104.out⟩, ⟨by repeat (first | (with_reducible first | exact HB.out | apply below_alloc | apply pw_below_drewN | apply below_drew1) | exact HB.out)⟩⟩
                · rw [if_neg c10] at H
                  exact absurd H (by simp)
            · rw [if_neg c7] at H
              exact absurd H (by simp)
          · rw [if_neg c5] at H
            exact absurd H (by simp)
        · rw [if_neg c4] at H
          exact absurd H (by simp)
      · rw [if_neg c2] at H
        have c2b0 : decide (x4_1 < (wrap64 (8 * (l0.length : Int)))) = false := decide_eq_false c2
        clear c2
        obtain rfl := Option.some.inj H
        go_wp2
        go_ret
        exact ⟨_, by first | rfl | (simp [errW_none, errW_some] <;> rfl) | (simp [*, errW_none, errW_some] <;> rfl), by (with_reducible repeat (first | apply Kd.R_alloc | apply Kd.R_drewN | apply Kd.R_drew)); exact HO_3.out, by repeat (first | (with_reducible first | exact HB.out | apply below_alloc | apply pw_below_drewN | apply below_drew1) | exact HB.out)⟩

/-! ### signalmanref01_Text: function 18 -/
def signalmanref01_Text.l0 : Nat → List Bool → List Int → Int → Option (ByteArray)
  | 0, _, _, _ => none
  | k + 1, x0, x3, x4 => if x4 < (x0.length : Int) then (if 0 ≤ x4 then (if rdOf false x0 x4 = true then (if x3.length < 140737488355328 then (signalmanref01_Text.l0 k x0 (x3 ++ [49]) (wrap64 (x4 + 1))) else (none)) else (if x3.length < 140737488355328 then (signalmanref01_Text.l0 k x0 (x3 ++ [48]) (wrap64 (x4 + 1))) else (none))) else (none)) else (some (strOfNums x3))
def signalmanref01_Text.f (k : Nat) (l0 : List Bool) : Option (ByteArray) := signalmanref01_Text.l0 k l0 ([] : List Int) 0
theorem signalmanref01_Text.mono_l : ∀ k, (∀ y0 y1 y2, LeO (signalmanref01_Text.l0 k y0 y1 y2) (signalmanref01_Text.l0 (k + 1) y0 y1 y2))
  | 0 => fun _ _ _ r h => by simp [signalmanref01_Text.l0] at h
  | k + 1 => by
    have ih0 := signalmanref01_Text.mono_l k
    · intro y0 y1 y2
      unfold signalmanref01_Text.l0
      repeat' first
      | (with_reducible exact ih0 _ _ _)
      | (with_reducible exact LeO.refl _)
      | (with_reducible exact LeO.none _)
      | (with_reducible refine LeO.ite ?_ ?_)
      | (with_reducible refine LeO.bind ?_ (fun _ => ?_))
      | exact ih0 _ _ _
      | exact LeO.none _
      | refine LeO.ite ?_ ?_
      | refine LeO.bind ?_ (fun _ => ?_)
theorem signalmanref01_Text.mono : ∀ a0 k, LeO (signalmanref01_Text.f k a0) (signalmanref01_Text.f (k + 1) a0) := by
  intro a0 k
  have ih0 := signalmanref01_Text.mono_l k
  unfold signalmanref01_Text.f
  repeat' first
      | (with_reducible exact ih0 _ _ _)
      | (with_reducible exact LeO.refl _)
      | (with_reducible exact LeO.none _)
      | (with_reducible refine LeO.ite ?_ ?_)
      | (with_reducible refine LeO.bind ?_ (fun _ => ?_))
      | exact ih0 _ _ _
      | exact LeO.none _
      | refine LeO.ite ?_ ?_
      | refine LeO.bind ?_ (fun _ => ?_)
set_option maxHeartbeats 8000000 in
set_option maxRecDepth 100000 in
theorem signalmanref01_Text.calls (k : Nat) (A0 : Option Addr) (c0 : Nat) (l0 : List Bool) (r : ByteArray) (w : World) (hr0 : Kd.C Kd.bool w A0 l0.length l0) (hc0 : l0.length ≤ c0) (h : signalmanref01_Text.f k l0 = some r) :
    Calls Try.prog 18 #[.slice A0 l0.length c0] w fun e w' => e = .returned (.string r) ∧ Below w.heap.size w w' := by
  have HR0 := Aside0.mk hr0
  have HC0 := Aside0.mk hc0
  clear hr0 hc0
  have HB := Aside0.mk (Below.refl w.heap.size w)
  have H : (signalmanref01_Text.l0 k l0 ([] : List Int) 0) = some r := h
  clear h
  have H' := Aside0.mk H
  clear H
  go_enter Try.func18, Try.ntmps18
  go_wp2
  go_loopg [3, 4] k (fun kq v3 v4 w' => ∃ (x3_1 : List Int) (x4_1 : Int), v4 = .int .i64 x4_1 ∧ Aside0 (signalmanref01_Text.l0 kq l0 x3_1 x4_1 = some r) ∧ Aside0 (kq ≤ k) ∧ Aside0 (Kd.R (Kd.int .u8) 5 w' w.heap.size (fun _ => True) v3 x3_1) ∧ Aside0 (Below w.heap.size w w'))
  case atStart => exact ⟨(([] : List Int)), (0), (by first | rfl | (simp; done) | (simp [*]; done) | (simp; omega)), H', ⟨Nat.le_refl _⟩, ⟨by first | exact Kd.R_nil _ _ _ _ _ | exact Kd.N_nil _ _ _ _ _ | exact Kd.V_nil _ _ _ _ _ | exact Kd.Q_nil _ _ _ _ _ | exact Kd.S_nil _ _ _ _ _⟩, ⟨by repeat (first | (with_reducible first | exact HB.out | apply below_alloc | apply pw_below_drewN | apply below_drew1) | exact HB.out)⟩⟩
  case round =>
    clear H'
    try clear c1
    obtain ⟨x3_1, x4_1, rfl, HA, HK1, HO_3, HB⟩ := hrel
    cases gk with
    | zero => exact absurd HA.out (by simp [signalmanref01_Text.l0])
    | succ k1 =>
      have H := HA.out
      clear HA
      simp only [signalmanref01_Text.l0] at H
      by_cases c2 : x4_1 < (l0.length : Int)
      · rw [if_pos c2] at H
        have c2b0 : decide (x4_1 < (l0.length : Int)) = true := decide_eq_true c2
        clear c2
        by_cases c3 : 0 ≤ x4_1
        · rw [if_pos c3] at H
          have c3b0 : decide (0 ≤ x4_1) = true := decide_eq_true c3
          clear c3
          obtain ⟨bq4, hbq4⟩ : ∃ b_ : Bool, b_ = (rdOf false l0 x4_1) := ⟨_, rfl⟩
          replace H : (if bq4 = true then (if x3_1.length < 140737488355328 then (signalmanref01_Text.l0 k1 l0 (x3_1 ++ [49]) (wrap64 (x4_1 + 1))) else (none)) else (if x3_1.length < 140737488355328 then (signalmanref01_Text.l0 k1 l0 (x3_1 ++ [48]) (wrap64 (x4_1 + 1))) else (none))) = some r := by rw [← hbq4] at H; exact H
          have Nbq4 := Aside0.mk hbq4
          clear hbq4
          by_cases c5 : bq4 = true
          · subst c5
            have H1 : (if x3_1.length < 140737488355328 then (signalmanref01_Text.l0 k1 l0 (x3_1 ++ [49]) (wrap64 (x4_1 + 1))) else (none)) = some r := by rw [if_pos rfl] at H; exact H
            clear H
            have H := H1
            clear H1
            by_cases c6 : x3_1.length < 140737488355328
            · rw [if_pos c6] at H
              have LMc6 := Aside0.mk c6
              clear c6
              obtain ⟨y106, hy106⟩ : ∃ y_ : List Int, y_ = (x3_1 ++ [49]) := ⟨_, rfl⟩
              replace H : (signalmanref01_Text.l0 k1 l0 y106 (wrap64 (x4_1 + 1))) = some r := by first | (rw [hy106]; with_reducible exact H) | (have H2_ := (Option.bind_some _ _).symm.trans H; rw [hy106]; with_reducible exact H2_) | (have H2_ := (Option.bind_some _ _).symm.trans H; with_reducible exact H2_) | with_reducible exact H | (rw [hy106]; exact H) | exact H
              have Ny106 := Aside0.mk hy106
              clear hy106
              have H' := Aside0.mk H
              clear H
              have p105 : 0 ≤ (x4_1 : Int) := of_decide_eq_true (by first | (with_reducible assumption) | assumption)
              have q105 : x4_1 < (l0.length : Int) := of_decide_eq_true (by first | (with_reducible assumption) | assumption)
              obtain ⟨ad105, e105, hx105_0⟩ := Kd.at_bool HR0.out x4_1 p105 q105
              (try rw [← Nbq4.out] at hx105_0)
              cases e105
              replace hx105_0 := (HB.out.cell (World.block_lt_of_cell? w _ hx105_0)).trans hx105_0
              replace p105 := eq_true p105
              replace q105 := eq_true q105
              go_wp2_with (first | ((with_reducible refine gate_builtin (b := .append) (xs := #[.tmp 15, .tmp 16]) rfl ?_); at_builtin; refine Kd.R_append (Kd.int .u8) (w0 := w) w.heap.size rfl (.tmp 15) (.tmp 16) 22 5 (.int .u8 0) 1 rfl Try.underlying22 info5 rfl (by decide) (by omega) u3 x3_1 49 [.int .u8 49] (fun _ => True) (fun _ => False) rfl rfl ?aP (fun _ hk => hk.elim) ?aF ?aO ?aB ?aS ?aL ?_; (case aP => exact rfl); (case aB => exact (by repeat (first | (with_reducible first | exact HB.out | apply below_alloc | apply pw_below_drewN | apply below_drew1) | exact HB.out))); (case aF => exact (fun _ _ => trivial)); (case aO => exact (by (with_reducible repeat (first | apply Kd.R_alloc | apply Kd.R_drewN | apply Kd.R_drew)); exact HO_3.out)); (case aS => exact (below_size (by repeat (first | (with_reducible first | exact HB.out | apply below_alloc | apply pw_below_drewN | apply below_drew1) | exact HB.out)))); (case aL => have := LMc6.out; omega); intro v107 w7 ho hb hg hat; (first | rw [← Ny106.out] at ho | (have hy_ := Ny106.out; (try rw [← Nbq4.out] at hy_); rw [← hy_] at ho)); have n0_ := Aside0.mk (hb); have n1_ := Aside0.mk (ho); clear HB; clear HO_3; have HB := n0_; have HO108 := n1_; clear n0_ n1_; clear ho hb hg hat))
              go_roundg k1
              case measure => have := HK1.out; omega
              case rel => exact ⟨(y106), (wrap64 (x4_1 + 1)), (by first | rfl | (simp; done) | (simp [*]; done) | (simp; omega)), H', ⟨by have := HK1.out; omega⟩, ⟨by (with_reducible repeat (first | apply Kd.R_alloc | apply Kd.R_drewN | apply Kd.R_drew)); exact HO108.out⟩, ⟨by repeat (first | (with_reducible first | exact HB.out | apply below_alloc | apply pw_below_drewN | apply below_drew1) | exact HB.out)⟩⟩
            · rw [if_neg c6] at H
              exact absurd H (by simp)
          · replace c5 := Bool.eq_false_iff.mpr c5
            subst c5
            have H1 : (if x3_1.length < 140737488355328 then (signalmanref01_Text.l0 k1 l0 (x3_1 ++ [48]) (wrap64 (x4_1 + 1))) else (none)) = some r := by rw [if_neg (show ¬ (false = true) by decide)] at H; exact H
            clear H
            have H := H1
            clear H1
            by_cases c8 : x3_1.length < 140737488355328
            · rw [if_pos c8] at H
              have LMc8 := Aside0.mk c8
              clear c8
              obtain ⟨y109, hy109⟩ : ∃ y_ : List Int, y_ = (x3_1 ++ [48]) := ⟨_, rfl⟩
              replace H : (signalmanref01_Text.l0 k1 l0 y109 (wrap64 (x4_1 + 1))) = some r := by first | (rw [hy109]; with_reducible exact H) | (have H2_ := (Option.bind_some _ _).symm.trans H; rw [hy109]; with_reducible exact H2_) | (have H2_ := (Option.bind_some _ _).symm.trans H; with_reducible exact H2_) | with_reducible exact H | (rw [hy109]; exact H) | exact H
              have Ny109 := Aside0.mk hy109
              clear hy109
              have H' := Aside0.mk H
              clear H
              have p105 : 0 ≤ (x4_1 : Int) := of_decide_eq_true (by first | (with_reducible assumption) | assumption)
              have q105 : x4_1 < (l0.length : Int) := of_decide_eq_true (by first | (with_reducible assumption) | assumption)
              obtain ⟨ad105, e105, hx105_0⟩ := Kd.at_bool HR0.out x4_1 p105 q105
              (try rw [← Nbq4.out] at hx105_0)
              cases e105
              replace hx105_0 := (HB.out.cell (World.block_lt_of_cell? w _ hx105_0)).trans hx105_0
              replace p105 := eq_true p105
              replace q105 := eq_true q105
              go_wp2_with (first | ((with_reducible refine gate_builtin (b := .append) (xs := #[.tmp 18, .tmp 19]) rfl ?_); at_builtin; refine Kd.R_append (Kd.int .u8) (w0 := w) w.heap.size rfl (.tmp 18) (.tmp 19) 22 5 (.int .u8 0) 1 rfl Try.underlying22 info5 rfl (by decide) (by omega) u3 x3_1 48 [.int .u8 48] (fun _ => True) (fun _ => False) rfl rfl ?aP (fun _ hk => hk.elim) ?aF ?aO ?aB ?aS ?aL ?_; (case aP => exact rfl); (case aB => exact (by repeat (first | (with_reducible first | exact HB.out | apply below_alloc | apply pw_below_drewN | apply below_drew1) | exact HB.out))); (case aF => exact (fun _ _ => trivial)); (case aO => exact (by (with_reducible repeat (first | apply Kd.R_alloc | apply Kd.R_drewN | apply Kd.R_drew)); exact HO_3.out)); (case aS => exact (below_size (by repeat (first | (with_reducible first | exact HB.out | apply below_alloc | apply pw_below_drewN | apply below_drew1) | exact HB.out)))); (case aL => have := LMc8.out; omega); intro v110 w9 ho hb hg hat; (first | rw [← Ny109.out] at ho | (have hy_ := Ny109.out; (try rw [← Nbq4.out] at hy_); rw [← hy_] at ho)); have n0_ := Aside0.mk (hb); have n1_ := Aside0.mk (ho); clear HB; clear HO_3; have HB := n0_; have HO111 := n1_; clear n0_ n1_; clear ho hb hg hat))
              go_roundg k1
              case measure => have := HK1.out; omega
              case rel => exact ⟨(y109), (wrap64 (x4_1 + 1)), (by first | rfl | (simp; done) | (simp [*]; done) | (simp; omega)), H', ⟨by have := HK1.out; omega⟩, ⟨by (with_reducible repeat (first | apply Kd.R_alloc | apply Kd.R_drewN | apply Kd.R_drew)); exact HO111.out⟩, ⟨by repeat (first | (with_reducible first | exact HB.out | apply below_alloc | apply pw_below_drewN | apply below_drew1) | exact HB.out)⟩⟩
            · rw [if_neg c8] at H
              exact absurd H (by simp)
        · rw [if_neg c3] at H
          exact absurd H (by simp)
      · rw [if_neg c2] at H
        have c2b0 : decide (x4_1 < (l0.length : Int)) = false := decide_eq_false c2
        clear c2
        obtain rfl := Option.some.inj H
        have hcv10 := own_string (P := Try.prog) Try.underlying22 Try.underlying5 Try.underlying9 (Kd.own_of_R HO_3.out)
        go_wp2
        go_ret
        exact ⟨by first | rfl | (simp [errW_none, errW_some] <;> rfl) | (simp [*, errW_none, errW_some] <;> rfl), by repeat (first | (with_reducible first | exact HB.out | apply below_alloc | apply pw_below_drewN | apply below_drew1) | exact HB.out)⟩

/-! ### signalmanref01_Same: function 12 -/
def signalmanref01_Same.f (k : Nat) (l0 : List Bool) (l1 : List Bool) : Option (Bool) := (signalmanref01_Text.f k l0).bind fun t112 => ((signalmanref01_Text.f k l1).bind fun t113 => (some (t112.toList == t113.toList)))
theorem signalmanref01_Same.mono : ∀ a0 a1 k, LeO (signalmanref01_Same.f k a0 a1) (signalmanref01_Same.f (k + 1) a0 a1) := by
  intro a0 a1 k
  unfold signalmanref01_Same.f
  repeat' first
      | (with_reducible exact signalmanref01_Text.mono _ _)
      | (with_reducible exact LeO.refl _)
      | (with_reducible exact LeO.none _)
      | (with_reducible refine LeO.ite ?_ ?_)
      | (with_reducible refine LeO.bind ?_ (fun _ => ?_))
      | exact signalmanref01_Text.mono _ _
      | exact LeO.none _
      | refine LeO.ite ?_ ?_
      | refine LeO.bind ?_ (fun _ => ?_)
set_option maxHeartbeats 8000000 in
set_option maxRecDepth 100000 in
theorem signalmanref01_Same.calls (k : Nat) (A0 : Option Addr) (c0 : Nat) (l0 : List Bool) (A1 : Option Addr) (c1 : Nat) (l1 : List Bool) (r : Bool) (w : World) (hr0 : Kd.C Kd.bool w A0 l0.length l0) (hc0 : l0.length ≤ c0) (hr1 : Kd.C Kd.bool w A1 l1.length l1) (hc1 : l1.length ≤ c1) (h : signalmanref01_Same.f k l0 l1 = some r) :
    Calls Try.prog 12 #[.slice A0 l0.length c0, .slice A1 l1.length c1] w fun e w' => e = .returned (.bool r) ∧ Below w.heap.size w w' := by
  have HR0 := Aside0.mk hr0
  have HC0 := Aside0.mk hc0
  clear hr0 hc0
  have HR1 := Aside0.mk hr1
  have HC1 := Aside0.mk hc1
  clear hr1 hc1
  have HB := Aside0.mk (Below.refl w.heap.size w)
  have H : ((signalmanref01_Text.f k l0).bind fun t112 => ((signalmanref01_Text.f k l1).bind fun t113 => (some (t112.toList == t113.toList)))) = some r := h
  clear h
  replace H := Option.bind_eq_some_iff.mp H
  obtain ⟨t112, A30, H⟩ := H
  replace H : ((signalmanref01_Text.f k l1).bind fun t113 => (some (t112.toList == t113.toList))) = some r := H
  have A3 := Aside0.mk A30
  clear A30
  replace H := Option.bind_eq_some_iff.mp H
  obtain ⟨t113, A40, H⟩ := H
  replace H : (some (t112.toList == t113.toList)) = some r := H
  have A4 := Aside0.mk A40
  clear A40
  obtain rfl := Option.some.inj H
  go_enter Try.func12, Try.ntmps12
  go_wp2_with (first | ((with_reducible refine gate_callee (f := 18) rfl ?_); refine goesL_ (some 6) rfl rfl Try.func18 (by kernel_rfl) rfl #[.slice A0 l0.length c0] rfl (by (try simp only [List.map_toArray, List.map_cons, List.map_nil]); first | done | rfl | (simp only [List.length_drop, List.length_take]; rfl) | (simp [Act.eval, *]; done)) ?_; (with_reducible refine (signalmanref01_Text.calls k _ _ l0 t112 _ ?side1 ?side2 A3.out).mono ?_); (case side1 => repeat (first | exact HR0.out | (with_reducible refine Kd.C_alloc ?_ _) | (with_reducible refine Kd.C_drewN ?_ _) | (with_reducible refine Kd.C_drew ?_))); (case side2 => exact HC0.out); rintro e w5 ⟨rfl, hb⟩; refine ⟨_, rfl, ?_⟩; have n0_ := Aside0.mk (below_step (by repeat (first | (with_reducible first | exact HB.out | apply below_alloc | apply pw_below_drewN | apply below_drew1) | exact HB.out)) hb); clear HB; have HB := n0_; clear n0_; (try clear hb); (try clear hb2); (try clear hk); (try clear hi)) | ((with_reducible refine gate_callee (f := 18) rfl ?_); refine goesL_ (some 8) rfl rfl Try.func18 (by kernel_rfl) rfl #[.slice A1 l1.length c1] rfl (by (try simp only [List.map_toArray, List.map_cons, List.map_nil]); first | done | rfl | (simp only [List.length_drop, List.length_take]; rfl) | (simp [Act.eval, *]; done)) ?_; (with_reducible refine (signalmanref01_Text.calls k _ _ l1 t113 _ ?side1 ?side2 A4.out).mono ?_); (case side1 => repeat (first | exact (Kd.C_below HR1.out HB.out) | (with_reducible refine Kd.C_alloc ?_ _) | (with_reducible refine Kd.C_drewN ?_ _) | (with_reducible refine Kd.C_drew ?_))); (case side2 => exact HC1.out); rintro e w6 ⟨rfl, hb⟩; refine ⟨_, rfl, ?_⟩; have n0_ := Aside0.mk (below_step (by repeat (first | (with_reducible first | exact HB.out | apply below_alloc | apply pw_below_drewN | apply below_drew1) | exact HB.out)) hb); clear HB; have HB := n0_; clear n0_; (try clear hb); (try clear hb2); (try clear hk); (try clear hi)))
  go_ret
  exact ⟨by first | rfl | (simp [errW_none, errW_some] <;> rfl) | (simp [*, errW_none, errW_some] <;> rfl), by repeat (first | (with_reducible first | exact HB.out | apply below_alloc | apply pw_below_drewN | apply below_drew1) | exact HB.out)⟩

-- NOT PRINTED: function 14 (wire_Wire_Bend)

/-! ### signalmanlaw20_WireTurns: function 4 -/
theorem rdOf_nat_ {α : Type} (d : α) (xs : List α) (i : Nat) (h : i < xs.length) : rdOf d xs (i : Int) = xs[i] := by
  simp [rdOf, List.getD_eq_getElem?_getD, List.getElem?_eq_getElem h]
set_option maxHeartbeats 8000000 in
set_option maxRecDepth 100000 in
theorem signalmanlaw20_WireTurns.early0 (A0 A1 : Option Addr) (c0 c1 : Nat) (l0 l1 : List Int) (w : World) (h0 : 100 < l0.length) :
    Calls Try.prog 4 #[.slice A0 l0.length c0, .slice A1 l1.length c1] w fun e w' => e = .returned (.bool true) ∧ Below w.heap.size w w' := by
  have HB := Aside0.mk (Below.refl w.heap.size w)
  have d01 : decide ((100 : Int) < (l0.length : Int)) = true := decide_eq_true (by omega)
  have d02 : decide (100 < l0.length) = true := decide_eq_true (by omega)
  go_enter Try.func4, Try.ntmps4
  go_wp2_with (first
  | ((with_reducible refine gate_callee (f := 8) rfl ?_); refine goesL_ (some 13) rfl rfl Try.func8 (by kernel_rfl) rfl #[] rfl (by (try simp only [List.map_toArray, List.map_cons, List.map_nil]); first | done | rfl | (simp [Act.eval, *]; done)) ?_; (with_reducible refine (Wire.awake_calls _).mono ?_); rintro e w5 ⟨rfl, hb⟩; refine ⟨_, rfl, ?_⟩; have n0_ := Aside0.mk (below_step HB.out hb); clear HB; have HB := n0_; clear n0_; clear hb)
  | ((with_reducible refine gate_callee (f := 8) rfl ?_); refine goesL_ (some 25) rfl rfl Try.func8 (by kernel_rfl) rfl #[] rfl (by (try simp only [List.map_toArray, List.map_cons, List.map_nil]); first | done | rfl | (simp [Act.eval, *]; done)) ?_; (with_reducible refine (Wire.awake_calls _).mono ?_); rintro e w5 ⟨rfl, hb⟩; refine ⟨_, rfl, ?_⟩; have n0_ := Aside0.mk (below_step HB.out hb); clear HB; have HB := n0_; clear n0_; clear hb))
  go_ret
  exact ⟨rfl, HB.out⟩
set_option maxHeartbeats 8000000 in
set_option maxRecDepth 100000 in
theorem signalmanlaw20_WireTurns.early1 (A0 A1 : Option Addr) (c0 c1 : Nat) (l0 l1 : List Int) (w : World) (h0 : l0.length ≤ 100) (h1 : 100 < l1.length) :
    Calls Try.prog 4 #[.slice A0 l0.length c0, .slice A1 l1.length c1] w fun e w' => e = .returned (.bool true) ∧ Below w.heap.size w w' := by
  have HB := Aside0.mk (Below.refl w.heap.size w)
  have d01 : decide ((100 : Int) < (l0.length : Int)) = false := decide_eq_false (by omega)
  have d02 : decide (100 < l0.length) = false := decide_eq_false (by omega)
  have d11 : decide ((100 : Int) < (l1.length : Int)) = true := decide_eq_true (by omega)
  have d12 : decide (100 < l1.length) = true := decide_eq_true (by omega)
  go_enter Try.func4, Try.ntmps4
  go_wp2_with (first
  | ((with_reducible refine gate_callee (f := 8) rfl ?_); refine goesL_ (some 13) rfl rfl Try.func8 (by kernel_rfl) rfl #[] rfl (by (try simp only [List.map_toArray, List.map_cons, List.map_nil]); first | done | rfl | (simp [Act.eval, *]; done)) ?_; (with_reducible refine (Wire.awake_calls _).mono ?_); rintro e w5 ⟨rfl, hb⟩; refine ⟨_, rfl, ?_⟩; have n0_ := Aside0.mk (below_step HB.out hb); clear HB; have HB := n0_; clear n0_; clear hb)
  | ((with_reducible refine gate_callee (f := 8) rfl ?_); refine goesL_ (some 25) rfl rfl Try.func8 (by kernel_rfl) rfl #[] rfl (by (try simp only [List.map_toArray, List.map_cons, List.map_nil]); first | done | rfl | (simp [Act.eval, *]; done)) ?_; (with_reducible refine (Wire.awake_calls _).mono ?_); rintro e w5 ⟨rfl, hb⟩; refine ⟨_, rfl, ?_⟩; have n0_ := Aside0.mk (below_step HB.out hb); clear HB; have HB := n0_; clear n0_; clear hb))
  go_ret
  exact ⟨rfl, HB.out⟩
set_option maxHeartbeats 8000000 in
set_option maxRecDepth 100000 in
theorem signalmanlaw20_WireTurns.main (k : Nat) (A0 A1 : Option Addr) (c0 c1 : Nat) (l0 l1 : List Int) (t m : List Bool) (w : World) (hr0 : Kd.C (Kd.int .u8) w A0 l0.length l0) (hc0 : l0.length ≤ c0) (hr1 : Kd.C (Kd.int .u8) w A1 l1.length l1) (hc1 : l1.length ≤ c1) (hl0 : l0.length ≤ 100) (hl1 : l1.length ≤ 100) (ht : t.length ≤ 10000) (hm : m.length ≤ 10000) (h0 : signalmanref01_Bits.f k l0 = some t) (h1 : signalmanref01_Bits.f k l1 = some m)
    (hs2 : signalmanref01_Same.f k t t = some true) :
    Calls Try.prog 4 #[.slice A0 l0.length c0, .slice A1 l1.length c1] w fun e w' => e = .returned (.bool true) ∧ Below w.heap.size w w' := by
  have HB := Aside0.mk (Below.refl w.heap.size w)
  have HR0 := Aside0.mk hr0
  have HC0 := Aside0.mk hc0
  have HR1 := Aside0.mk hr1
  have HC1 := Aside0.mk hc1
  have HH0 := Aside0.mk h0
  have HH1 := Aside0.mk h1
  have HTL := Aside0.mk ht
  have HML := Aside0.mk (show m.length ≤ 65536 by omega)
  have HS2 := Aside0.mk hs2
  clear hr0 hc0 hr1 hc1 h0 h1 ht hm hs2
  have d01 : decide ((100 : Int) < (l0.length : Int)) = false := decide_eq_false (by omega)
  have d02 : decide (100 < l0.length) = false := decide_eq_false (by omega)
  have d11 : decide ((100 : Int) < (l1.length : Int)) = false := decide_eq_false (by omega)
  have d12 : decide (100 < l1.length) = false := decide_eq_false (by omega)
  go_enter Try.func4, Try.ntmps4
  go_wp2_with (first
  | ((with_reducible refine gate_callee (f := 8) rfl ?_); refine goesL_ (some 13) rfl rfl Try.func8 (by kernel_rfl) rfl #[] rfl (by (try simp only [List.map_toArray, List.map_cons, List.map_nil]); first | done | rfl | (simp [Act.eval, *]; done)) ?_; (with_reducible refine (Wire.awake_calls _).mono ?_); rintro e w5 ⟨rfl, hb⟩; refine ⟨_, rfl, ?_⟩; have n0_ := Aside0.mk (below_step HB.out hb); clear HB; have HB := n0_; clear n0_; clear hb)
  | ((with_reducible refine gate_callee (f := 9) rfl ?_); refine goesL_ (some 27) rfl rfl Try.func9 (by kernel_rfl) rfl #[.int .i64 0] rfl (by (try simp only [List.map_toArray, List.map_cons, List.map_nil]); first | done | rfl | (simp [Act.eval, *]; done)) ?_; (with_reducible refine (Wire.new_bare0 _).mono ?_); rintro e w1 ⟨g, gl, rfl, hg, hgl, hI, hb⟩; refine ⟨_, rfl, ?_⟩; have HG := Aside0.mk (Nat.le_trans HB.out.size hg); have HL := Aside0.mk (Nat.le_trans HB.out.size hgl); have HBa := Aside0.mk hI; have n0_ := Aside0.mk (below_step HB.out hb); clear HB; have HB := n0_; clear n0_; clear hg hgl hI hb)
  | ((with_reducible refine gate_callee (f := 9) rfl ?_); refine goesL_ (some 31) rfl rfl Try.func9 (by kernel_rfl) rfl #[.int .i64 5] rfl (by (try simp only [List.map_toArray, List.map_cons, List.map_nil]); first | done | rfl | (simp [Act.eval, *]; done)) ?_; (with_reducible refine (Wire.new_bare5 _).mono ?_); rintro e w2 ⟨h, hl, rfl, hg, hgl, hI, hb⟩; refine ⟨_, rfl, ?_⟩; have HH := Aside0.mk (Nat.le_trans HB.out.size hg); have HHL := Aside0.mk (Nat.le_trans HB.out.size hgl); have HI := Aside0.mk (Wire.Bares.mk2 HBa.out hI hb hg hgl); have n0_ := Aside0.mk (below_step HB.out hb); clear HB; have HB := n0_; clear n0_; clear hg hgl hI hb HBa)
  | ((with_reducible refine gate_callee (f := 10) rfl ?_); refine goesL_ (some 35) rfl rfl Try.func10 (by kernel_rfl) rfl #[.slice A1 l1.length c1] rfl (by (try simp only [List.map_toArray, List.map_cons, List.map_nil]); first | done | rfl | (simp [Act.eval, *]; done)) ?_; (with_reducible refine (signalmanref01_Bits.calls k A1 c1 l1 m _ (Kd.C_below HR1.out HB.out) HC1.out HH1.out).mono ?_); rintro e w3 ⟨v, rfl, ho, hb⟩; refine ⟨_, rfl, ?_⟩; obtain ⟨Am, cm, rfl, hcm, hrm, hfm⟩ := Wire.fresh_reads ho; have HM := Aside0.mk hrm; have HMf := Aside0.mk (show ∀ ad, Am = some ad → 0 < m.length → ad.block ≠ g ∧ ad.block ≠ h ∧ ad.block < w3.heap.size from fun ad e hn => ⟨by have := hfm ad e hn; have := HI.out.1.lt; omega, by have := hfm ad e hn; have := HI.out.2.1.lt; omega, Wire.reads_block hrm ad e hn⟩); have n0_ := Aside0.mk (Wire.Bares.below HI.out hb); have n1_ := Aside0.mk (below_step HB.out hb); clear HI HB; have HI := n0_; have HB := n1_; clear n0_ n1_; clear ho hb hcm hrm hfm)
  | ((with_reducible refine gate_callee (f := 14) rfl ?_); refine goesL_ (some 38) rfl rfl Try.func14 (by kernel_rfl) rfl #[.pointer (some ⟨g, 0, none⟩), .slice Am m.length cm] rfl (by (try simp only [List.map_toArray, List.map_cons, List.map_nil]); first | done | rfl | (simp [Act.eval, *]; done)) ?_; (with_reducible refine (Wire.bend_a HI.out m Am cm HM.out HML.out).mono ?_); rintro e w4 ⟨rfl, hI, ho⟩; refine ⟨_, rfl, ?_⟩; have HT := Aside0.mk hI; clear HI; have n0_ := Aside0.mk (show ∀ ad, Am = some ad → 0 < m.length → ad.block ≠ h ∧ ad.block < w4.heap.size from fun ad e hn => ⟨(HMf.out ad e hn).2.1, Nat.lt_of_lt_of_le (HMf.out ad e hn).2.2 ho.size⟩); have n1_ := Aside0.mk (Wire.reads_only HM.out ho (fun ad e hn hp => by have := HMf.out ad e hn; omega)); have n2_ := Aside0.mk (ho.below (B := w.heap.size) (fun k hk => hk.elim (fun e => e ▸ HG.out) (fun e => Nat.le_trans HB.out.size e)) HB.out HB.out.size); clear HMf HM HB; have HMf := n0_; have HM := n1_; have HB := n2_; clear n0_ n1_ n2_; clear hI ho)
  | ((with_reducible refine gate_callee (f := 14) rfl ?_); refine goesL_ (some 41) rfl rfl Try.func14 (by kernel_rfl) rfl #[.pointer (some ⟨h, 0, none⟩), .slice Am m.length cm] rfl (by (try simp only [List.map_toArray, List.map_cons, List.map_nil]); first | done | rfl | (simp [Act.eval, *]; done)) ?_; (with_reducible refine (Wire.bend_b HT.out Am cm HM.out HML.out).mono ?_); rintro e w6 ⟨rfl, hI, ho⟩; refine ⟨_, rfl, ?_⟩; have HI := Aside0.mk hI; clear HT HM HMf; have n0_ := Aside0.mk (ho.below (B := w.heap.size) (fun k hk => hk.elim (fun e => e ▸ HH.out) (fun e => Nat.le_trans HB.out.size e)) HB.out HB.out.size); clear HB; have HB := n0_; clear n0_; clear hI ho)
  | ((with_reducible refine gate_callee (f := 10) rfl ?_); refine goesL_ (some 43) rfl rfl Try.func10 (by kernel_rfl) rfl #[.slice A0 l0.length c0] rfl (by (try simp only [List.map_toArray, List.map_cons, List.map_nil]); first | done | rfl | (simp [Act.eval, *]; done)) ?_; (with_reducible refine (signalmanref01_Bits.calls k A0 c0 l0 t _ (Kd.C_below HR0.out HB.out) HC0.out HH0.out).mono ?_); rintro e w7 ⟨v, rfl, ho, hb⟩; refine ⟨_, rfl, ?_⟩; have HO := Aside0.mk ho; have HB3 := Aside0.mk hb; clear ho hb)
  | ((with_reducible refine gate_builtin (b := .append) (xs := #[.tmp 43, .const (.int .i64 5)]) rfl ?_); at_builtin; refine Kd.R_append_zeros Kd.bool (w0 := w6) w6.heap.size rfl (.tmp 43) (.const (.int .i64 5)) 28 3 4 (.bool false) 1 rfl Try.underlying28 Try.underlying3 info4 rfl (by decide) (by omega) v t false (5 : Int) (fun _ => True) rfl rfl ?aP ?aF ?aO ?a0 ?aB ?aS ?aL ?_; (case aP => exact rfl); (case aF => exact fun _ _ => trivial); (case aO => exact HO.out); (case a0 => decide); (case aB => exact HB3.out); (case aS => exact HB3.out.size); (case aL => have := HTL.out; omega); intro v8 w8 ho hb hg hat; rw [show (5 : Int).toNat = 5 from rfl] at ho; obtain ⟨u, hu⟩ : ∃ u, u = t ++ List.replicate 5 false := ⟨_, rfl⟩; rw [← hu] at ho; replace hu := Aside0.mk hu; obtain ⟨At, ct, rfl, hct, hrd, hfr⟩ := Wire.fresh_reads ho; have HT := Aside0.mk hrd; have HCT := Aside0.mk hct; have HAp := Aside0.mk hfr; have n1_ := Aside0.mk (Wire.Two.below HI.out hb (Nat.le_refl _)); have n0_ := Aside0.mk (below_step HB.out hb); have HS6 := Aside0.mk hb.size; clear HB HI HB3 HO; have HB := n0_; have HI := n1_; clear n0_ n1_ ho hb hg hat hct hrd hfr))
  obtain ⟨s, hs⟩ : ∃ s, s = List.replicate 5 false ++ u := ⟨_, rfl⟩
  replace hu := hu.out
  have hsl : s.length = 5 + u.length := by rw [hs, List.length_append, List.length_replicate]
  have hul : u.length = t.length + 5 := by rw [hu, List.length_append, List.length_replicate]
  have hT10 := HTL.out
  have hsu : ∀ j, j < u.length → s.getD (j + 5) false = u.getD j false := by
    intro j hj
    rw [hs, List.getD_eq_getElem?_getD, List.getD_eq_getElem?_getD, List.getElem?_append_right (by simp), List.length_replicate, Nat.add_sub_cancel]
  have HBS := Aside0.mk HB.out.size
  have HLT := Aside0.mk HI.out.lt
  have HTB := Aside0.mk (Wire.reads_block HT.out)
  have HSO := Aside0.mk (show s.take u.length = List.replicate 5 false ++ t by
    rw [hul, hs, hu, ← List.append_assoc, List.take_append_of_le_length (by simp only [List.length_append, List.length_replicate]; omega), List.take_of_length_le (by simp only [List.length_append, List.length_replicate]; omega)])
  have HI0 := Aside0.mk (show Wire.Turn w6.heap.size w8 g gl h hl s m 0 from by
    have := HI.out
    unfold Wire.Turn
    rw [List.drop_zero, List.drop_zero, hs, List.take_append_of_le_length (by simp), List.take_of_length_le (by simp)]
    exact this)
  have HUT := Aside0.mk (show u.take t.length = t by rw [hu]; simp)
  have HSL := Aside0.mk hsl
  have HUL := Aside0.mk hul
  have HSU := Aside0.mk hsu
  clear hs hu hsl hul hsu hT10 d01 d02 d11 d12 HI
  go_loopw [11, 12] (fun v11 v12 wr => ∃ j : Nat, j ≤ u.length ∧ v12 = .int .i64 j ∧ Aside0 (Wire.Turn w6.heap.size wr g gl h hl s m j) ∧ Aside0 (Below w.heap.size w wr) ∧ Aside0 (ReadsOf Value.bool false wr At u.length u) ∧ Aside0 (Kd.R Kd.bool 4 wr w8.heap.size (fun k => w6.heap.size ≤ k) v11 (s.take j)) ∧ Aside0 (w8.heap.size ≤ wr.heap.size)) (fun _ v12 _ => u.length - (intOf v12).toNat)
  case atStart =>
    exact ⟨0, Nat.zero_le _, rfl, HI0, HB, HT, ⟨Kd.R_nil _ _ _ _ _⟩, ⟨Nat.le_refl _⟩⟩
  case round =>
    clear HB HT HI0
    obtain ⟨j, hj, rfl, HI, HB, HT, HO, HS⟩ := hrel
    by_cases hlt : j < u.length
    · have hpos : 0 < u.length := by omega
      have b1 : decide ((j : Int) < (u.length : Int)) = true := decide_eq_true (by omega)
      have p1 := eq_true (show 0 ≤ (j : Int) by omega)
      have p2 := eq_true (show (j : Int) < (u.length : Int) by omega)
      obtain ⟨ad, e, hx⟩ := ReadsOf.at_ HT.out (j : Int) (by omega) (by omega)
      cases e
      rw [rdOf_nat_ false u j hlt, Int.toNat_natCast] at hx
      have hjl : j < s.length := by have := HSL.out; omega
      have HLN := Aside0.mk (show j + 1 ≤ 140737488355328 by have := HUL.out; have := HTL.out; omega)
      have hgu : u.getD j false = u[j] := by simp [List.getD_eq_getElem?_getD, List.getElem?_eq_getElem hlt]
      have hxs : s.getD (j + 5) false = u[j] := by rw [HSU.out j hlt, hgu]
      have hzs : s.getD j false = s[j] := by simp [List.getD_eq_getElem?_getD, List.getElem?_eq_getElem hjl]
      have htk : s.take (j + 1) = s.take j ++ [s[j]] := List.take_succ_eq_append_getElem hjl
      have hj6 := Aside0.mk (show j < 1000000 by have := HUL.out; have := HTL.out; omega)
      have hjs := Aside0.mk (show j + 5 < s.length by have := HSL.out; omega)
      generalize u[j] = x at hx hxs hgu
      generalize s[j] = z at hzs htk
      replace hxs := Aside0.mk hxs
      replace hzs := Aside0.mk hzs
      replace htk := Aside0.mk htk
      clear hgu
      go_wp2_with (first
        | ((with_reducible refine gate_callee (f := 11) rfl ?_); refine goesL_ (some 58) rfl rfl Try.func11 (by kernel_rfl) rfl #[.pointer (some ⟨g, 0, none⟩), .bool x] rfl (by (try simp only [List.map_toArray, List.map_cons, List.map_nil]); first | done | rfl | (simp [Act.eval, *]; done)) ?_; (with_reducible refine (Wire.turn_a (x := x) HI.out hj6.out).mono ?_); rintro e wa ⟨y, rfl, hI, ho⟩; refine ⟨_, rfl, ?_⟩; have n0_ := Aside0.mk (ho.below (B := w.heap.size) (fun k hk => hk.elim (fun e => e ▸ HG.out) (fun e => e ▸ HL.out)) HB.out HB.out.size); have n1_ := Aside0.mk (hI); have n2_ := Aside0.mk (Wire.reads_only HT.out ho (fun ad e hn hp => by have := HAp.out ad e hn; have := HLT.out; omega)); have n3_ := Aside0.mk (Kd.R_step HO.out (fun k hk hlt => ho.block k hlt (fun hp => by have := HLT.out; omega))); have n4_ := Aside0.mk (Nat.le_trans HS.out ho.size); clear HB HI HT HO HS; have HB := n0_; have HI := n1_; have HT := n2_; have HO := n3_; have HS := n4_; clear n0_ n1_ n2_ n3_ n4_; clear hx hI ho)
        | ((with_reducible refine gate_callee (f := 11) rfl ?_); refine goesL_ (some 59) rfl rfl Try.func11 (by kernel_rfl) rfl #[.pointer (some ⟨h, 0, none⟩), .bool y] rfl (by (try simp only [List.map_toArray, List.map_cons, List.map_nil]); first | done | rfl | (simp [Act.eval, *]; done)) ?_; (with_reducible refine (Wire.turn_b (z := z) HI.out hj6.out hjs.out hxs.out hzs.out).mono ?_); rintro e wb ⟨rfl, hI, ho⟩; refine ⟨_, rfl, ?_⟩; have n0_ := Aside0.mk (ho.below (B := w.heap.size) (fun k hk => hk.elim (fun e => e ▸ HH.out) (fun e => e ▸ HHL.out)) HB.out HB.out.size); have n1_ := Aside0.mk (hI); have n2_ := Aside0.mk (Wire.reads_only HT.out ho (fun ad e hn hp => by have := HAp.out ad e hn; have := HLT.out; omega)); have n3_ := Aside0.mk (Kd.R_step HO.out (fun k hk hlt => ho.block k hlt (fun hp => by have := HLT.out; omega))); have n4_ := Aside0.mk (Nat.le_trans HS.out ho.size); clear HB HI HT HO HS; have HB := n0_; have HI := n1_; have HT := n2_; have HO := n3_; have HS := n4_; clear n0_ n1_ n2_ n3_ n4_; clear hI ho)
        | ((with_reducible refine gate_builtin (b := .append) (xs := #[.tmp 51, .tmp 60]) rfl ?_); at_builtin; refine Kd.R_append Kd.bool (w0 := wb) w8.heap.size rfl (.tmp 51) (.tmp 60) 28 4 (.bool false) 1 rfl Try.underlying28 info4 rfl (by decide) (by omega) _ (s.take j) z [.bool z] (fun k => w6.heap.size ≤ k) (fun _ => False) rfl rfl ?aP (fun _ hk => hk.elim) ?aF ?aO ?aB ?aS ?aL ?_; (case aP => exact rfl); (case aF => exact fun k hk => by have := HS.out; have := HS6.out; omega); (case aO => exact HO.out); (case aB => exact Below.refl _ _); (case aS => exact HS.out); (case aL => have := HLN.out; rw [List.length_take]; omega); intro v9 w9 ho hb hg hat; have n0_ := Aside0.mk (below_weaken HB.out HBS.out hb); have n1_ := Aside0.mk (Wire.Turn.below HI.out hb HS6.out); have n2_ := Aside0.mk (Wire.reads_under HT.out hb HTB.out); have n3_ := Aside0.mk (ho); have n4_ := Aside0.mk (Nat.le_trans HS.out hb.size); clear HB HI HT HO HS; have HB := n0_; have HI := n1_; have HT := n2_; have HO := n3_; have HS := n4_; clear n0_ n1_ n2_ n3_ n4_; clear ho hb hg hat))
      have hul := HUL.out
      have hT10 := HTL.out
      have ew : wrap64 ((j : Int) + 1) = ((j + 1 : Nat) : Int) := by unfold wrap64; omega
      go_roundw
      case rel =>
        refine ⟨j + 1, by omega, by first | rfl | rw [ew] | (simp; done), HI, HB, HT, ⟨?_⟩, HS⟩
        rw [htk.out]
        exact HO.out
      case measure => first | (rw [ew]; simp [intOf]; omega) | (simp [intOf]; omega)
    · obtain rfl : j = u.length := by omega
      have b1 : decide ((u.length : Int) < (u.length : Int)) = false := decide_eq_false (by omega)
      have hO := HO.out
      rw [HSO.out] at hO
      obtain ⟨Ao, co, rfl, hco, hro, _⟩ := Wire.fresh_reads hO
      have hol : (List.replicate 5 false ++ t).length = 5 + t.length := by simp; omega
      have hul := HUL.out
      have hT10 := HTL.out
      obtain ⟨i0, hi0, _, hsz0, _⟩ := info_parts info4
      obtain ⟨hc1, hA1, hC1⟩ := print_take_of (P := Try.prog) Value.bool false 28 4 .i64 Try.underlying28 hi0 hsz0 At ct u (t.length : Int) (by omega) (by omega) HCT.out
      obtain ⟨Ao2, hc2, hA2, hC2⟩ := print_drop_of (P := Try.prog) Value.bool false 28 4 .i64 Try.underlying28 hi0 hsz0 Ao co (List.replicate 5 false ++ t) (5 : Int) (by omega) (by omega) hco
      have ed : (List.replicate 5 false ++ t).drop 5 = t := by rw [List.drop_append_of_le_length (by simp), List.drop_of_length_le (by simp)]; rfl
      have hA1' := hA1 _ HT.out
      have hA2' := hA2 _ hro
      rw [Int.toNat_natCast, HUT.out] at hc1 hA1' hC1
      rw [show (5 : Int).toNat = 5 from rfl, ed] at hc2 hA2' hC2
      obtain ⟨co2, hco2⟩ : ∃ co2, co2 = co - 5 := ⟨_, rfl⟩
      rw [← hco2] at hc2 hC2
      have hcd := hC1
      have hcd2 := hC2
      have HO1 := Aside0.mk (show Kd.C Kd.bool wr At t.length t from Kd.C_of_reads (h1 := fun _ => rfl) hA1')
      have HO2 := Aside0.mk (show Kd.C Kd.bool wr Ao2 t.length t from Kd.C_of_reads (h1 := fun _ => rfl) hA2')
      obtain ⟨N, hN⟩ : ∃ N, N = (List.replicate 5 false ++ t).length := ⟨_, rfl⟩
      rw [← hN] at hc2 ⊢
      have ew : IntKind.i64.wrap ((u.length : Int) - 5) = (t.length : Int) := by rw [IntWalk.i64_in _ (by omega)]; omega
      have ew2 : (u.length : Int) - 5 = (t.length : Int) := by omega
      have ew3 : wrap64 (t.length : Int) = (t.length : Int) := by unfold wrap64; omega
      clear hO hro hA1 hA2 hA1' hA2' hC1 hC2 hco2 hN ed hol hi0 hsz0 HO hco hul hT10
      go_wp2
      refine start_ (n := 9) (S := fun _ => True) (ds := []) #[false, false, false, false, false, false, false, false, false] (by kernel_rfl) rfl rfl trivial (fun _ => ?_)
      have n0_ := Aside0.mk (below_drew1 HB.out)
      have n1_ := Aside0.mk (Kd.C_drew HO1.out)
      have n2_ := Aside0.mk (Kd.C_drew HO2.out)
      clear HB HO1 HO2
      have HB := n0_
      have HO1 := n1_
      have HO2 := n2_
      clear n0_ n1_ n2_
      generalize wr.drew = W0 at HB HO1 HO2 ⊢
      refine pure_ (i := 0) (N := some 62) (v := ?_) (a' := ?_) #[true, false, false, false, false, false, false, false, false] rfl rfl (by kernel_rfl) (fun _ _ _ h => h) (Or.inl ⟨by rfl, ?_⟩) ?_ ?_
      rotate_left
      · intro w'
        go_simp
        with_reducible rfl
      rotate_left
      · simp only [Act.put, List.setIfInBounds_toArray, List.set_cons_zero, List.set_cons_succ, i64_w, i32_w]
        rfl
      refine pure_ (i := 1) (N := some 63) (v := ?_) (a' := ?_) #[true, true, false, false, false, false, false, false, false] rfl rfl (by kernel_rfl) (fun _ _ _ h => h) (Or.inl ⟨by rfl, ?_⟩) ?_ ?_
      rotate_left
      · intro w'
        go_simp
        with_reducible rfl
      rotate_left
      · simp only [Act.put, List.setIfInBounds_toArray, List.set_cons_zero, List.set_cons_succ, i64_w, i32_w]
        rfl
      refine pure_ (i := 2) (N := some 64) (v := ?_) (a' := ?_) #[true, true, true, false, false, false, false, false, false] rfl rfl (by kernel_rfl) (fun _ _ _ h => h) (Or.inl ⟨by rfl, ?_⟩) ?_ ?_
      rotate_left
      · intro w'
        go_simp
        with_reducible rfl
      rotate_left
      · simp only [Act.put, List.setIfInBounds_toArray, List.set_cons_zero, List.set_cons_succ, i64_w, i32_w]
        rfl
      refine pure_ (i := 3) (N := some 65) (v := ?_) (a' := ?_) #[true, true, true, true, false, false, false, false, false] rfl rfl (by kernel_rfl) (fun _ _ _ h => h) (Or.inl ⟨by rfl, ?_⟩) ?_ ?_
      rotate_left
      · intro w'
        go_simp
        with_reducible rfl
      rotate_left
      · simp only [Act.put, List.setIfInBounds_toArray, List.set_cons_zero, List.set_cons_succ, i64_w, i32_w]
        rfl
      refine pure_ (i := 4) (N := some 66) (v := ?_) (a' := ?_) #[true, true, true, true, true, false, false, false, false] rfl rfl (by kernel_rfl) (fun _ _ _ h => h) (Or.inl ⟨by rfl, ?_⟩) ?_ ?_
      rotate_left
      · intro w'
        go_simp
        with_reducible rfl
      rotate_left
      · simp only [Act.put, List.setIfInBounds_toArray, List.set_cons_zero, List.set_cons_succ, i64_w, i32_w]
        rfl
      refine pure_ (i := 5) (N := some 67) (v := ?_) (a' := ?_) #[true, true, true, true, true, true, false, false, false] rfl rfl (by kernel_rfl) (fun _ _ _ h => h) (Or.inl ⟨by rfl, ?_⟩) ?_ ?_
      rotate_left
      · intro w'
        go_simp
        with_reducible rfl
      rotate_left
      · simp only [Act.put, List.setIfInBounds_toArray, List.set_cons_zero, List.set_cons_succ, i64_w, i32_w]
        rfl
      refine pure_ (i := 6) (N := some 68) (v := ?_) (a' := ?_) #[true, true, true, true, true, true, true, false, false] rfl rfl (by kernel_rfl) (fun _ _ _ h => h) (Or.inl ⟨by rfl, ?_⟩) ?_ ?_
      rotate_left
      · intro w'
        go_simp
        with_reducible rfl
      rotate_left
      · simp only [Act.put, List.setIfInBounds_toArray, List.set_cons_zero, List.set_cons_succ, i64_w, i32_w]
        rfl
      refine one_ (i := 7) (N := some 69) #[true, true, true, true, true, true, true, true, false] rfl rfl (by kernel_rfl) (by decide) (fun K hK => ?_)
      refine goes_ Try.func12 (by kernel_rfl) rfl #[.slice Ao2 t.length co2, .slice At t.length ct] (by rfl) rfl rfl (by (try simp only [List.map_toArray, List.map_cons, List.map_nil]); first | done | rfl) ?_
      with_reducible refine (signalmanref01_Same.calls k Ao2 co2 t At ct t true _ HO2.out hcd2 HO1.out hcd HS2.out).mono ?_
      rintro e wq2 ⟨rfl, hb⟩
      refine ⟨_, rfl, ?_⟩
      have n0_ := Aside0.mk (below_step HB.out hb)
      clear HB
      have HB := n0_
      clear n0_
      clear hb
      refine hK.out _ _ trivial (fun _ => ?_)
      clear hK K
      refine norm_ (a' := ?_) ?_ ?_
      rotate_left
      · show Act.put _ (some 69) _ = _
        simp only [Act.put, List.setIfInBounds_toArray, List.set_cons_zero, List.set_cons_succ, i64_w, i32_w]
        rfl
      refine pure_ (i := 8) (N := some 4) (v := ?_) (a' := ?_) #[true, true, true, true, true, true, true, true, true] rfl rfl (by kernel_rfl) (fun _ _ _ h => h) (Or.inl ⟨by rfl, ?_⟩) ?_ ?_
      rotate_left
      · intro w'
        go_simp
        with_reducible rfl
      rotate_left
      · simp only [Act.put, List.setIfInBounds_toArray, List.set_cons_zero, List.set_cons_succ, i64_w, i32_w]
        rfl
      refine done_ (by kernel_rfl) ?_
      try go_wp2
      go_ret
      exact ⟨rfl, HB.out⟩
def signalmanlaw20_WireTurns.Pure : Prop := ∀ (l0 l1 : List Int), l0.length ≤ maxLen → l1.length ≤ maxLen → (∀ x ∈ l0, (Lit.int .u8 x).wf = true) → (∀ x ∈ l1, (Lit.int .u8 x).wf = true) → (l0.length ≤ 100 → l1.length ≤ 100 → ∃ k t m, signalmanref01_Bits.f k l0 = some t ∧ signalmanref01_Bits.f k l1 = some m ∧ t.length ≤ 10000 ∧ m.length ≤ 10000 ∧ signalmanref01_Same.f k t t = some true)
theorem signalmanlaw20_WireTurns.walk (P : signalmanlaw20_WireTurns.Pure) (a0 : Option Addr) (len0 cap0 : Nat) (z0 : List Int) (a1 : Option Addr) (len1 cap1 : Nat) (z1 : List Int) (w : World) (w0 : (a0 = none ∧ len0 = 0 ∧ cap0 = 0 ∧ z0 = []) ∨ ∃ x, a0 = some x ∧ len0 ≤ cap0 ∧ cap0 ≤ maxLen ∧ z0.length = cap0 ∧ (∀ i, i < z0.length → w.cell? (x.add i) = some (.int .u8 (z0.getD i 0))) ∧ ∀ n ∈ z0, (Lit.int .u8 n).wf = true) (y0 : len0 * 1 ≤ 140737488351232) (w1 : (a1 = none ∧ len1 = 0 ∧ cap1 = 0 ∧ z1 = []) ∨ ∃ x, a1 = some x ∧ len1 ≤ cap1 ∧ cap1 ≤ maxLen ∧ z1.length = cap1 ∧ (∀ i, i < z1.length → w.cell? (x.add i) = some (.int .u8 (z1.getD i 0))) ∧ ∀ n ∈ z1, (Lit.int .u8 n).wf = true) (y1 : len1 * 1 ≤ 140737488351232) :
    Calls Try.prog 4 #[.slice a0 len0 cap0, .slice a1 len1 cap1] w fun e w' => e = .returned (.bool true) ∧ Below w.heap.size w w' := by
  obtain ⟨l0, rfl, hr0, hm0, hw0, hc0⟩ := ReadsInt.ofRowC w0
  obtain ⟨l1, rfl, hr1, hm1, hw1, hc1⟩ := ReadsInt.ofRowC w1
  have hP := P l0 l1 hm0 hm1 hw0 hw1
  have hC0 := Kd.C_of_reads (d := (0 : Int)) (h1 := fun _ => rfl) hr0
  have hC1 := Kd.C_of_reads (d := (0 : Int)) (h1 := fun _ => rfl) hr1
  by_cases hl0 : l0.length ≤ 100
  · by_cases hl1 : l1.length ≤ 100
    · obtain ⟨k, t, m, ht, hm, htl, hml, hs⟩ := hP hl0 hl1
      exact signalmanlaw20_WireTurns.main k _ _ _ _ l0 l1 t m w hC0 hc0 hC1 hc1 hl0 hl1 htl hml ht hm hs
    · exact signalmanlaw20_WireTurns.early1 _ _ _ _ l0 l1 w hl0 (by omega)
  · exact signalmanlaw20_WireTurns.early0 _ _ _ _ l0 l1 w (by omega)

end Go.Proofs.Ytaiallgcobpkaaa.MWireTurns
