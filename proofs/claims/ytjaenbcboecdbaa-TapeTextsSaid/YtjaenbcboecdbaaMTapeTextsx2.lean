/- A part of the proof of the given statement that each law names; no condition. Written by a program of this session's own (wip/tools/myprint.py, over the kit's print); Lean checks it. -/
import Derived.Test.YtjaenbcboecdbaaMTapeTextsx0
namespace Go.Proofs.Ytjaenbcboecdbaa.MTapeTexts
open Go.RowKit Go.Proofs.Ytjaenbcboecdbaa Go.Proofs.YtjaenbcboecdbaaW.PrintWords Go.Proofs.YtjaenbcboecdbaaW.PrintLast Go.Proofs.YtjaenbcboecdbaaW.PrintMore
attribute [local go_sem] max2_int min2_int max_two min_two max_three min_three max_four min_four   -- for this text's walks alone
set_option linter.unusedVariables false
set_option linter.unusedSimpArgs false

/-! ### signalmanref01_Bits: function 12 -/
def signalmanref01_Bits.l0 : Nat → List Int → List Bool → Int → Option (List Bool)
  | 0, _, _, _ => none
  | k + 1, x0, x3, x4 => if x4 < (wrap64 (8 * (x0.length : Int))) then (if 0 ≤ (wrap64 (Int.tdiv x4 8)) then (if (wrap64 (Int.tdiv x4 8)) < (x0.length : Int) then (if 0 ≤ (Int.tmod x4 8) then (if (shl .u8 1 (Int.tmod x4 8)) = 0 then (none) else (if x3.length < 140737488355328 then (signalmanref01_Bits.l0 k x0 (x3 ++ [((Int.tmod (IntKind.u8.wrap (Int.tdiv (rd x0 (wrap64 (Int.tdiv x4 8))) (shl .u8 1 (Int.tmod x4 8)))) 2) == 1)]) (wrap64 (x4 + 1))) else (none))) else (none)) else (none)) else (none)) else (some x3)
def signalmanref01_Bits.f (k : Nat) (l0 : List Int) : Option (List Bool) := signalmanref01_Bits.l0 k l0 ([] : List Bool) 0
theorem signalmanref01_Bits.mono_l : ∀ k, (∀ y0 y1 y2, LeO (signalmanref01_Bits.l0 k y0 y1 y2) (signalmanref01_Bits.l0 (k + 1) y0 y1 y2))
  | 0 => fun _ _ _ r h => by simp [signalmanref01_Bits.l0] at h
  | k + 1 => by
    have ih0 := signalmanref01_Bits.mono_l k
    · intro y0 y1 y2
      unfold signalmanref01_Bits.l0
      repeat' first
      | (with_reducible exact ih0 _ _ _)
      | (with_reducible exact LeO.refl _)
      | (with_reducible exact LeO.none _)
      | (with_reducible refine LeO.ite ?_ ?_)
      | (with_reducible refine LeO.bind ?_ (fun _ => ?_))
      | exact ih0 _ _ _
      | exact LeO.none _
      | refine LeO.ite ?_ ?_
      | refine LeO.bind ?_ (fun _ => ?_)
theorem signalmanref01_Bits.mono : ∀ a0 k, LeO (signalmanref01_Bits.f k a0) (signalmanref01_Bits.f (k + 1) a0) := by
  intro a0 k
  have ih0 := signalmanref01_Bits.mono_l k
  unfold signalmanref01_Bits.f
  repeat' first
      | (with_reducible exact ih0 _ _ _)
      | (with_reducible exact LeO.refl _)
      | (with_reducible exact LeO.none _)
      | (with_reducible refine LeO.ite ?_ ?_)
      | (with_reducible refine LeO.bind ?_ (fun _ => ?_))
      | exact ih0 _ _ _
      | exact LeO.none _
      | refine LeO.ite ?_ ?_
      | refine LeO.bind ?_ (fun _ => ?_)
def signalmanref01_Bits.T5 : Bool × List (List Nat × List Nat) := (true, [([], []), ([], []), ([], []), ([2], [2]), ([1, 3], [1, 3]), ([4], [4]), ([], []), ([6], [6]), ([7], [7]), ([5, 8], [5, 8]), ([9], [9]), ([10], [10]), ([11], [11]), ([0, 12], [0, 12]), ([13, 13, 0, 1, 2, 3, 4, 5, 6, 7, 8, 9, 10, 11, 12, 13], [0, 13])])
def signalmanref01_Bits.B5 : List Nat := [0, 0, 0, 4, 14, 30, 0, 64, 192, 510, 1022, 2046, 4094, 8191, 16383]
theorem signalmanref01_Bits.tab5 : rtab .any (opsOf Try.f12 5) = signalmanref01_Bits.T5 := by kernel_rfl
theorem signalmanref01_Bits.bits5 : waitsOk signalmanref01_Bits.T5.2 signalmanref01_Bits.B5 = true := by kernel_rfl
set_option maxHeartbeats 8000000 in
set_option maxRecDepth 100000 in
theorem signalmanref01_Bits.calls (k : Nat) (A0 : Option Addr) (c0 : Nat) (l0 : List Int) (r : List Bool) (w : World) (hr0 : Kd.C (Kd.int .u8) w A0 l0.length l0) (hc0 : l0.length ≤ c0) (h : signalmanref01_Bits.f k l0 = some r) :
    Calls Try.prog 12 #[.slice A0 l0.length c0] w fun e w' => ∃ v0_ : Value, e = .returned (v0_) ∧ Kd.R Kd.bool 4 w' w.heap.size (fun _ => True) v0_ r ∧ Below w.heap.size w w' := by
  have HR0 := Aside0.mk hr0
  have HC0 := Aside0.mk hc0
  clear hr0 hc0
  have HB := Aside0.mk (Below.refl w.heap.size w)
  have H : (signalmanref01_Bits.l0 k l0 ([] : List Bool) 0) = some r := h
  clear h
  have H' := Aside0.mk H
  clear H
  go_enter Try.func12, Try.ntmps12
  go_wp2
  go_loopg [3, 4] k (fun kq v3 v4 w' => ∃ (x3_1 : List Bool) (x4_1 : Int), v4 = .int .i64 x4_1 ∧ Aside0 (signalmanref01_Bits.l0 kq l0 x3_1 x4_1 = some r) ∧ Aside0 (kq ≤ k) ∧ Aside0 (Kd.R Kd.bool 4 w' w.heap.size (fun _ => True) v3 x3_1) ∧ Aside0 (Below w.heap.size w w'))
  case atStart => exact ⟨(([] : List Bool)), (0), (by first | rfl | (simp; done) | (simp [*]; done) | (simp; omega)), H', ⟨Nat.le_refl _⟩, ⟨by first | exact Kd.R_nil _ _ _ _ _ | exact Kd.N_nil _ _ _ _ _ | exact Kd.V_nil _ _ _ _ _ | exact Kd.Q_nil _ _ _ _ _ | exact Kd.S_nil _ _ _ _ _⟩, ⟨by repeat (first | (with_reducible first | exact HB.out | apply below_alloc | apply pw_below_drewN | apply below_drew1) | exact HB.out)⟩⟩
  case round =>
    clear H'
    try clear c1
    obtain ⟨x3_1, x4_1, rfl, HA, HK1, HO_3, HB⟩ := hrel
    cases gk with
    | zero => exact absurd HA.out (by simp [signalmanref01_Bits.l0])
    | succ k1 =>
      have H := HA.out
      clear HA
      simp only [signalmanref01_Bits.l0] at H
      by_cases c2 : x4_1 < (wrap64 (8 * (l0.length : Int)))
      · rw [if_pos c2] at H
        have c2b0 : decide (x4_1 < (wrap64 (8 * (l0.length : Int)))) = true := decide_eq_true c2
        clear c2
        obtain ⟨ji3, hji3⟩ : ∃ j_ : Int, (wrap64 (Int.tdiv x4_1 8)) = j_ := ⟨_, rfl⟩
        replace H : (if 0 ≤ (ji3) then (if (ji3) < (l0.length : Int) then (if 0 ≤ (Int.tmod x4_1 8) then (if (shl .u8 1 (Int.tmod x4_1 8)) = 0 then (none) else (if x3_1.length < 140737488355328 then (signalmanref01_Bits.l0 k1 l0 (x3_1 ++ [((Int.tmod (IntKind.u8.wrap (Int.tdiv (rd l0 (ji3)) (shl .u8 1 (Int.tmod x4_1 8)))) 2) == 1)]) (wrap64 (x4_1 + 1))) else (none))) else (none)) else (none)) else (none)) = some r := by first | (rw [hji3] at H; exact H) | (simp only [hji3] at H ⊢; exact H)
        have hji3w : (IntKind.i64.wrap (Int.tdiv x4_1 8)) = ji3 := (i64_w _).trans hji3
        by_cases c4 : 0 ≤ (ji3)
        · rw [if_pos c4] at H
          have c4b0 : decide (0 ≤ (ji3)) = true := decide_eq_true c4
          clear c4
          by_cases c5 : (ji3) < (l0.length : Int)
          · rw [if_pos c5] at H
            have c5b0 : decide ((ji3) < (l0.length : Int)) = true := decide_eq_true c5
            clear c5
            obtain ⟨ji6, hji6⟩ : ∃ j_ : Int, (Int.tmod x4_1 8) = j_ := ⟨_, rfl⟩
            replace H : (if 0 ≤ (ji6) then (if (shl .u8 1 (ji6)) = 0 then (none) else (if x3_1.length < 140737488355328 then (signalmanref01_Bits.l0 k1 l0 (x3_1 ++ [((Int.tmod (IntKind.u8.wrap (Int.tdiv (rd l0 (ji3)) (shl .u8 1 (ji6)))) 2) == 1)]) (wrap64 (x4_1 + 1))) else (none))) else (none)) = some r := by first | (rw [hji6] at H; exact H) | (simp only [hji6] at H ⊢; exact H)
            by_cases c7 : 0 ≤ (ji6)
            · rw [if_pos c7] at H
              have c7b0 := eq_true c7
              have c7b1 : decide (0 ≤ (ji6)) = true := decide_eq_true c7
              clear c7
              obtain ⟨ji8, hji8⟩ : ∃ j_ : Int, (shl .u8 1 (ji6)) = j_ := ⟨_, rfl⟩
              replace H : (if (ji8) = 0 then (none) else (if x3_1.length < 140737488355328 then (signalmanref01_Bits.l0 k1 l0 (x3_1 ++ [((Int.tmod (IntKind.u8.wrap (Int.tdiv (rd l0 (ji3)) (ji8))) 2) == 1)]) (wrap64 (x4_1 + 1))) else (none))) = some r := by first | (rw [hji8] at H; exact H) | (simp only [hji8] at H ⊢; exact H)
              have hji8_ : (IntKind.u8.wrap (1 * 2 ^ min (ji6).toNat 8)) = ji8 := hji8
              have hji8z : (ji6) ≤ 8 → (IntKind.u8.wrap (1 * 2 ^ (ji6).toNat)) = ji8 := shl_small hji8
              have hji8u : (IntKind.u8.wrap (2 ^ min (ji6).toNat 8)) = ji8 := by have h_ := hji8_; rw [Int.one_mul] at h_; exact h_
              have hji8v : (ji6) ≤ 8 → (IntKind.u8.wrap (2 ^ (ji6).toNat)) = ji8 := fun hle_ => by have h_ := hji8z hle_; rw [Int.one_mul] at h_; exact h_
              by_cases c9 : (ji8) = 0
              · rw [if_pos c9] at H
                exact absurd H (by simp)
              · rw [if_neg c9] at H
                have c9b0 : ((ji8) == 0) = false := beq_eq_false_iff_ne.mpr c9
                have c9b1 : ((ji8) != 0) = true := bne_iff_ne.mpr c9
                by_cases c10 : x3_1.length < 140737488355328
                · rw [if_pos c10] at H
                  have LMc10 := Aside0.mk c10
                  clear c10
                  obtain ⟨y125, hy125⟩ : ∃ y_ : List Bool, y_ = (x3_1 ++ [((Int.tmod (IntKind.u8.wrap (Int.tdiv (rd l0 (ji3)) (ji8))) 2) == 1)]) := ⟨_, rfl⟩
                  replace H : (signalmanref01_Bits.l0 k1 l0 y125 (wrap64 (x4_1 + 1))) = some r := by first | (rw [hy125]; with_reducible exact H) | (have H2_ := (Option.bind_some _ _).symm.trans H; rw [hy125]; with_reducible exact H2_) | (have H2_ := (Option.bind_some _ _).symm.trans H; with_reducible exact H2_) | with_reducible exact H | (rw [hy125]; exact H) | exact H
                  have Ny125 := Aside0.mk hy125
                  clear hy125
                  have H' := Aside0.mk H
                  clear H
                  try go_wp2
                  have n0_ := Aside0.mk (Kd.R_drew HO_3.out)
                  have n1_ := Aside0.mk (below_drew1 HB.out)
                  clear HO_3
                  clear HB
                  have HO_3 := n0_
                  have HB := n1_
                  clear n0_ n1_
                  have p124 : 0 ≤ ((ji3) : Int) := of_decide_eq_true (by first | (with_reducible assumption) | assumption)
                  have q124 : (ji3) < (l0.length : Int) := of_decide_eq_true (by first | (with_reducible assumption) | assumption)
                  obtain ⟨ad124, e124, hx124_0⟩ := Kd.at_int HR0.out (ji3) p124 q124
                  have hw124_0 := hx124_0
                  cases e124
                  replace hx124_0 := (HB.out.cell (World.block_lt_of_cell? w _ hx124_0)).trans hx124_0
                  replace p124 := eq_true p124
                  replace q124 := eq_true q124
                  refine start_ (n := 15) (S := fun w' => w'.cell? (ad124.add ((ji3)).toNat) = some (.int .u8 (rd l0 (ji3)))) (ds := []) #[false, false, false, false, false, false, false, false, false, false, false, false, false, false, false] (by kernel_rfl) rfl rfl (((HB.out.cell (World.block_lt_of_cell? w _ hw124_0)).trans hw124_0)) (fun hHeld => ?_); refine with_tabW signalmanref01_Bits.tab5 signalmanref01_Bits.bits5 (fun HT_ HW_ => ?_)
                  generalize wr.drew = w11 at HO_3 HB hx124_0 hHeld ⊢
                  refine pure_ (i := 0) (N := some 12) (v := ?_) (a' := ?_) #[true, false, false, false, false, false, false, false, false, false, false, false, false, false, false] rfl rfl (any_of HT_.out (by kernel_rfl)) (fun _ _ _ h => h) (Or.inl ⟨by rfl, ?_⟩) ?_ ?_
                  rotate_left
                  · intro w'
                    go_simp
                    with_reducible rfl
                  rotate_left
                  · simp only [Act.put, List.setIfInBounds_toArray, List.set_cons_zero, List.set_cons_succ, i64_w, i32_w]
                    rfl
                  refine pure_ (i := 1) (N := some 13) (v := ?_) (a' := ?_) #[true, true, false, false, false, false, false, false, false, false, false, false, false, false, false] rfl rfl (any_of HT_.out (by kernel_rfl)) (fun _ _ _ h => h) (Or.inl ⟨by rfl, ?_⟩) ?_ ?_
                  rotate_left
                  · intro w'
                    go_simp
                    with_reducible rfl
                  rotate_left
                  · simp only [Act.put, List.setIfInBounds_toArray, List.set_cons_zero, List.set_cons_succ, i64_w, i32_w]
                    rfl
                  refine pure_ (i := 2) (N := some 14) (v := ?_) (a' := ?_) #[true, true, true, false, false, false, false, false, false, false, false, false, false, false, false] rfl rfl (any_of HT_.out (by kernel_rfl)) (fun _ _ _ h => h) (Or.inl ⟨by rfl, ?_⟩) ?_ ?_
                  rotate_left
                  · intro w'
                    go_simp
                    with_reducible rfl
                  rotate_left
                  · simp only [Act.put, List.setIfInBounds_toArray, List.set_cons_zero, List.set_cons_succ, i64_w, i32_w]
                    rfl
                  refine pure_ (i := 3) (N := some 15) (v := ?_) (a' := ?_) #[true, true, true, true, false, false, false, false, false, false, false, false, false, false, false] rfl rfl (any_of HT_.out (by kernel_rfl)) (fun _ _ _ h => h) (Or.inl ⟨by rfl, ?_⟩) ?_ ?_
                  rotate_left
                  · intro w'
                    go_simp
                    with_reducible rfl
                  rotate_left
                  · simp only [Act.put, List.setIfInBounds_toArray, List.set_cons_zero, List.set_cons_succ, i64_w, i32_w]
                    rfl
                  refine pure_ (i := 4) (N := some 16) (v := ?_) (a' := ?_) #[true, true, true, true, true, false, false, false, false, false, false, false, false, false, false] rfl rfl (any_of HT_.out (by kernel_rfl)) (fun _ _ _ h => h) (Or.inl ⟨by rfl, ?_⟩) ?_ ?_
                  rotate_left
                  · intro w'
                    go_simp
                    with_reducible rfl
                  rotate_left
                  · simp only [Act.put, List.setIfInBounds_toArray, List.set_cons_zero, List.set_cons_succ, i64_w, i32_w]
                    rfl
                  refine pure_ (i := 6) (N := some 18) (v := ?_) (a' := ?_) #[true, true, true, true, true, false, true, false, false, false, false, false, false, false, false] rfl rfl (any_of HT_.out (by kernel_rfl)) (fun _ _ _ h => h) (Or.inl ⟨by rfl, ?_⟩) ?_ ?_
                  rotate_left
                  · intro w'
                    go_simp
                    with_reducible rfl
                  rotate_left
                  · simp only [Act.put, List.setIfInBounds_toArray, List.set_cons_zero, List.set_cons_succ, i64_w, i32_w]
                    rfl
                  refine pure_ (i := 7) (N := some 19) (v := ?_) (a' := ?_) #[true, true, true, true, true, false, true, true, false, false, false, false, false, false, false] rfl rfl (any_of HT_.out (by kernel_rfl)) (fun _ _ _ h => h) (Or.inl ⟨by rfl, ?_⟩) ?_ ?_
                  rotate_left
                  · intro w'
                    go_simp
                    with_reducible rfl
                  rotate_left
                  · simp only [Act.put, List.setIfInBounds_toArray, List.set_cons_zero, List.set_cons_succ, i64_w, i32_w]
                    rfl
                  refine pure_ (i := 8) (N := some 20) (v := ?_) (a' := ?_) #[true, true, true, true, true, false, true, true, true, false, false, false, false, false, false] rfl rfl (any_of HT_.out (by kernel_rfl)) (fun _ _ _ h => h) (Or.inl ⟨by rfl, ?_⟩) ?_ ?_
                  rotate_left
                  · intro w'
                    go_simp
                    with_reducible rfl
                  rotate_left
                  · simp only [Act.put, List.setIfInBounds_toArray, List.set_cons_zero, List.set_cons_succ, i64_w, i32_w]
                    rfl
                  refine take_ (i := 5) (N := some 17) (v := ?_) (a' := ?_) #[true, true, true, true, true, true, true, true, true, false, false, false, false, false, false] rfl rfl (take_ofW HT_.out HW_.out (by kernel_rfl)) (fun _ _ _ h => h) (Or.inl ⟨by rfl, ?_⟩) hHeld ?_ ?_
                  rotate_left
                  · intro w' s0
                    go_simp
                    with_reducible rfl
                  rotate_left
                  · simp only [Act.put, List.setIfInBounds_toArray, List.set_cons_zero, List.set_cons_succ, i64_w, i32_w]
                    rfl
                  refine pure_ (i := 9) (N := some 21) (v := ?_) (a' := ?_) #[true, true, true, true, true, true, true, true, true, true, false, false, false, false, false] rfl rfl (any_of HT_.out (by kernel_rfl)) (fun _ _ _ h => h) (Or.inl ⟨by rfl, ?_⟩) ?_ ?_
                  rotate_left
                  · intro w'
                    go_simp
                    with_reducible rfl
                  rotate_left
                  · simp only [Act.put, List.setIfInBounds_toArray, List.set_cons_zero, List.set_cons_succ, i64_w, i32_w]
                    rfl
                  refine pure_ (i := 10) (N := some 22) (v := ?_) (a' := ?_) #[true, true, true, true, true, true, true, true, true, true, true, false, false, false, false] rfl rfl (any_of HT_.out (by kernel_rfl)) (fun _ _ _ h => h) (Or.inl ⟨by rfl, ?_⟩) ?_ ?_
                  rotate_left
                  · intro w'
                    go_simp
                    with_reducible rfl
                  rotate_left
                  · simp only [Act.put, List.setIfInBounds_toArray, List.set_cons_zero, List.set_cons_succ, i64_w, i32_w]
                    rfl
                  refine pure_ (i := 11) (N := some 23) (v := ?_) (a' := ?_) #[true, true, true, true, true, true, true, true, true, true, true, true, false, false, false] rfl rfl (any_of HT_.out (by kernel_rfl)) (fun _ _ _ h => h) (Or.inl ⟨by rfl, ?_⟩) ?_ ?_
                  rotate_left
                  · intro w'
                    go_simp
                    with_reducible rfl
                  rotate_left
                  · simp only [Act.put, List.setIfInBounds_toArray, List.set_cons_zero, List.set_cons_succ, i64_w, i32_w]
                    rfl
                  refine one_ (i := 12) (N := some 24) #[true, true, true, true, true, true, true, true, true, true, true, true, true, false, false] rfl rfl (one_of HT_.out (by kernel_rfl)) (by decide) (fun K hK => ?_)
                  refine value_ (w1 := ?_) (v := ?_) (by rfl) rfl ?_ ?_
                  rotate_left 2
                  · go_simp
                    constructor
                    · rfl
                    · rfl
                  refine hK.out _ _ ((World.cell?_alloc_lt _ _ _ (World.block_lt_of_cell? _ _ (((HB.out.cell (World.block_lt_of_cell? w _ hw124_0)).trans hw124_0)))).trans (((HB.out.cell (World.block_lt_of_cell? w _ hw124_0)).trans hw124_0))) (fun hHeld => ?_)
                  clear hK K
                  refine norm_ (a' := ?_) ?_ ?_
                  rotate_left
                  · show Act.put _ (some 24) _ = _
                    simp only [Act.put, List.setIfInBounds_toArray, List.set_cons_zero, List.set_cons_succ, i64_w, i32_w]
                    rfl
                  refine one_ (i := 13) (N := some 25) #[true, true, true, true, true, true, true, true, true, true, true, true, true, true, false] rfl rfl (one_of HT_.out (by kernel_rfl)) (by decide) (fun K hK => ?_)
                  refine Kd.R_append_step Kd.bool (w0 := w) w.heap.size (by rfl) (.tmp 12) (.tmp 24) 24 4 (.bool false) 1 rfl Try.underlying24 info4 rfl (by decide) (by omega) u3 x3_1 ((Int.tmod (IntKind.u8.wrap (Int.tdiv (rd l0 (ji3)) (ji8))) 2) == 1) [.bool ((Int.tmod (IntKind.u8.wrap (Int.tdiv (rd l0 (ji3)) (ji8))) 2) == 1)] (fun _ => True) (fun _ => False) rfl rfl ?aP (fun _ hk => hk.elim) ?aF ?aO ?aB ?aS ?aL ?_
                  (case aP => exact rfl)
                  (case aB => exact (by repeat (first | (with_reducible first | exact HB.out | apply below_alloc | apply pw_below_drewN | apply below_drew1) | exact HB.out)))
                  (case aF => exact (fun _ _ => trivial))
                  (case aO => exact (by (with_reducible repeat (first | apply Kd.R_alloc | apply Kd.R_drewN | apply Kd.R_drew)); exact HO_3.out))
                  (case aS => exact (below_size (by repeat (first | (with_reducible first | exact HB.out | apply below_alloc | apply pw_below_drewN | apply below_drew1) | exact HB.out))))
                  (case aL => have := LMc10.out; omega)
                  intro v126 w12 ho hb hg hat
                  rw [← Ny125.out] at ho
                  have n0_ := Aside0.mk (hb)
                  have n1_ := Aside0.mk (ho)
                  clear HB
                  clear HO_3
                  have HB := n0_
                  have HO127 := n1_
                  clear n0_ n1_
                  clear ho hb hg hat
                  refine hK.out _ _ (((HB.out.cell (World.block_lt_of_cell? w _ hw124_0)).trans hw124_0)) (fun hHeld => ?_)
                  clear hK K
                  refine norm_ (a' := ?_) ?_ ?_
                  rotate_left
                  · show Act.put _ (some 25) _ = _
                    simp only [Act.put, List.setIfInBounds_toArray, List.set_cons_zero, List.set_cons_succ, i64_w, i32_w]
                    rfl
                  refine pure_ (i := 14) (N := some 3) (v := ?_) (a' := ?_) #[true, true, true, true, true, true, true, true, true, true, true, true, true, true, true] rfl rfl (any_of HT_.out (by kernel_rfl)) (fun _ _ _ h => h) (Or.inl ⟨by rfl, ?_⟩) ?_ ?_
                  rotate_left
                  · intro w'
                    go_simp
                    with_reducible rfl
                  rotate_left
                  · simp only [Act.put, List.setIfInBounds_toArray, List.set_cons_zero, List.set_cons_succ, i64_w, i32_w]
                    rfl
                  refine done_ (done_of HT_.out (by kernel_rfl)) ?_
                  try go_wp2
                  go_roundg k1
                  case measure => have := HK1.out; omega
                  case rel => exact ⟨(y125), (wrap64 (x4_1 + 1)), (by first | rfl | (simp; done) | (simp [*]; done) | (simp; omega)), H', ⟨by have := HK1.out; omega⟩, ⟨by (with_reducible repeat (first | apply Kd.R_alloc | apply Kd.R_drewN | apply Kd.R_drew)); exact HO127.out⟩, ⟨by repeat (first | (with_reducible first | exact HB.out | apply below_alloc | apply pw_below_drewN | apply below_drew1) | exact HB.out)⟩⟩
                · rw [if_neg c10] at H
                  exact absurd H (by simp)
            · rw [if_neg c7] at H
              exact absurd H (by simp)
          · rw [if_neg c5] at H
            exact absurd H (by simp)
        · rw [if_neg c4] at H
          exact absurd H (by simp)
      · rw [if_neg c2] at H
        have c2b0 : decide (x4_1 < (wrap64 (8 * (l0.length : Int)))) = false := decide_eq_false c2
        clear c2
        obtain rfl := Option.some.inj H
        go_wp2
        go_ret
        exact ⟨_, by first | rfl | (simp [errW_none, errW_some] <;> rfl) | (simp [*, errW_none, errW_some] <;> rfl), by (with_reducible repeat (first | apply Kd.R_alloc | apply Kd.R_drewN | apply Kd.R_drew)); exact HO_3.out, by repeat (first | (with_reducible first | exact HB.out | apply below_alloc | apply pw_below_drewN | apply below_drew1) | exact HB.out)⟩

/-! ### tape_Parse: function 15 -/
def tape_Parse.okB (c : UInt8) : Bool := c == 48 || c == 49 || c == 32 || c == 95
def tape_Parse.bitB (c : UInt8) : Option Bool := if c = 48 then some false else if c = 49 then some true else none
def tape_Parse.val (l : List UInt8) : List Bool × Int := if l.all tape_Parse.okB then (l.filterMap tape_Parse.bitB, 0) else ([], 11)
def tape_Parse.f (a0 : ByteArray) : Option (List Bool × Int) := if a0.size < 140737488355328 then some (tape_Parse.val a0.data.toList) else none
theorem tape_Parse.width (s : ByteArray) (pos : Nat) (h : pos < s.size) : 1 ≤ (Utf8.decode s pos).2 := by
  by_cases ha : (s[pos]'h).toNat < 128
  · rw [decode_ascii s pos h ha]
    exact Nat.le_refl _
  · exact (decode_high s pos h (by omega)).2
theorem tape_Parse.take_succ (s : ByteArray) (k : Nat) (h : k < s.size) : s.data.toList.take (k + 1) = s.data.toList.take k ++ [s[k]] := by
  rw [List.take_succ_eq_append_getElem (by simpa using h)]; rfl
theorem tape_Parse.iterPos_of {w : World} {k : Nat} {s : ByteArray} {p : Nat} (h : w.heap[k]? = some (.stringIter s p)) : w.iterPos k = p := by simp [World.iterPos, h]
theorem tape_Parse.bad (s : ByteArray) (pos : Nat) (h : pos < s.size) (hc : tape_Parse.okB (s[pos]'h) = false) : tape_Parse.val s.data.toList = ([], 11) := by
  unfold tape_Parse.val
  rw [if_neg]
  intro hall
  rw [List.all_eq_true] at hall
  have := hall (s[pos]'h) (by
    have h1 : pos < s.data.toList.length := by simpa using h
    have h2 : s.data.toList[pos] = s[pos]'h := rfl
    rw [← h2]; exact List.getElem_mem h1)
  rw [hc] at this; cases this
theorem tape_Parse.snoc (l : List UInt8) (c : UInt8) (b : Option Bool) (hb : tape_Parse.bitB c = b) : (l ++ [c]).filterMap tape_Parse.bitB = l.filterMap tape_Parse.bitB ++ b.toList := by
  rw [List.filterMap_append]; congr 1
  subst hb
  simp [List.filterMap_cons]
  cases tape_Parse.bitB c <;> rfl
theorem tape_Parse.ne (a b : UInt8) (h : ¬ a = b) : (((a.toNat : Nat) : Int) == ((b.toNat : Nat) : Int)) = false :=
  beq_eq_false_iff_ne.mpr (fun e => h (UInt8.toNat_inj.mp (by omega)))
set_option maxHeartbeats 4000000 in
set_option maxRecDepth 100000 in
theorem tape_Parse.calls (a0 : ByteArray) (r1 : List Bool) (r2 : Int) (w : World) (h : tape_Parse.f a0 = some (r1, r2)) :
    Calls Try.prog 15 #[.string a0] w fun e w' => ∃ v0_ : Value, e = .returned (.tuple #[v0_, .int .i64 r2]) ∧ Kd.R Kd.bool 4 w' w.heap.size (fun _ => True) v0_ r1 ∧ Below w.heap.size w w' := by
  unfold tape_Parse.f at h
  by_cases hs : a0.size < 140737488355328
  · rw [if_pos hs] at h
    have HF := Aside0.mk (Option.some.inj h)
    clear h
    go_enter Try.func15, Try.ntmps15
    go_wp2
    go_loopw [4] (fun v wr => ∃ pos : Nat, pos ≤ a0.size ∧ Aside0 (wr.heap[w.heap.size]? = some (.stringIter a0 pos)) ∧ Aside0 (Kd.R Kd.bool 4 wr (w.heap.size + 1) (fun k => k ≠ w.heap.size) v ((a0.data.toList.take pos).filterMap tape_Parse.bitB)) ∧ Aside0 (Below w.heap.size w wr) ∧ Aside0 ((a0.data.toList.take pos).all tape_Parse.okB = true)) (fun _ wr => a0.size - wr.iterPos w.heap.size)
    case atStart => exact ⟨0, Nat.zero_le _, ⟨World.iter_heap w a0 0⟩, ⟨Kd.R_nil _ _ _ _ _⟩, ⟨(Below.refl _ _).alloc (Nat.le_refl _) _⟩, ⟨rfl⟩⟩
    case round =>
      obtain ⟨pos, hpos, hit, hR, hB, hok⟩ := hrel
      have hpos0 := Aside0.mk (tape_Parse.iterPos_of hit.out)
      by_cases hp : pos < a0.size
      · have hnx : ∀ ty, (Instr.next (.pointer (some ⟨w.heap.size, 0, none⟩)) true ty).run Try.prog wr = _ := fun ty => Lib.run_next_any_at wr w.heap.size a0 pos ty hit.out hp
        have hwd := tape_Parse.width a0 pos hp
        have hit2 := Aside0.mk (Lib.iterAt_heap wr w.heap.size a0 pos (pos + (Utf8.decode a0 pos).2) hit.out)
        have hB2 := Aside0.mk (Lib.below_iterAt hB.out (k := w.heap.size) (Nat.le_refl _) a0 (pos + (Utf8.decode a0 pos).2))
        have hR2 := Aside0.mk (Kd.R_step (w1 := wr.iterAt w.heap.size a0 (pos + (Utf8.decode a0 pos).2)) hR.out (fun k hk _ => Lib.iterAt_other _ _ _ _ _ hk))
        by_cases ha : (a0[pos]'hp).toNat < 128
        · have hd := decode_ascii a0 pos hp ha
          rw [hd] at hnx hit2 hB2 hR2
          clear hd hit hR hB hwd
          generalize hW : wr.iterAt w.heap.size a0 (pos + 1) = W1 at hnx hit2 hB2 hR2
          clear hW
          have hBlt := Aside0.mk (show w.heap.size < W1.heap.size from (Array.getElem?_eq_some_iff.1 hit2.out).1)
          have hts := Aside0.mk (tape_Parse.take_succ a0 pos hp)
          have hlen := Aside0.mk (show (((a0.data.toList.take pos).filterMap tape_Parse.bitB).length + 1) * 1 ≤ 140737488355328 by
            have h1 := List.length_filterMap_le tape_Parse.bitB (a0.data.toList.take pos)
            have h2 := List.length_take_le pos a0.data.toList
            omega)
          by_cases h48 : a0[pos]'hp = 48
          · have hcc := h48
            rw [hcc] at hnx hts
            have hru : ((48 : UInt8).toNat : Int) = 48 := rfl
            rw [hru] at hnx
            have hfin := Aside0.mk (show (a0.data.toList.take (pos + 1)).filterMap tape_Parse.bitB = (a0.data.toList.take pos).filterMap tape_Parse.bitB ++ [false] by rw [hts.out, tape_Parse.snoc _ 48 (some false) rfl]; rfl)
            have hfok := Aside0.mk (show (a0.data.toList.take (pos + 1)).all tape_Parse.okB = true by rw [hts.out, List.all_append, hok.out]; rfl)
            clear hru hcc hts
            go_wp2_with ((with_reducible refine gate_builtin (b := .append) (xs := #[.tmp 16, .tmp 19]) rfl ?_); at_builtin; refine Kd.R_append Kd.bool (w0 := W1) (w.heap.size + 1) rfl (.tmp 16) (.tmp 19) 25 4 (.bool false) 1 rfl Try.underlying25 info4 rfl (by decide) (by omega) _ ((a0.data.toList.take pos).filterMap tape_Parse.bitB) false [.bool false] (fun k => k ≠ w.heap.size) (fun _ => False) rfl rfl ?aP (fun _ hk => hk.elim) ?aF ?aO ?aB ?aS ?aL ?_; (case aP => exact rfl); (case aF => exact (fun k hk => by have := hBlt.out; omega)); (case aO => exact hR2.out); (case aB => exact Below.refl _ _); (case aS => have := hBlt.out; omega); (case aL => exact hlen.out); intro v3 w3 ho hb hg hat; have HR3 := Aside0.mk ho; have HB3 := Aside0.mk (hB2.out.trans (hb.mono (by omega))); have HI3 := Aside0.mk ((hb.block w.heap.size (by omega)).trans hit2.out); clear ho hb hg hat)
            go_roundw
            case rel => exact ⟨pos + 1, by omega, HI3, ⟨by rw [hfin.out]; exact HR3.out⟩, HB3, hfok⟩
            case measure => rw [tape_Parse.iterPos_of HI3.out, hpos0.out]; omega
          by_cases h49 : a0[pos]'hp = 49
          · have hcc := h49
            rw [hcc] at hnx hts
            have hru : ((49 : UInt8).toNat : Int) = 49 := rfl
            rw [hru] at hnx
            have hfin := Aside0.mk (show (a0.data.toList.take (pos + 1)).filterMap tape_Parse.bitB = (a0.data.toList.take pos).filterMap tape_Parse.bitB ++ [true] by rw [hts.out, tape_Parse.snoc _ 49 (some true) rfl]; rfl)
            have hfok := Aside0.mk (show (a0.data.toList.take (pos + 1)).all tape_Parse.okB = true by rw [hts.out, List.all_append, hok.out]; rfl)
            clear hru hcc hts
            go_wp2_with ((with_reducible refine gate_builtin (b := .append) (xs := #[.tmp 16, .tmp 19]) rfl ?_); at_builtin; refine Kd.R_append Kd.bool (w0 := W1) (w.heap.size + 1) rfl (.tmp 16) (.tmp 19) 25 4 (.bool false) 1 rfl Try.underlying25 info4 rfl (by decide) (by omega) _ ((a0.data.toList.take pos).filterMap tape_Parse.bitB) true [.bool true] (fun k => k ≠ w.heap.size) (fun _ => False) rfl rfl ?aP (fun _ hk => hk.elim) ?aF ?aO ?aB ?aS ?aL ?_; (case aP => exact rfl); (case aF => exact (fun k hk => by have := hBlt.out; omega)); (case aO => exact hR2.out); (case aB => exact Below.refl _ _); (case aS => have := hBlt.out; omega); (case aL => exact hlen.out); intro v3 w3 ho hb hg hat; have HR3 := Aside0.mk ho; have HB3 := Aside0.mk (hB2.out.trans (hb.mono (by omega))); have HI3 := Aside0.mk ((hb.block w.heap.size (by omega)).trans hit2.out); clear ho hb hg hat)
            go_roundw
            case rel => exact ⟨pos + 1, by omega, HI3, ⟨by rw [hfin.out]; exact HR3.out⟩, HB3, hfok⟩
            case measure => rw [tape_Parse.iterPos_of HI3.out, hpos0.out]; omega
          by_cases h32 : a0[pos]'hp = 32
          · have hcc := h32
            rw [hcc] at hnx hts
            have hru : ((32 : UInt8).toNat : Int) = 32 := rfl
            rw [hru] at hnx
            have hfin := Aside0.mk (show (a0.data.toList.take (pos + 1)).filterMap tape_Parse.bitB = (a0.data.toList.take pos).filterMap tape_Parse.bitB by rw [hts.out, tape_Parse.snoc _ 32 none rfl]; simp)
            have hfok := Aside0.mk (show (a0.data.toList.take (pos + 1)).all tape_Parse.okB = true by rw [hts.out, List.all_append, hok.out]; rfl)
            clear hru hcc hts
            go_wp2
            go_roundw
            case rel => exact ⟨pos + 1, by omega, hit2, ⟨by rw [hfin.out]; exact hR2.out⟩, hB2, hfok⟩
            case measure => rw [tape_Parse.iterPos_of hit2.out, hpos0.out]; omega
          by_cases h95 : a0[pos]'hp = 95
          · have hcc := h95
            rw [hcc] at hnx hts
            have hru : ((95 : UInt8).toNat : Int) = 95 := rfl
            rw [hru] at hnx
            have hfin := Aside0.mk (show (a0.data.toList.take (pos + 1)).filterMap tape_Parse.bitB = (a0.data.toList.take pos).filterMap tape_Parse.bitB by rw [hts.out, tape_Parse.snoc _ 95 none rfl]; simp)
            have hfok := Aside0.mk (show (a0.data.toList.take (pos + 1)).all tape_Parse.okB = true by rw [hts.out, List.all_append, hok.out]; rfl)
            clear hru hcc hts
            go_wp2
            go_roundw
            case rel => exact ⟨pos + 1, by omega, hit2, ⟨by rw [hfin.out]; exact hR2.out⟩, hB2, hfok⟩
            case measure => rw [tape_Parse.iterPos_of hit2.out, hpos0.out]; omega
          have hbad := HF.out
          rw [tape_Parse.bad a0 pos hp (by simp [tape_Parse.okB, h48, h49, h32, h95])] at hbad
          obtain ⟨rfl, rfl⟩ := Prod.mk.inj hbad
          have e48 := tape_Parse.ne _ 48 h48
          have e49 := tape_Parse.ne _ 49 h49
          have e32 := tape_Parse.ne _ 32 h32
          have e95 := tape_Parse.ne _ 95 h95
          clear hbad HF h48 h49 h32 h95 hts hlen
          simp only [show ((48 : UInt8).toNat : Int) = 48 from rfl, show ((49 : UInt8).toNat : Int) = 49 from rfl, show ((32 : UInt8).toNat : Int) = 32 from rfl, show ((95 : UInt8).toNat : Int) = 95 from rfl] at e48 e49 e32 e95
          go_wp2
          go_ret2
          exact ⟨_, rfl, Kd.R_nil _ _ _ _ _, hB2.out⟩
        · have hbad := HF.out
          have hn : ∀ c : UInt8, c.toNat < 128 → ¬ a0[pos]'hp = c := fun c hc h => ha (by rw [h]; exact hc)
          rw [tape_Parse.bad a0 pos hp (by simp [tape_Parse.okB, hn 48 (by decide), hn 49 (by decide), hn 32 (by decide), hn 95 (by decide)])] at hbad
          obtain ⟨rfl, rfl⟩ := Prod.mk.inj hbad
          have hd := (decode_high a0 pos hp (by omega)).1
          have e48 : ((((Utf8.decode a0 pos).1 : Nat) : Int) == 48) = false := beq_eq_false_iff_ne.mpr (by omega)
          have e49 : ((((Utf8.decode a0 pos).1 : Nat) : Int) == 49) = false := beq_eq_false_iff_ne.mpr (by omega)
          have e32 : ((((Utf8.decode a0 pos).1 : Nat) : Int) == 32) = false := beq_eq_false_iff_ne.mpr (by omega)
          have e95 : ((((Utf8.decode a0 pos).1 : Nat) : Int) == 95) = false := beq_eq_false_iff_ne.mpr (by omega)
          clear hbad HF hn hit hR hB
          go_wp2
          go_ret2
          exact ⟨_, rfl, Kd.R_nil _ _ _ _ _, hB2.out⟩
      · have hnx : ∀ ty, (Instr.next (.pointer (some ⟨w.heap.size, 0, none⟩)) true ty).run Try.prog wr = _ := fun ty => Lib.run_next_end_at wr w.heap.size a0 pos ty hit.out hp
        have hdl : a0.data.toList.length = a0.size := by rw [Array.length_toList]; rfl
        have hall : a0.data.toList.take pos = a0.data.toList := List.take_of_length_le (by omega)
        clear hdl
        have hgood := HF.out
        have hok2 := hok.out
        rw [hall] at hok2
        unfold tape_Parse.val at hgood
        rw [if_pos hok2] at hgood
        obtain ⟨h1, rfl⟩ := Prod.mk.inj hgood
        have hR4 := hR.out
        rw [hall, h1] at hR4
        have HR4 := Aside0.mk (Kd.R_lower (Kd.R_mono hR4 (fun _ _ => trivial)) (Nat.le_succ _) : Kd.R Kd.bool 4 wr w.heap.size (fun _ => True) _ r1)
        clear hgood hok2 hall h1 hR4 HF hR hok
        go_wp2
        go_ret2
        exact ⟨_, rfl, HR4.out, hB.out⟩
  · rw [if_neg hs] at h
    cases h

end Go.Proofs.Ytjaenbcboecdbaa.MTapeTexts
