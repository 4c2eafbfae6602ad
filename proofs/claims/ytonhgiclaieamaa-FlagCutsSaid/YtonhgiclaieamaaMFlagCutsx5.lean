/- A part of the proof of the given statement that each law names; no condition. Written by a program of this session's own (wip/tools/myprint.py, over the kit's print); Lean checks it. -/
import Derived.Test.YtonhgiclaieamaaMFlagCutsx0
import Derived.Test.YtonhgiclaieamaaMFlagCutsx3
import Derived.Test.YtonhgiclaieamaaMFlagCutsx4
namespace Go.Proofs.Ytonhgiclaieamaa.MFlagCuts
open Go.RowKit Go.Proofs.Ytonhgiclaieamaa Go.Proofs.YtonhgiclaieamaaW.PrintWords Go.Proofs.YtonhgiclaieamaaW.PrintLast Go.Proofs.YtonhgiclaieamaaW.PrintMore
attribute [local go_sem] max2_int min2_int max_two min_two max_three min_three max_four min_four   -- for this text's walks alone
set_option linter.unusedVariables false
set_option linter.unusedSimpArgs false

/-! ### signalmanlaw05_stream: function 22 -/
mutual
def signalmanlaw05_stream.l0 : Nat → List (List Int) → List Int → List Int → List Bool → Int → Option (List Bool)
  | 0, _, _, _, _, _ => none
  | k + 1, x0, x1, x2, x7, x8 => if x8 < (x0.length : Int) then (if x8 < (x2.length : Int) then (if 0 ≤ x8 then (signalmanlaw05_stream.j1 k x0 x1 x2 x7 x8 (rd x2 x8)) else (none)) else (signalmanlaw05_stream.j1 k x0 x1 x2 x7 x8 0)) else (some x7)
def signalmanlaw05_stream.j1 : Nat → List (List Int) → List Int → List Int → List Bool → Int → Int → Option (List Bool)
  | 0, _, _, _, _, _, _ => none
  | k + 1, x0, x1, x2, x7, x8, x9 => if 0 ≤ x8 then (if x8 < (x0.length : Int) then ((signalmanref01_Frame.f k (rd_L2 x0 x8)).bind fun t227 => (if (Int.tmod x9 6) = 1 then (if (t227.length : Int) = 0 then (none) else (if 0 ≤ (Int.tmod (wrap64 (x9)) (t227.length : Int)) then (if (Int.tmod (wrap64 (x9)) (t227.length : Int)) < (t227.length : Int) then ((some (t227.set ((Int.tmod (wrap64 (x9)) (t227.length : Int)) : Int).toNat (!(rdOf false t227 (Int.tmod (wrap64 (x9)) (t227.length : Int)))) : List Bool)).bind fun y231 => (if x7.length + y231.length < 140737488355328 then (signalmanlaw05_stream.l0 k x0 x1 x2 (x7 ++ y231) (wrap64 (x8 + 1))) else (none))) else (none)) else (none))) else (if (Int.tmod x9 6) = 2 then ((signalmanref01_Flag.f).bind fun t235 => (if t235.length + t227.length < 140737488355328 then ((some (t235 ++ t227 : List Bool)).bind fun y238 => (if x7.length + y238.length < 140737488355328 then (signalmanlaw05_stream.l0 k x0 x1 x2 (x7 ++ y238) (wrap64 (x8 + 1))) else (none))) else (none))) else (if (Int.tmod x9 6) = 3 then ((signalmanref01_Bits.f k x1).bind fun t244 => (if t244.length + t227.length < 140737488355328 then ((some (t244 ++ t227 : List Bool)).bind fun y247 => (if x7.length + y247.length < 140737488355328 then (signalmanlaw05_stream.l0 k x0 x1 x2 (x7 ++ y247) (wrap64 (x8 + 1))) else (none))) else (none))) else (if (Int.tmod x9 6) = 4 then (signalmanlaw05_stream.l1 k x0 x1 x2 x7 x8 x9 t227 0) else (if (Int.tmod x9 6) = 5 then (if (t227.length : Int) = 0 then (none) else (if 0 ≤ (wrap64 ((t227.length : Int) - (Int.tmod (wrap64 (x9)) (t227.length : Int)))) then (if (wrap64 ((t227.length : Int) - (Int.tmod (wrap64 (x9)) (t227.length : Int)))) ≤ (t227.length : Int) then ((some (t227.take ((wrap64 ((t227.length : Int) - (Int.tmod (wrap64 (x9)) (t227.length : Int)))) : Int).toNat : List Bool)).bind fun y259 => (if x7.length + y259.length < 140737488355328 then (signalmanlaw05_stream.l0 k x0 x1 x2 (x7 ++ y259) (wrap64 (x8 + 1))) else (none))) else (none)) else (none))) else (if x7.length + t227.length < 140737488355328 then (signalmanlaw05_stream.l0 k x0 x1 x2 (x7 ++ t227) (wrap64 (x8 + 1))) else (none)))))))) else (none)) else (none)
def signalmanlaw05_stream.l1 : Nat → List (List Int) → List Int → List Int → List Bool → Int → Int → List Bool → Int → Option (List Bool)
  | 0, _, _, _, _, _, _, _, _ => none
  | k + 1, x0, x1, x2, x7, x8, x9, x10, x11 => if x11 < (wrap64 (7 + (Int.tmod (wrap64 (x9)) 150))) then (if x10.length < 140737488355328 then (signalmanlaw05_stream.l1 k x0 x1 x2 x7 x8 x9 (x10 ++ [true]) (wrap64 (x11 + 1))) else (none)) else (if x7.length + x10.length < 140737488355328 then (signalmanlaw05_stream.l0 k x0 x1 x2 (x7 ++ x10) (wrap64 (x8 + 1))) else (none))
end
def signalmanlaw05_stream.f (k : Nat) (l0 : List (List Int)) (l1 : List Int) (l2 : List Int) : Option (List Bool) := (signalmanref01_Flag.f).bind fun t222 => (signalmanlaw05_stream.l0 k l0 l1 l2 t222 0)
theorem signalmanlaw05_stream.mono_l : ∀ k, (∀ y0 y1 y2 y3 y4, LeO (signalmanlaw05_stream.l0 k y0 y1 y2 y3 y4) (signalmanlaw05_stream.l0 (k + 1) y0 y1 y2 y3 y4)) ∧ (∀ y0 y1 y2 y3 y4 y5, LeO (signalmanlaw05_stream.j1 k y0 y1 y2 y3 y4 y5) (signalmanlaw05_stream.j1 (k + 1) y0 y1 y2 y3 y4 y5)) ∧ (∀ y0 y1 y2 y3 y4 y5 y6 y7, LeO (signalmanlaw05_stream.l1 k y0 y1 y2 y3 y4 y5 y6 y7) (signalmanlaw05_stream.l1 (k + 1) y0 y1 y2 y3 y4 y5 y6 y7))
  | 0 => ⟨fun _ _ _ _ _ r h => by simp [signalmanlaw05_stream.l0] at h, fun _ _ _ _ _ _ r h => by simp [signalmanlaw05_stream.j1] at h, fun _ _ _ _ _ _ _ _ r h => by simp [signalmanlaw05_stream.l1] at h⟩
  | k + 1 => by
    obtain ⟨ih0, ih1, ih2⟩ := signalmanlaw05_stream.mono_l k
    refine ⟨?_, ?_, ?_⟩
    · intro y0 y1 y2 y3 y4
      unfold signalmanlaw05_stream.l0
      repeat' first
      | (with_reducible exact ih0 _ _ _ _ _)
      | (with_reducible exact ih1 _ _ _ _ _ _)
      | (with_reducible exact ih2 _ _ _ _ _ _ _ _)
      | (with_reducible exact signalmanref01_Bits.mono _ _)
      | (with_reducible exact signalmanref01_Frame.mono _ _)
      | (with_reducible exact LeO.refl _)
      | (with_reducible exact LeO.none _)
      | (with_reducible refine LeO.ite ?_ ?_)
      | (with_reducible refine LeO.bind ?_ (fun _ => ?_))
      | exact ih0 _ _ _ _ _
      | exact ih1 _ _ _ _ _ _
      | exact ih2 _ _ _ _ _ _ _ _
      | exact signalmanref01_Bits.mono _ _
      | exact signalmanref01_Frame.mono _ _
      | exact LeO.none _
      | refine LeO.ite ?_ ?_
      | refine LeO.bind ?_ (fun _ => ?_)
    · intro y0 y1 y2 y3 y4 y5
      unfold signalmanlaw05_stream.j1
      repeat' first
      | (with_reducible exact ih0 _ _ _ _ _)
      | (with_reducible exact ih1 _ _ _ _ _ _)
      | (with_reducible exact ih2 _ _ _ _ _ _ _ _)
      | (with_reducible exact signalmanref01_Bits.mono _ _)
      | (with_reducible exact signalmanref01_Frame.mono _ _)
      | (with_reducible exact LeO.refl _)
      | (with_reducible exact LeO.none _)
      | (with_reducible refine LeO.ite ?_ ?_)
      | (with_reducible refine LeO.bind ?_ (fun _ => ?_))
      | exact ih0 _ _ _ _ _
      | exact ih1 _ _ _ _ _ _
      | exact ih2 _ _ _ _ _ _ _ _
      | exact signalmanref01_Bits.mono _ _
      | exact signalmanref01_Frame.mono _ _
      | exact LeO.none _
      | refine LeO.ite ?_ ?_
      | refine LeO.bind ?_ (fun _ => ?_)
    · intro y0 y1 y2 y3 y4 y5 y6 y7
      unfold signalmanlaw05_stream.l1
      repeat' first
      | (with_reducible exact ih0 _ _ _ _ _)
      | (with_reducible exact ih1 _ _ _ _ _ _)
      | (with_reducible exact ih2 _ _ _ _ _ _ _ _)
      | (with_reducible exact signalmanref01_Bits.mono _ _)
      | (with_reducible exact signalmanref01_Frame.mono _ _)
      | (with_reducible exact LeO.refl _)
      | (with_reducible exact LeO.none _)
      | (with_reducible refine LeO.ite ?_ ?_)
      | (with_reducible refine LeO.bind ?_ (fun _ => ?_))
      | exact ih0 _ _ _ _ _
      | exact ih1 _ _ _ _ _ _
      | exact ih2 _ _ _ _ _ _ _ _
      | exact signalmanref01_Bits.mono _ _
      | exact signalmanref01_Frame.mono _ _
      | exact LeO.none _
      | refine LeO.ite ?_ ?_
      | refine LeO.bind ?_ (fun _ => ?_)
theorem signalmanlaw05_stream.mono : ∀ a0 a1 a2 k, LeO (signalmanlaw05_stream.f k a0 a1 a2) (signalmanlaw05_stream.f (k + 1) a0 a1 a2) := by
  intro a0 a1 a2 k
  obtain ⟨ih0, ih1, ih2⟩ := signalmanlaw05_stream.mono_l k
  unfold signalmanlaw05_stream.f
  repeat' first
      | (with_reducible exact ih0 _ _ _ _ _)
      | (with_reducible exact ih1 _ _ _ _ _ _)
      | (with_reducible exact ih2 _ _ _ _ _ _ _ _)
      | (with_reducible exact signalmanref01_Bits.mono _ _)
      | (with_reducible exact signalmanref01_Frame.mono _ _)
      | (with_reducible exact LeO.refl _)
      | (with_reducible exact LeO.none _)
      | (with_reducible refine LeO.ite ?_ ?_)
      | (with_reducible refine LeO.bind ?_ (fun _ => ?_))
      | exact ih0 _ _ _ _ _
      | exact ih1 _ _ _ _ _ _
      | exact ih2 _ _ _ _ _ _ _ _
      | exact signalmanref01_Bits.mono _ _
      | exact signalmanref01_Frame.mono _ _
      | exact LeO.none _
      | refine LeO.ite ?_ ?_
      | refine LeO.bind ?_ (fun _ => ?_)
def signalmanlaw05_stream.T11 : Bool × List (List Nat × List Nat) := (true, [([], []), ([], []), ([1], [1]), ([], []), ([3], [3]), ([2, 4], [2, 4]), ([], []), ([], []), ([7], [7]), ([], []), ([9], [9]), ([8, 10], [8, 10]), ([6, 11], [6, 11]), ([12], [12]), ([13], [13]), ([0, 5, 0, 1, 2, 3, 4, 5, 6, 7, 8, 9, 10, 11, 12, 13, 14], [0, 5]), ([15, 14, 0, 1, 2, 3, 4, 5, 6, 7, 8, 9, 10, 11, 12, 13, 14], [14, 15])])
def signalmanlaw05_stream.B11 : List Nat := [0, 0, 2, 0, 8, 30, 0, 0, 128, 0, 512, 1920, 4032, 8128, 16320, 32767, 65535]
theorem signalmanlaw05_stream.tab11 : rtab .any (opsOf Try.f22 11) = signalmanlaw05_stream.T11 := by kernel_rfl
theorem signalmanlaw05_stream.bits11 : waitsOk signalmanlaw05_stream.T11.2 signalmanlaw05_stream.B11 = true := by kernel_rfl
set_option maxHeartbeats 8000000 in
set_option maxRecDepth 100000 in
theorem signalmanlaw05_stream.calls (k : Nat) (A0 : Option Addr) (c0 : Nat) (l0 : List (List Int)) (A1 : Option Addr) (c1 : Nat) (l1 : List Int) (A2 : Option Addr) (c2 : Nat) (l2 : List Int) (r : List Bool) (w : World) (hr0 : Kd.C (Kd.slice 5 (Kd.int .u8)) w A0 l0.length l0) (hc0 : l0.length ≤ c0) (hr1 : Kd.C (Kd.int .u8) w A1 l1.length l1) (hc1 : l1.length ≤ c1) (hr2 : Kd.C (Kd.int .u8) w A2 l2.length l2) (hc2 : l2.length ≤ c2) (h : signalmanlaw05_stream.f k l0 l1 l2 = some r) :
    Calls Try.prog 22 #[.slice A0 l0.length c0, .slice A1 l1.length c1, .slice A2 l2.length c2] w fun e w' => ∃ v0_ : Value, e = .returned (v0_) ∧ Kd.R Kd.bool 4 w' w.heap.size (fun _ => True) v0_ r ∧ Below w.heap.size w w' := by
  have HR0 := Aside0.mk hr0
  have HC0 := Aside0.mk hc0
  clear hr0 hc0
  have HR1 := Aside0.mk hr1
  have HC1 := Aside0.mk hc1
  clear hr1 hc1
  have HR2 := Aside0.mk hr2
  have HC2 := Aside0.mk hc2
  clear hr2 hc2
  have HB := Aside0.mk (Below.refl w.heap.size w)
  have H : ((signalmanref01_Flag.f).bind fun t222 => (signalmanlaw05_stream.l0 k l0 l1 l2 t222 0)) = some r := h
  clear h
  replace H := Option.bind_eq_some_iff.mp H
  obtain ⟨t222, A40, H⟩ := H
  replace H : (signalmanlaw05_stream.l0 k l0 l1 l2 t222 0) = some r := H
  have A4 := Aside0.mk A40
  clear A40
  have H' := Aside0.mk H
  clear H
  go_enter Try.func22, Try.ntmps22
  go_wp2_with (first | ((with_reducible refine gate_callee (f := 16) rfl ?_); refine goesL_ (some 12) rfl rfl Try.func16 (by kernel_rfl) rfl #[] rfl (by (try simp only [List.map_toArray, List.map_cons, List.map_nil]); first | done | rfl | (simp only [List.length_drop, List.length_take]; rfl) | (simp [Act.eval, *]; done)) ?_; (with_reducible refine (signalmanref01_Flag.calls  t222 _ A4.out).mono ?_); rintro e w5 ⟨v223, rfl, ho0, hb⟩; refine ⟨_, rfl, ?_⟩; have n0_ := Aside0.mk (Kd.R_lower ho0 (below_size (by repeat (first | (with_reducible first | exact HB.out | apply below_alloc | apply pw_below_drewN | apply below_drew1) | exact HB.out)))); have n1_ := Aside0.mk (below_step (by repeat (first | (with_reducible first | exact HB.out | apply below_alloc | apply pw_below_drewN | apply below_drew1) | exact HB.out)) hb); clear HB; have HO224 := n0_; have HB := n1_; clear n0_ n1_; (try clear hb); (try clear hb2); (try clear hk); (try clear hi); (try clear ho0)))
  go_loopg [7, 8] k (fun kq v7 v8 w' => ∃ (x7_1 : List Bool) (x8_1 : Int), v8 = .int .i64 x8_1 ∧ Aside0 (signalmanlaw05_stream.l0 kq l0 l1 l2 x7_1 x8_1 = some r) ∧ Aside0 (kq ≤ k) ∧ Aside0 (Kd.R Kd.bool 4 w' w.heap.size (fun _ => True) v7 x7_1) ∧ Aside0 (Below w.heap.size w w'))
  case atStart => exact ⟨(t222), (0), (by first | rfl | (simp; done) | (simp [*]; done) | (simp; omega)), H', ⟨Nat.le_refl _⟩, ⟨by (with_reducible repeat (first | apply Kd.R_alloc | apply Kd.R_drewN | apply Kd.R_drew)); exact HO224.out⟩, ⟨by repeat (first | (with_reducible first | exact HB.out | apply below_alloc | apply pw_below_drewN | apply below_drew1) | exact HB.out)⟩⟩
  case round =>
    clear H'
    try clear c1
    try clear c2
    try clear p2
    obtain ⟨x7_1, x8_1, rfl, HA, HK1, HO_7, HB⟩ := hrel
    cases gk with
    | zero => exact absurd HA.out (by simp [signalmanlaw05_stream.l0])
    | succ k1 =>
      have H := HA.out
      clear HA
      simp only [signalmanlaw05_stream.l0] at H
      by_cases c6 : x8_1 < (l0.length : Int)
      · rw [if_pos c6] at H
        have c6b0 : decide (x8_1 < (l0.length : Int)) = true := decide_eq_true c6
        clear c6
        have HC7 := Aside0.mk H
        clear H
        go_upto_if 22 with (fail)
        go_cut [9] (fun v9 wc => ∃ (kq : Nat) (x9_6 : Int), v9 = .int .u8 x9_6 ∧ Aside0 (signalmanlaw05_stream.j1 kq l0 l1 l2 x7_1 x8_1 x9_6 = some r) ∧ Aside0 (kq ≤ k1) ∧ Aside0 (Kd.R Kd.bool 4 wc w.heap.size (fun _ => True) u7 x7_1) ∧ Aside0 (Below w.heap.size w wc))
        case first =>
          have H := HC7.out
          clear HC7
          by_cases c8 : x8_1 < (l2.length : Int)
          · rw [if_pos c8] at H
            have c8b0 : decide (x8_1 < (l2.length : Int)) = true := decide_eq_true c8
            clear c8
            (first | rw [c8b0] | (simp only [i64_w, i32_w]; rw [c8b0]) | skip)
            by_cases c9 : 0 ≤ x8_1
            · rw [if_pos c9] at H
              have c9b0 : decide (0 ≤ x8_1) = true := decide_eq_true c9
              clear c9
              have H' := Aside0.mk H
              clear H
              have p225 : 0 ≤ (x8_1 : Int) := of_decide_eq_true (by first | (with_reducible assumption) | assumption)
              have q225 : x8_1 < (l2.length : Int) := of_decide_eq_true (by first | (with_reducible assumption) | assumption)
              obtain ⟨ad225, e225, hx225_0⟩ := Kd.at_int HR2.out x8_1 p225 q225
              cases e225
              replace hx225_0 := (HB.out.cell (World.block_lt_of_cell? w _ hx225_0)).trans hx225_0
              replace p225 := eq_true p225
              replace q225 := eq_true q225
              go_wp2
              go_meet
              case rel => exact ⟨_, (rd l2 x8_1), (by first | rfl | (simp; done) | (simp [*]; done) | (simp; omega)), H', ⟨by have := HK1.out; first | omega | exact Nat.le_refl _⟩, ⟨by (with_reducible repeat (first | apply Kd.R_alloc | apply Kd.R_drewN | apply Kd.R_drew)); exact HO_7.out⟩, ⟨by repeat (first | (with_reducible first | exact HB.out | apply below_alloc | apply pw_below_drewN | apply below_drew1) | exact HB.out)⟩⟩
            · rw [if_neg c9] at H
              exact absurd H (by simp)
          · rw [if_neg c8] at H
            have c8b0 : decide (x8_1 < (l2.length : Int)) = false := decide_eq_false c8
            clear c8
            (first | rw [c8b0] | (simp only [i64_w, i32_w]; rw [c8b0]) | skip)
            have H' := Aside0.mk H
            clear H
            go_wp2
            go_meet
            case rel => exact ⟨_, (0), (by first | rfl | (simp; done) | (simp [*]; done) | (simp; omega)), H', ⟨by have := HK1.out; first | omega | exact Nat.le_refl _⟩, ⟨by (with_reducible repeat (first | apply Kd.R_alloc | apply Kd.R_drewN | apply Kd.R_drew)); exact HO_7.out⟩, ⟨by repeat (first | (with_reducible first | exact HB.out | apply below_alloc | apply pw_below_drewN | apply below_drew1) | exact HB.out)⟩⟩
        case rest =>
          clear HC7
          try clear c1
          try clear c2
          try clear p2
          try clear q2
          try clear hx2
          try clear c6
          try clear c6b0
          try clear c8
          try clear c8b0
          try clear c9
          try clear c9b0
          try clear hx225_0
          try clear p2
          try clear p225
          try clear q225
          obtain ⟨kq, x9_6, rfl, HA, HJ6, HO_7, HB⟩ := hcut
          cases kq with
          | zero => exact absurd HA.out (by simp [signalmanlaw05_stream.j1])
          | succ kj6 =>
            have H := HA.out
            clear HA
            simp only [signalmanlaw05_stream.j1] at H
            by_cases c10 : 0 ≤ x8_1
            · rw [if_pos c10] at H
              have c10b0 : decide (0 ≤ x8_1) = true := decide_eq_true c10
              clear c10
              by_cases c11 : x8_1 < (l0.length : Int)
              · rw [if_pos c11] at H
                have c11b0 : decide (x8_1 < (l0.length : Int)) = true := decide_eq_true c11
                clear c11
                replace H := Option.bind_eq_some_iff.mp H
                obtain ⟨t227, A120, H⟩ := H
                replace H : (if (Int.tmod x9_6 6) = 1 then (if (t227.length : Int) = 0 then (none) else (if 0 ≤ (Int.tmod (wrap64 (x9_6)) (t227.length : Int)) then (if (Int.tmod (wrap64 (x9_6)) (t227.length : Int)) < (t227.length : Int) then ((some (t227.set ((Int.tmod (wrap64 (x9_6)) (t227.length : Int)) : Int).toNat (!(rdOf false t227 (Int.tmod (wrap64 (x9_6)) (t227.length : Int)))) : List Bool)).bind fun y231 => (if x7_1.length + y231.length < 140737488355328 then (signalmanlaw05_stream.l0 kj6 l0 l1 l2 (x7_1 ++ y231) (wrap64 (x8_1 + 1))) else (none))) else (none)) else (none))) else (if (Int.tmod x9_6 6) = 2 then ((signalmanref01_Flag.f).bind fun t235 => (if t235.length + t227.length < 140737488355328 then ((some (t235 ++ t227 : List Bool)).bind fun y238 => (if x7_1.length + y238.length < 140737488355328 then (signalmanlaw05_stream.l0 kj6 l0 l1 l2 (x7_1 ++ y238) (wrap64 (x8_1 + 1))) else (none))) else (none))) else (if (Int.tmod x9_6 6) = 3 then ((signalmanref01_Bits.f kj6 l1).bind fun t244 => (if t244.length + t227.length < 140737488355328 then ((some (t244 ++ t227 : List Bool)).bind fun y247 => (if x7_1.length + y247.length < 140737488355328 then (signalmanlaw05_stream.l0 kj6 l0 l1 l2 (x7_1 ++ y247) (wrap64 (x8_1 + 1))) else (none))) else (none))) else (if (Int.tmod x9_6 6) = 4 then (signalmanlaw05_stream.l1 kj6 l0 l1 l2 x7_1 x8_1 x9_6 t227 0) else (if (Int.tmod x9_6 6) = 5 then (if (t227.length : Int) = 0 then (none) else (if 0 ≤ (wrap64 ((t227.length : Int) - (Int.tmod (wrap64 (x9_6)) (t227.length : Int)))) then (if (wrap64 ((t227.length : Int) - (Int.tmod (wrap64 (x9_6)) (t227.length : Int)))) ≤ (t227.length : Int) then ((some (t227.take ((wrap64 ((t227.length : Int) - (Int.tmod (wrap64 (x9_6)) (t227.length : Int)))) : Int).toNat : List Bool)).bind fun y259 => (if x7_1.length + y259.length < 140737488355328 then (signalmanlaw05_stream.l0 kj6 l0 l1 l2 (x7_1 ++ y259) (wrap64 (x8_1 + 1))) else (none))) else (none)) else (none))) else (if x7_1.length + t227.length < 140737488355328 then (signalmanlaw05_stream.l0 kj6 l0 l1 l2 (x7_1 ++ t227) (wrap64 (x8_1 + 1))) else (none))))))) = some r := H
                have A12 := Aside0.mk A120
                clear A120
                by_cases c13 : (Int.tmod x9_6 6) = 1
                · rw [if_pos c13] at H
                  have c13b0 : ((Int.tmod x9_6 6) == 1) = true := beq_iff_eq.mpr c13
                  have c13b1 : ((Int.tmod x9_6 6) != 1) = false := bne_eq_false_iff_eq.mpr c13
                  clear c13
                  by_cases c14 : (t227.length : Int) = 0
                  · rw [if_pos c14] at H
                    exact absurd H (by simp)
                  · rw [if_neg c14] at H
                    have c14b0 : ((t227.length : Int) == 0) = false := beq_eq_false_iff_ne.mpr c14
                    have c14b1 : ((t227.length : Int) != 0) = true := bne_iff_ne.mpr c14
                    have c14b2 : ¬ (t227 = []) := fun h_ => c14 (by rw [h_]; rfl)
                    obtain ⟨ji15, hji15⟩ : ∃ j_ : Int, (Int.tmod (wrap64 (x9_6)) (t227.length : Int)) = j_ := ⟨_, rfl⟩
                    replace H : (if 0 ≤ (ji15) then (if (ji15) < (t227.length : Int) then ((some (t227.set ((ji15) : Int).toNat (!(rdOf false t227 (ji15))) : List Bool)).bind fun y231 => (if x7_1.length + y231.length < 140737488355328 then (signalmanlaw05_stream.l0 kj6 l0 l1 l2 (x7_1 ++ y231) (wrap64 (x8_1 + 1))) else (none))) else (none)) else (none)) = some r := by first | (rw [hji15] at H; exact H) | (simp only [hji15] at H ⊢; exact H)
                    (try rw [hji15] at A12)
                    by_cases c16 : 0 ≤ (ji15)
                    · rw [if_pos c16] at H
                      have c16b0 : decide (0 ≤ (ji15)) = true := decide_eq_true c16
                      clear c16
                      by_cases c17 : (ji15) < (t227.length : Int)
                      · rw [if_pos c17] at H
                        have c17b0 : decide ((ji15) < (t227.length : Int)) = true := decide_eq_true c17
                        clear c17
                        obtain ⟨y231, hy231⟩ : ∃ y_ : List Bool, y_ = (t227.set ((ji15) : Int).toNat (!(rdOf false t227 (ji15)))) := ⟨_, rfl⟩
                        replace H : (if x7_1.length + y231.length < 140737488355328 then (signalmanlaw05_stream.l0 kj6 l0 l1 l2 (x7_1 ++ y231) (wrap64 (x8_1 + 1))) else (none)) = some r := by first | (rw [hy231]; with_reducible exact H) | (have H2_ := (Option.bind_some _ _).symm.trans H; rw [hy231]; with_reducible exact H2_) | (have H2_ := (Option.bind_some _ _).symm.trans H; with_reducible exact H2_) | with_reducible exact H | (rw [hy231]; exact H) | exact H
                        have Ny231 := Aside0.mk hy231
                        clear hy231
                        by_cases c19 : x7_1.length + y231.length < 140737488355328
                        · rw [if_pos c19] at H
                          have LMc19 := Aside0.mk c19
                          clear c19
                          obtain ⟨y232, hy232⟩ : ∃ y_ : List Bool, y_ = (x7_1 ++ y231) := ⟨_, rfl⟩
                          replace H : (signalmanlaw05_stream.l0 kj6 l0 l1 l2 y232 (wrap64 (x8_1 + 1))) = some r := by first | (rw [hy232]; with_reducible exact H) | (have H2_ := (Option.bind_some _ _).symm.trans H; rw [hy232]; with_reducible exact H2_) | (have H2_ := (Option.bind_some _ _).symm.trans H; with_reducible exact H2_) | with_reducible exact H | (rw [hy232]; exact H) | exact H
                          have Ny232 := Aside0.mk hy232
                          clear hy232
                          have H' := Aside0.mk H
                          clear H
                          have p226 : 0 ≤ (x8_1 : Int) := of_decide_eq_true (by first | (with_reducible assumption) | assumption)
                          have q226 : x8_1 < (l0.length : Int) := of_decide_eq_true (by first | (with_reducible assumption) | assumption)
                          obtain ⟨ad226, A226_0, c226_0, e226, hx226_0, hl226_0, hi226_0⟩ := at_L2 HR0.out x8_1 p226 q226
                          cases e226
                          replace hx226_0 := (HB.out.cell (World.block_lt_of_cell? w _ hx226_0)).trans hx226_0
                          have HR226_0 := Aside0.mk hi226_0
                          have HC226_0 := Aside0.mk hl226_0
                          clear hi226_0 hl226_0
                          replace p226 := eq_true p226
                          replace q226 := eq_true q226
                          try go_wp2_with (first | ((with_reducible refine gate_callee (f := 14) rfl ?_); refine goesL_ (some 31) rfl rfl Try.func14 (by kernel_rfl) rfl #[.slice A226_0 (rd_L2 l0 x8_1).length c226_0] rfl (by (try simp only [List.map_toArray, List.map_cons, List.map_nil]); first | done | rfl | (simp only [List.length_drop, List.length_take]; rfl) | (simp [Act.eval, *]; done)) ?_; (with_reducible refine (signalmanref01_Frame.calls kj6 _ _ (rd_L2 l0 x8_1) t227 _ ?side1 ?side2 A12.out).mono ?_); (case side1 => repeat (first | exact (Kd.C_below HR226_0.out HB.out) | (with_reducible refine Kd.C_alloc ?_ _) | (with_reducible refine Kd.C_drewN ?_ _) | (with_reducible refine Kd.C_drew ?_))); (case side2 => exact HC226_0.out); rintro e w20 ⟨v228, rfl, ho0, hb⟩; refine ⟨_, rfl, ?_⟩; have n0_ := Aside0.mk (Kd.R_elder' (by (with_reducible repeat (first | apply Kd.R_alloc | apply Kd.R_drewN | apply Kd.R_drew)); exact HO_7.out) (Kd.R_base ho0) hb); have n1_ := Aside0.mk (Kd.R_lower (Kd.R_new' ho0 (Kd.R_lt (by (with_reducible repeat (first | apply Kd.R_alloc | apply Kd.R_drewN | apply Kd.R_drew)); exact HO_7.out))) (below_size (by repeat (first | (with_reducible first | exact HB.out | apply below_alloc | apply pw_below_drewN | apply below_drew1) | exact HB.out)))); have n2_ := Aside0.mk (below_step (by repeat (first | (with_reducible first | exact HB.out | apply below_alloc | apply pw_below_drewN | apply below_drew1) | exact HB.out)) hb); clear HO_7; clear HB; have HO_7 := n0_; have HO229 := n1_; have HB := n2_; clear n0_ n1_ n2_; (try clear hb); (try clear hb2); (try clear hk); (try clear hi); (try clear ho0)))
                          have n0_ := Aside0.mk (Kd.R_drew HO_7.out)
                          have n1_ := Aside0.mk (Kd.R_drew HO229.out)
                          have n2_ := Aside0.mk (below_drew1 HB.out)
                          clear HO_7
                          clear HO229
                          clear HB
                          have HO_7 := n0_
                          have HO229 := n1_
                          have HB := n2_
                          clear n0_ n1_ n2_
                          obtain ⟨Ao22, co22, eo22⟩ := Kd.R_slice HO229.out
                          (first | subst eo22 | (injection eo22 with f1_ f2_ f3_; have f4_ := f1_.symm; have f5_ := f3_.symm; clear f1_ f2_ f3_; subst f4_; subst f5_))
                          have p230 : 0 ≤ ((ji15) : Int) := of_decide_eq_true (by first | (with_reducible assumption) | assumption)
                          have q230 : (ji15) < (t227.length : Int) := of_decide_eq_true (by first | (with_reducible assumption) | assumption)
                          obtain ⟨ad230, e230, hx230_0⟩ := Kd.at_bool (Kd.R_reads' HO229.out).2.2 (ji15) p230 q230
                          cases e230
                          replace p230 := eq_true p230
                          replace q230 := eq_true q230
                          have p18 : 0 ≤ ((ji15) : Int) := of_decide_eq_true (by first | (with_reducible assumption) | assumption)
                          have q18 : ((ji15) : Int) < ((t227.length : Int) : Int) := of_decide_eq_true (by first | (with_reducible assumption) | assumption)
                          obtain ⟨go18, co18, eo18, gb18, gl18, cl18, HG18⟩ := Kd.R_form HO229.out (by omega)
                          (first | cases eo18 | (injection eo18 with ea_ en_ ec_; (first | subst ea_ | (injection ea_ with ea_; subst ea_)); subst ec_; clear en_))
                          have GB18 := Aside0.mk gb18
                          have GG18 := Aside0.mk HG18
                          clear gb18 gl18 HG18
                          (first | simp only [add_plain] at hx230_0 | skip)
                          obtain ⟨hx18_0, hf18_0⟩ := Kd.R_celln false HO229.out ((ji15) : Int) p18 q18
                          replace p18 := eq_true p18
                          replace q18 := eq_true q18
                          have HP23 := Kd.R_putn HO229.out ((ji15) : Int) (!(rdOf false t227 (ji15)))
                          rw [← Ny231.out] at HP23
                          have HQ23 := Aside0.mk HP23
                          clear HP23
                          refine start_ (n := 17) (S := fun w' => w'.cell? ⟨go18, ((ji15)).toNat, none⟩ = some (.bool (rdOf false t227 (ji15)))) (ds := [16]) #[false, false, false, false, false, false, false, false, false, false, false, false, false, false, false, false, false] (by kernel_rfl) rfl rfl (hx230_0) (fun hHeld => ?_); refine with_tabW signalmanlaw05_stream.tab11 signalmanlaw05_stream.bits11 (fun HT_ HW_ => ?_)
                          generalize w20.drew = w21 at HO_7 HO229 HB GG18 HQ23 hf18_0 hx18_0 hx230_0 hHeld ⊢
                          refine pure_ (i := 0) (N := some 36) (v := ?_) (a' := ?_) #[true, false, false, false, false, false, false, false, false, false, false, false, false, false, false, false, false] rfl rfl (any_of HT_.out (by kernel_rfl)) (fun _ _ _ h => h) (Or.inl ⟨by rfl, ?_⟩) ?_ ?_
                          rotate_left
                          · intro w'
                            go_simp
                            with_reducible rfl
                          rotate_left
                          · simp only [Act.put, List.setIfInBounds_toArray, List.set_cons_zero, List.set_cons_succ, i64_w, i32_w]
                            rfl
                          refine pure_ (i := 1) (N := some 37) (v := ?_) (a' := ?_) #[true, true, false, false, false, false, false, false, false, false, false, false, false, false, false, false, false] rfl rfl (any_of HT_.out (by kernel_rfl)) (fun _ _ _ h => h) (Or.inl ⟨by rfl, ?_⟩) ?_ ?_
                          rotate_left
                          · intro w'
                            go_simp
                            with_reducible rfl
                          rotate_left
                          · simp only [Act.put, List.setIfInBounds_toArray, List.set_cons_zero, List.set_cons_succ, i64_w, i32_w]
                            rfl
                          refine pure_ (i := 2) (N := some 38) (v := ?_) (a' := ?_) #[true, true, true, false, false, false, false, false, false, false, false, false, false, false, false, false, false] rfl rfl (any_of HT_.out (by kernel_rfl)) (fun _ _ _ h => h) (Or.inl ⟨by rfl, ?_⟩) ?_ ?_
                          rotate_left
                          · intro w'
                            go_simp
                            with_reducible rfl
                          rotate_left
                          · simp only [Act.put, List.setIfInBounds_toArray, List.set_cons_zero, List.set_cons_succ, i64_w, i32_w]
                            rfl
                          refine pure_ (i := 3) (N := some 39) (v := ?_) (a' := ?_) #[true, true, true, true, false, false, false, false, false, false, false, false, false, false, false, false, false] rfl rfl (any_of HT_.out (by kernel_rfl)) (fun _ _ _ h => h) (Or.inl ⟨by rfl, ?_⟩) ?_ ?_
                          rotate_left
                          · intro w'
                            go_simp
                            with_reducible rfl
                          rotate_left
                          · simp only [Act.put, List.setIfInBounds_toArray, List.set_cons_zero, List.set_cons_succ, i64_w, i32_w]
                            rfl
                          refine pure_ (i := 4) (N := some 40) (v := ?_) (a' := ?_) #[true, true, true, true, true, false, false, false, false, false, false, false, false, false, false, false, false] rfl rfl (any_of HT_.out (by kernel_rfl)) (fun _ _ _ h => h) (Or.inl ⟨by rfl, ?_⟩) ?_ ?_
                          rotate_left
                          · intro w'
                            go_simp
                            with_reducible rfl
                          rotate_left
                          · simp only [Act.put, List.setIfInBounds_toArray, List.set_cons_zero, List.set_cons_succ, i64_w, i32_w]
                            rfl
                          refine pure_ (i := 5) (N := some 41) (v := ?_) (a' := ?_) #[true, true, true, true, true, true, false, false, false, false, false, false, false, false, false, false, false] rfl rfl (any_of HT_.out (by kernel_rfl)) (fun _ _ _ h => h) (Or.inl ⟨by rfl, ?_⟩) ?_ ?_
                          rotate_left
                          · intro w'
                            go_simp
                            with_reducible rfl
                          rotate_left
                          · simp only [Act.put, List.setIfInBounds_toArray, List.set_cons_zero, List.set_cons_succ, i64_w, i32_w]
                            rfl
                          refine pure_ (i := 6) (N := some 42) (v := ?_) (a' := ?_) #[true, true, true, true, true, true, true, false, false, false, false, false, false, false, false, false, false] rfl rfl (any_of HT_.out (by kernel_rfl)) (fun _ _ _ h => h) (Or.inl ⟨by rfl, ?_⟩) ?_ ?_
                          rotate_left
                          · intro w'
                            go_simp
                            with_reducible rfl
                          rotate_left
                          · simp only [Act.put, List.setIfInBounds_toArray, List.set_cons_zero, List.set_cons_succ, i64_w, i32_w]
                            rfl
                          refine pure_ (i := 7) (N := some 43) (v := ?_) (a' := ?_) #[true, true, true, true, true, true, true, true, false, false, false, false, false, false, false, false, false] rfl rfl (any_of HT_.out (by kernel_rfl)) (fun _ _ _ h => h) (Or.inl ⟨by rfl, ?_⟩) ?_ ?_
                          rotate_left
                          · intro w'
                            go_simp
                            with_reducible rfl
                          rotate_left
                          · simp only [Act.put, List.setIfInBounds_toArray, List.set_cons_zero, List.set_cons_succ, i64_w, i32_w]
                            rfl
                          refine pure_ (i := 8) (N := some 44) (v := ?_) (a' := ?_) #[true, true, true, true, true, true, true, true, true, false, false, false, false, false, false, false, false] rfl rfl (any_of HT_.out (by kernel_rfl)) (fun _ _ _ h => h) (Or.inl ⟨by rfl, ?_⟩) ?_ ?_
                          rotate_left
                          · intro w'
                            go_simp
                            with_reducible rfl
                          rotate_left
                          · simp only [Act.put, List.setIfInBounds_toArray, List.set_cons_zero, List.set_cons_succ, i64_w, i32_w]
                            rfl
                          refine pure_ (i := 9) (N := some 45) (v := ?_) (a' := ?_) #[true, true, true, true, true, true, true, true, true, true, false, false, false, false, false, false, false] rfl rfl (any_of HT_.out (by kernel_rfl)) (fun _ _ _ h => h) (Or.inl ⟨by rfl, ?_⟩) ?_ ?_
                          rotate_left
                          · intro w'
                            go_simp
                            with_reducible rfl
                          rotate_left
                          · simp only [Act.put, List.setIfInBounds_toArray, List.set_cons_zero, List.set_cons_succ, i64_w, i32_w]
                            rfl
                          refine pure_ (i := 10) (N := some 46) (v := ?_) (a' := ?_) #[true, true, true, true, true, true, true, true, true, true, true, false, false, false, false, false, false] rfl rfl (any_of HT_.out (by kernel_rfl)) (fun _ _ _ h => h) (Or.inl ⟨by rfl, ?_⟩) ?_ ?_
                          rotate_left
                          · intro w'
                            go_simp
                            with_reducible rfl
                          rotate_left
                          · simp only [Act.put, List.setIfInBounds_toArray, List.set_cons_zero, List.set_cons_succ, i64_w, i32_w]
                            rfl
                          refine pure_ (i := 11) (N := some 47) (v := ?_) (a' := ?_) #[true, true, true, true, true, true, true, true, true, true, true, true, false, false, false, false, false] rfl rfl (any_of HT_.out (by kernel_rfl)) (fun _ _ _ h => h) (Or.inl ⟨by rfl, ?_⟩) ?_ ?_
                          rotate_left
                          · intro w'
                            go_simp
                            with_reducible rfl
                          rotate_left
                          · simp only [Act.put, List.setIfInBounds_toArray, List.set_cons_zero, List.set_cons_succ, i64_w, i32_w]
                            rfl
                          refine pure_ (i := 12) (N := some 48) (v := ?_) (a' := ?_) #[true, true, true, true, true, true, true, true, true, true, true, true, true, false, false, false, false] rfl rfl (any_of HT_.out (by kernel_rfl)) (fun _ _ _ h => h) (Or.inl ⟨by rfl, ?_⟩) ?_ ?_
                          rotate_left
                          · intro w'
                            go_simp
                            with_reducible rfl
                          rotate_left
                          · simp only [Act.put, List.setIfInBounds_toArray, List.set_cons_zero, List.set_cons_succ, i64_w, i32_w]
                            rfl
                          refine take_ (i := 13) (N := some 49) (v := ?_) (a' := ?_) #[true, true, true, true, true, true, true, true, true, true, true, true, true, true, false, false, false] rfl rfl (take_ofW HT_.out HW_.out (by kernel_rfl)) (fun _ _ _ h => h) (Or.inl ⟨by rfl, ?_⟩) hHeld ?_ ?_
                          rotate_left
                          · intro w' s0
                            go_simp
                            with_reducible rfl
                          rotate_left
                          · simp only [Act.put, List.setIfInBounds_toArray, List.set_cons_zero, List.set_cons_succ, i64_w, i32_w]
                            rfl
                          refine pure_ (i := 14) (N := some 50) (v := ?_) (a' := ?_) #[true, true, true, true, true, true, true, true, true, true, true, true, true, true, true, false, false] rfl rfl (any_of HT_.out (by kernel_rfl)) (fun _ _ _ h => h) (Or.inl ⟨by rfl, ?_⟩) ?_ ?_
                          rotate_left
                          · intro w'
                            go_simp
                            with_reducible rfl
                          rotate_left
                          · simp only [Act.put, List.setIfInBounds_toArray, List.set_cons_zero, List.set_cons_succ, i64_w, i32_w]
                            rfl
                          refine pure_ (i := 15) (N := some 51) (v := ?_) (a' := ?_) #[true, true, true, true, true, true, true, true, true, true, true, true, true, true, true, true, false] rfl rfl (any_of HT_.out (by kernel_rfl)) (fun _ _ _ h => h) (Or.inl ⟨by rfl, ?_⟩) ?_ ?_
                          rotate_left
                          · intro w'
                            go_simp
                            with_reducible rfl
                          rotate_left
                          · simp only [Act.put, List.setIfInBounds_toArray, List.set_cons_zero, List.set_cons_succ, i64_w, i32_w]
                            rfl
                          refine last_ (i := 16) (N := none) #[true, true, true, true, true, true, true, true, true, true, true, true, true, true, true, true, true] rfl rfl (one_of HT_.out (by kernel_rfl)) (by decide) (fun K hK => ?_)
                          refine skip_ (w1 := ?_) (by rfl) rfl ?_ ?_
                          rotate_left
                          · go_simp
                            rfl
                          refine hK.out _ _ ?_
                          clear hK K
                          refine done_ (done_of HT_.out (by kernel_rfl)) ?_
                          try go_wp2_with (first | ((with_reducible refine gate_builtin (b := .append) (xs := #[.tmp 88, .tmp 89]) rfl ?_); at_builtin; refine Kd.R_append_rows Kd.bool (w0 := w) w.heap.size rfl (.tmp 88) (.tmp 89) 26 4 (.bool false) 1 rfl Try.underlying26 info4 rfl (by decide) (by omega) u7 x7_1 y231 _ _ _ (fun k_ => some k_ ≠ (.slice (some ⟨go18, 0, none⟩) t227.length co22 : Value).ownBlock) (fun _ => False) rfl rfl ?aO ?aR (fun _ _ h => h) (fun _ h => h.elim) ?aF ?aB ?aS ?aL ?_; (case aR => rw [show t227.length = y231.length from (Kd.R_reads' HQ23.out).1]; refine (Kd.R_reads' (e := 4) (base := w.heap.size) (ok := fun k_ => (True ∧ some k_ ≠ (u7 : Value).ownBlock)) (n := t227.length) (c := co22) ?_).2.2; exact (by (with_reducible repeat (first | apply Kd.R_alloc | apply Kd.R_drewN | apply Kd.R_drew)); exact HQ23.out)); (case aB => exact (by repeat (first | (with_reducible first | exact HB.out | apply below_alloc | apply pw_below_drewN | apply below_drew1 | refine below_set ?_ GB18.out) | exact HB.out))); (case aF => exact (fun k_ hk => Kd.fresh' (Kd.R_lt (by (with_reducible repeat (first | apply Kd.R_alloc | apply Kd.R_drewN | apply Kd.R_drew)); exact HQ23.out)) k_ hk)); (case aO => exact (by (with_reducible repeat (first | apply Kd.R_alloc | apply Kd.R_drewN | apply Kd.R_drew)); exact Kd.R_mono (Kd.R_far (p := ⟨go18, ((ji15) : Int).toNat, none⟩) (Kd.R_mono HO_7.out (fun k_ hk => (⟨hk, fun e_ => hk.2 (by rw [e_]; rfl)⟩ : _ ∧ k_ ≠ go18))) (fun _ hk => (by first | exact hk.2 | exact fun e_ => hk.2 (e_.trans (own_len _ _ _ _)))) (.bool (!(rdOf false t227 (ji15))))) (fun _ hk => hk.1.2))); (case aS => exact (below_size (by repeat (first | (with_reducible first | exact HB.out | apply below_alloc | apply pw_below_drewN | apply below_drew1 | refine below_set ?_ GB18.out) | exact HB.out)))); (case aL => have := LMc19.out; have hlx_ := (Kd.R_reads' HQ23.out).1; omega); intro v233 w24 ho hb hg hat; rw [← Ny232.out] at ho; have n0_ := Aside0.mk (Kd.R_after (ok := (fun _ => True)) (by (with_reducible repeat (first | apply Kd.R_alloc | apply Kd.R_drewN | apply Kd.R_drew)); exact HQ23.out) hg hat); have n1_ := Aside0.mk (hb); have n2_ := Aside0.mk (ho); clear HO229; clear HB; clear HO_7; have HO229 := n0_; have HB := n1_; have HO234 := n2_; clear n0_ n1_ n2_; clear ho hb hg hat))
                          go_roundg kj6
                          case measure => have := HK1.out; have := HJ6.out; omega
                          case rel => exact ⟨(y232), (wrap64 (x8_1 + 1)), (by first | rfl | (simp; done) | (simp [*]; done) | (simp; omega)), H', ⟨by have := HK1.out; have := HJ6.out; omega⟩, ⟨by (with_reducible repeat (first | apply Kd.R_alloc | apply Kd.R_drewN | apply Kd.R_drew)); exact Kd.R_mono HO234.out (fun _ hk => trivial)⟩, ⟨by repeat (first | (with_reducible first | exact HB.out | apply below_alloc | apply pw_below_drewN | apply below_drew1) | exact HB.out)⟩⟩
                        · rw [if_neg c19] at H
                          exact absurd H (by simp)
                      · rw [if_neg c17] at H
                        exact absurd H (by simp)
                    · rw [if_neg c16] at H
                      exact absurd H (by simp)
                · rw [if_neg c13] at H
                  have c13b0 : ((Int.tmod x9_6 6) == 1) = false := beq_eq_false_iff_ne.mpr c13
                  have c13b1 : ((Int.tmod x9_6 6) != 1) = true := bne_iff_ne.mpr c13
                  by_cases c25 : (Int.tmod x9_6 6) = 2
                  · rw [if_pos c25] at H
                    have c25b0 : ((Int.tmod x9_6 6) == 2) = true := beq_iff_eq.mpr c25
                    have c25b1 : ((Int.tmod x9_6 6) != 2) = false := bne_eq_false_iff_eq.mpr c25
                    clear c25
                    replace H := Option.bind_eq_some_iff.mp H
                    obtain ⟨t235, A260, H⟩ := H
                    replace H : (if t235.length + t227.length < 140737488355328 then ((some (t235 ++ t227 : List Bool)).bind fun y238 => (if x7_1.length + y238.length < 140737488355328 then (signalmanlaw05_stream.l0 kj6 l0 l1 l2 (x7_1 ++ y238) (wrap64 (x8_1 + 1))) else (none))) else (none)) = some r := H
                    have A26 := Aside0.mk A260
                    clear A260
                    by_cases c27 : t235.length + t227.length < 140737488355328
                    · rw [if_pos c27] at H
                      have LMc27 := Aside0.mk c27
                      clear c27
                      obtain ⟨y238, hy238⟩ : ∃ y_ : List Bool, y_ = (t235 ++ t227) := ⟨_, rfl⟩
                      replace H : (if x7_1.length + y238.length < 140737488355328 then (signalmanlaw05_stream.l0 kj6 l0 l1 l2 (x7_1 ++ y238) (wrap64 (x8_1 + 1))) else (none)) = some r := by first | (rw [hy238]; with_reducible exact H) | (have H2_ := (Option.bind_some _ _).symm.trans H; rw [hy238]; with_reducible exact H2_) | (have H2_ := (Option.bind_some _ _).symm.trans H; with_reducible exact H2_) | with_reducible exact H | (rw [hy238]; exact H) | exact H
                      have Ny238 := Aside0.mk hy238
                      clear hy238
                      by_cases c28 : x7_1.length + y238.length < 140737488355328
                      · rw [if_pos c28] at H
                        have LMc28 := Aside0.mk c28
                        clear c28
                        obtain ⟨y241, hy241⟩ : ∃ y_ : List Bool, y_ = (x7_1 ++ y238) := ⟨_, rfl⟩
                        replace H : (signalmanlaw05_stream.l0 kj6 l0 l1 l2 y241 (wrap64 (x8_1 + 1))) = some r := by first | (rw [hy241]; with_reducible exact H) | (have H2_ := (Option.bind_some _ _).symm.trans H; rw [hy241]; with_reducible exact H2_) | (have H2_ := (Option.bind_some _ _).symm.trans H; with_reducible exact H2_) | with_reducible exact H | (rw [hy241]; exact H) | exact H
                        have Ny241 := Aside0.mk hy241
                        clear hy241
                        have H' := Aside0.mk H
                        clear H
                        have p226 : 0 ≤ (x8_1 : Int) := of_decide_eq_true (by first | (with_reducible assumption) | assumption)
                        have q226 : x8_1 < (l0.length : Int) := of_decide_eq_true (by first | (with_reducible assumption) | assumption)
                        obtain ⟨ad226, A226_0, c226_0, e226, hx226_0, hl226_0, hi226_0⟩ := at_L2 HR0.out x8_1 p226 q226
                        cases e226
                        replace hx226_0 := (HB.out.cell (World.block_lt_of_cell? w _ hx226_0)).trans hx226_0
                        have HR226_0 := Aside0.mk hi226_0
                        have HC226_0 := Aside0.mk hl226_0
                        clear hi226_0 hl226_0
                        replace p226 := eq_true p226
                        replace q226 := eq_true q226
                        go_wp2_with (first | ((with_reducible refine gate_callee (f := 14) rfl ?_); refine goesL_ (some 31) rfl rfl Try.func14 (by kernel_rfl) rfl #[.slice A226_0 (rd_L2 l0 x8_1).length c226_0] rfl (by (try simp only [List.map_toArray, List.map_cons, List.map_nil]); first | done | rfl | (simp only [List.length_drop, List.length_take]; rfl) | (simp [Act.eval, *]; done)) ?_; (with_reducible refine (signalmanref01_Frame.calls kj6 _ _ (rd_L2 l0 x8_1) t227 _ ?side1 ?side2 A12.out).mono ?_); (case side1 => repeat (first | exact (Kd.C_below HR226_0.out HB.out) | (with_reducible refine Kd.C_alloc ?_ _) | (with_reducible refine Kd.C_drewN ?_ _) | (with_reducible refine Kd.C_drew ?_))); (case side2 => exact HC226_0.out); rintro e w29 ⟨v228, rfl, ho0, hb⟩; refine ⟨_, rfl, ?_⟩; have n0_ := Aside0.mk (Kd.R_elder' (by (with_reducible repeat (first | apply Kd.R_alloc | apply Kd.R_drewN | apply Kd.R_drew)); exact HO_7.out) (Kd.R_base ho0) hb); have n1_ := Aside0.mk (Kd.R_lower (Kd.R_new' ho0 (Kd.R_lt (by (with_reducible repeat (first | apply Kd.R_alloc | apply Kd.R_drewN | apply Kd.R_drew)); exact HO_7.out))) (below_size (by repeat (first | (with_reducible first | exact HB.out | apply below_alloc | apply pw_below_drewN | apply below_drew1) | exact HB.out)))); have n2_ := Aside0.mk (below_step (by repeat (first | (with_reducible first | exact HB.out | apply below_alloc | apply pw_below_drewN | apply below_drew1) | exact HB.out)) hb); clear HO_7; clear HB; have HO_7 := n0_; have HO229 := n1_; have HB := n2_; clear n0_ n1_ n2_; (try clear hb); (try clear hb2); (try clear hk); (try clear hi); (try clear ho0)) | ((with_reducible refine gate_callee (f := 16) rfl ?_); refine goesL_ (some 54) rfl rfl Try.func16 (by kernel_rfl) rfl #[] rfl (by (try simp only [List.map_toArray, List.map_cons, List.map_nil]); first | done | rfl | (simp only [List.length_drop, List.length_take]; rfl) | (simp [Act.eval, *]; done)) ?_; (with_reducible refine (signalmanref01_Flag.calls  t235 _ A26.out).mono ?_); rintro e w30 ⟨v236, rfl, ho0, hb⟩; refine ⟨_, rfl, ?_⟩; have n0_ := Aside0.mk (Kd.R_elder' (by (with_reducible repeat (first | apply Kd.R_alloc | apply Kd.R_drewN | apply Kd.R_drew)); exact HO_7.out) (Kd.R_base ho0) hb); have n1_ := Aside0.mk (Kd.R_elder' (by (with_reducible repeat (first | apply Kd.R_alloc | apply Kd.R_drewN | apply Kd.R_drew)); exact HO229.out) (Kd.R_base ho0) hb); have n2_ := Aside0.mk (Kd.R_lower (Kd.R_new' (Kd.R_new' ho0 (Kd.R_lt (by (with_reducible repeat (first | apply Kd.R_alloc | apply Kd.R_drewN | apply Kd.R_drew)); exact HO_7.out))) (Kd.R_lt (by (with_reducible repeat (first | apply Kd.R_alloc | apply Kd.R_drewN | apply Kd.R_drew)); exact HO229.out))) (below_size (by repeat (first | (with_reducible first | exact HB.out | apply below_alloc | apply pw_below_drewN | apply below_drew1) | exact HB.out)))); have n3_ := Aside0.mk (below_step (by repeat (first | (with_reducible first | exact HB.out | apply below_alloc | apply pw_below_drewN | apply below_drew1) | exact HB.out)) hb); clear HO_7; clear HO229; clear HB; have HO_7 := n0_; have HO229 := n1_; have HO237 := n2_; have HB := n3_; clear n0_ n1_ n2_ n3_; (try clear hb); (try clear hb2); (try clear hk); (try clear hi); (try clear ho0); obtain ⟨Ao32, co32, eo32⟩ := Kd.R_slice HO229.out; subst eo32) | ((with_reducible refine gate_builtin (b := .append) (xs := #[.tmp 54, .tmp 55]) rfl ?_); at_builtin; refine Kd.R_append_rows Kd.bool (w0 := w) w.heap.size rfl (.tmp 54) (.tmp 55) 26 4 (.bool false) 1 rfl Try.underlying26 info4 rfl (by decide) (by omega) v236 t235 t227 _ _ _ (fun k_ => some k_ ≠ (u7 : Value).ownBlock ∧ some k_ ≠ (.slice Ao32 t227.length co32 : Value).ownBlock) (fun _ => False) rfl rfl ?aO ?aR (fun _ _ h => h) (fun _ h => h.elim) ?aF ?aB ?aS ?aL ?_; (case aR => repeat (first | exact (Kd.R_reads' HO229.out).2.2 | (with_reducible refine Kd.C_alloc ?_ _) | (with_reducible refine Kd.C_drewN ?_ _) | (with_reducible refine Kd.C_drew ?_))); (case aB => exact (by repeat (first | (with_reducible first | exact HB.out | apply below_alloc | apply pw_below_drewN | apply below_drew1) | exact HB.out))); (case aF => exact (fun k_ hk => ⟨Kd.fresh' (Kd.R_lt (by (with_reducible repeat (first | apply Kd.R_alloc | apply Kd.R_drewN | apply Kd.R_drew)); exact HO_7.out)) k_ hk, Kd.fresh' (Kd.R_lt (by (with_reducible repeat (first | apply Kd.R_alloc | apply Kd.R_drewN | apply Kd.R_drew)); exact HO229.out)) k_ hk⟩)); (case aO => exact (by (with_reducible repeat (first | apply Kd.R_alloc | apply Kd.R_drewN | apply Kd.R_drew)); exact Kd.R_mono HO237.out (by first | exact fun _ hk => ⟨hk.1.2, hk.2⟩ | exact fun _ hk => ⟨fun e_ => hk.1.2 (e_.trans (own_len _ _ _ _)), hk.2⟩ | exact fun _ hk => ⟨hk.1.2, fun e_ => hk.2 (e_.trans (own_len _ _ _ _))⟩ | exact fun _ hk => ⟨fun e_ => hk.1.2 (e_.trans (own_len _ _ _ _)), fun e_ => hk.2 (e_.trans (own_len _ _ _ _))⟩))); (case aS => exact (below_size (by repeat (first | (with_reducible first | exact HB.out | apply below_alloc | apply pw_below_drewN | apply below_drew1) | exact HB.out)))); (case aL => have := LMc27.out; omega); intro v239 w31 ho hb hg hat; rw [← Ny238.out] at ho; have n0_ := Aside0.mk (Kd.R_after (ok := (fun k_ => some k_ ≠ (.slice Ao32 t227.length co32 : Value).ownBlock)) (by (with_reducible repeat (first | apply Kd.R_alloc | apply Kd.R_drewN | apply Kd.R_drew)); exact Kd.R_mono HO_7.out (by first | exact fun _ hk => ⟨hk.1.2, hk.2⟩ | exact fun _ hk => ⟨fun e_ => hk.1.2 (e_.trans (own_len _ _ _ _)), hk.2⟩ | exact fun _ hk => ⟨hk.1.2, fun e_ => hk.2 (e_.trans (own_len _ _ _ _))⟩ | exact fun _ hk => ⟨fun e_ => hk.1.2 (e_.trans (own_len _ _ _ _)), fun e_ => hk.2 (e_.trans (own_len _ _ _ _))⟩)) hg hat); have n1_ := Aside0.mk (Kd.R_after (ok := (fun k_ => some k_ ≠ (u7 : Value).ownBlock)) (by (with_reducible repeat (first | apply Kd.R_alloc | apply Kd.R_drewN | apply Kd.R_drew)); exact Kd.R_mono HO229.out (by first | exact fun _ hk => ⟨hk.1.2, hk.2⟩ | exact fun _ hk => ⟨fun e_ => hk.1.2 (e_.trans (own_len _ _ _ _)), hk.2⟩ | exact fun _ hk => ⟨hk.1.2, fun e_ => hk.2 (e_.trans (own_len _ _ _ _))⟩ | exact fun _ hk => ⟨fun e_ => hk.1.2 (e_.trans (own_len _ _ _ _)), fun e_ => hk.2 (e_.trans (own_len _ _ _ _))⟩)) hg hat); have n2_ := Aside0.mk (hb); have n3_ := Aside0.mk (ho); clear HO_7; clear HO229; clear HB; clear HO237; have HO_7 := n0_; have HO229 := n1_; have HB := n2_; have HO240 := n3_; clear n0_ n1_ n2_ n3_; clear ho hb hg hat; obtain ⟨Ao34, co34, eo34⟩ := Kd.R_slice HO240.out; subst eo34) | ((with_reducible refine gate_builtin (b := .append) (xs := #[.tmp 88, .tmp 89]) rfl ?_); at_builtin; refine Kd.R_append_rows Kd.bool (w0 := w) w.heap.size rfl (.tmp 88) (.tmp 89) 26 4 (.bool false) 1 rfl Try.underlying26 info4 rfl (by decide) (by omega) u7 x7_1 y238 _ _ _ (fun k_ => some k_ ≠ (.slice Ao32 t227.length co32 : Value).ownBlock ∧ some k_ ≠ (.slice Ao34 y238.length co34 : Value).ownBlock) (fun _ => False) rfl rfl ?aO ?aR (fun _ _ h => h) (fun _ h => h.elim) ?aF ?aB ?aS ?aL ?_; (case aR => repeat (first | exact (Kd.R_reads' HO240.out).2.2 | (with_reducible refine Kd.C_alloc ?_ _) | (with_reducible refine Kd.C_drewN ?_ _) | (with_reducible refine Kd.C_drew ?_))); (case aB => exact (by repeat (first | (with_reducible first | exact HB.out | apply below_alloc | apply pw_below_drewN | apply below_drew1) | exact HB.out))); (case aF => exact (fun k_ hk => ⟨Kd.fresh' (Kd.R_lt (by (with_reducible repeat (first | apply Kd.R_alloc | apply Kd.R_drewN | apply Kd.R_drew)); exact HO229.out)) k_ hk, Kd.fresh' (Kd.R_lt (by (with_reducible repeat (first | apply Kd.R_alloc | apply Kd.R_drewN | apply Kd.R_drew)); exact HO240.out)) k_ hk⟩)); (case aO => exact (by (with_reducible repeat (first | apply Kd.R_alloc | apply Kd.R_drewN | apply Kd.R_drew)); exact HO_7.out)); (case aS => exact (below_size (by repeat (first | (with_reducible first | exact HB.out | apply below_alloc | apply pw_below_drewN | apply below_drew1) | exact HB.out)))); (case aL => have := LMc28.out; omega); intro v242 w33 ho hb hg hat; rw [← Ny241.out] at ho; have n0_ := Aside0.mk (Kd.R_after (ok := (fun k_ => some k_ ≠ (.slice Ao34 y238.length co34 : Value).ownBlock)) (by (with_reducible repeat (first | apply Kd.R_alloc | apply Kd.R_drewN | apply Kd.R_drew)); exact Kd.R_mono HO229.out (fun _ hk => ⟨hk.2, hk.1⟩)) hg hat); have n1_ := Aside0.mk (Kd.R_after (ok := (fun k_ => some k_ ≠ (.slice Ao32 t227.length co32 : Value).ownBlock)) (by (with_reducible repeat (first | apply Kd.R_alloc | apply Kd.R_drewN | apply Kd.R_drew)); exact Kd.R_mono HO240.out (fun _ hk => ⟨hk.2, hk.1⟩)) hg hat); have n2_ := Aside0.mk (hb); have n3_ := Aside0.mk (ho); clear HO229; clear HO240; clear HB; clear HO_7; have HO229 := n0_; have HO240 := n1_; have HB := n2_; have HO243 := n3_; clear n0_ n1_ n2_ n3_; clear ho hb hg hat))
                        go_roundg kj6
                        case measure => have := HK1.out; have := HJ6.out; omega
                        case rel => exact ⟨(y241), (wrap64 (x8_1 + 1)), (by first | rfl | (simp; done) | (simp [*]; done) | (simp; omega)), H', ⟨by have := HK1.out; have := HJ6.out; omega⟩, ⟨by (with_reducible repeat (first | apply Kd.R_alloc | apply Kd.R_drewN | apply Kd.R_drew)); exact Kd.R_mono HO243.out (fun _ hk => trivial)⟩, ⟨by repeat (first | (with_reducible first | exact HB.out | apply below_alloc | apply pw_below_drewN | apply below_drew1) | exact HB.out)⟩⟩
                      · rw [if_neg c28] at H
                        exact absurd H (by simp)
                    · rw [if_neg c27] at H
                      exact absurd H (by simp)
                  · rw [if_neg c25] at H
                    have c25b0 : ((Int.tmod x9_6 6) == 2) = false := beq_eq_false_iff_ne.mpr c25
                    have c25b1 : ((Int.tmod x9_6 6) != 2) = true := bne_iff_ne.mpr c25
                    by_cases c35 : (Int.tmod x9_6 6) = 3
                    · rw [if_pos c35] at H
                      have c35b0 : ((Int.tmod x9_6 6) == 3) = true := beq_iff_eq.mpr c35
                      have c35b1 : ((Int.tmod x9_6 6) != 3) = false := bne_eq_false_iff_eq.mpr c35
                      clear c35
                      replace H := Option.bind_eq_some_iff.mp H
                      obtain ⟨t244, A360, H⟩ := H
                      replace H : (if t244.length + t227.length < 140737488355328 then ((some (t244 ++ t227 : List Bool)).bind fun y247 => (if x7_1.length + y247.length < 140737488355328 then (signalmanlaw05_stream.l0 kj6 l0 l1 l2 (x7_1 ++ y247) (wrap64 (x8_1 + 1))) else (none))) else (none)) = some r := H
                      have A36 := Aside0.mk A360
                      clear A360
                      by_cases c37 : t244.length + t227.length < 140737488355328
                      · rw [if_pos c37] at H
                        have LMc37 := Aside0.mk c37
                        clear c37
                        obtain ⟨y247, hy247⟩ : ∃ y_ : List Bool, y_ = (t244 ++ t227) := ⟨_, rfl⟩
                        replace H : (if x7_1.length + y247.length < 140737488355328 then (signalmanlaw05_stream.l0 kj6 l0 l1 l2 (x7_1 ++ y247) (wrap64 (x8_1 + 1))) else (none)) = some r := by first | (rw [hy247]; with_reducible exact H) | (have H2_ := (Option.bind_some _ _).symm.trans H; rw [hy247]; with_reducible exact H2_) | (have H2_ := (Option.bind_some _ _).symm.trans H; with_reducible exact H2_) | with_reducible exact H | (rw [hy247]; exact H) | exact H
                        have Ny247 := Aside0.mk hy247
                        clear hy247
                        by_cases c38 : x7_1.length + y247.length < 140737488355328
                        · rw [if_pos c38] at H
                          have LMc38 := Aside0.mk c38
                          clear c38
                          obtain ⟨y250, hy250⟩ : ∃ y_ : List Bool, y_ = (x7_1 ++ y247) := ⟨_, rfl⟩
                          replace H : (signalmanlaw05_stream.l0 kj6 l0 l1 l2 y250 (wrap64 (x8_1 + 1))) = some r := by first | (rw [hy250]; with_reducible exact H) | (have H2_ := (Option.bind_some _ _).symm.trans H; rw [hy250]; with_reducible exact H2_) | (have H2_ := (Option.bind_some _ _).symm.trans H; with_reducible exact H2_) | with_reducible exact H | (rw [hy250]; exact H) | exact H
                          have Ny250 := Aside0.mk hy250
                          clear hy250
                          have H' := Aside0.mk H
                          clear H
                          have p226 : 0 ≤ (x8_1 : Int) := of_decide_eq_true (by first | (with_reducible assumption) | assumption)
                          have q226 : x8_1 < (l0.length : Int) := of_decide_eq_true (by first | (with_reducible assumption) | assumption)
                          obtain ⟨ad226, A226_0, c226_0, e226, hx226_0, hl226_0, hi226_0⟩ := at_L2 HR0.out x8_1 p226 q226
                          cases e226
                          replace hx226_0 := (HB.out.cell (World.block_lt_of_cell? w _ hx226_0)).trans hx226_0
                          have HR226_0 := Aside0.mk hi226_0
                          have HC226_0 := Aside0.mk hl226_0
                          clear hi226_0 hl226_0
                          replace p226 := eq_true p226
                          replace q226 := eq_true q226
                          go_wp2_with (first | ((with_reducible refine gate_callee (f := 14) rfl ?_); refine goesL_ (some 31) rfl rfl Try.func14 (by kernel_rfl) rfl #[.slice A226_0 (rd_L2 l0 x8_1).length c226_0] rfl (by (try simp only [List.map_toArray, List.map_cons, List.map_nil]); first | done | rfl | (simp only [List.length_drop, List.length_take]; rfl) | (simp [Act.eval, *]; done)) ?_; (with_reducible refine (signalmanref01_Frame.calls kj6 _ _ (rd_L2 l0 x8_1) t227 _ ?side1 ?side2 A12.out).mono ?_); (case side1 => repeat (first | exact (Kd.C_below HR226_0.out HB.out) | (with_reducible refine Kd.C_alloc ?_ _) | (with_reducible refine Kd.C_drewN ?_ _) | (with_reducible refine Kd.C_drew ?_))); (case side2 => exact HC226_0.out); rintro e w39 ⟨v228, rfl, ho0, hb⟩; refine ⟨_, rfl, ?_⟩; have n0_ := Aside0.mk (Kd.R_elder' (by (with_reducible repeat (first | apply Kd.R_alloc | apply Kd.R_drewN | apply Kd.R_drew)); exact HO_7.out) (Kd.R_base ho0) hb); have n1_ := Aside0.mk (Kd.R_lower (Kd.R_new' ho0 (Kd.R_lt (by (with_reducible repeat (first | apply Kd.R_alloc | apply Kd.R_drewN | apply Kd.R_drew)); exact HO_7.out))) (below_size (by repeat (first | (with_reducible first | exact HB.out | apply below_alloc | apply pw_below_drewN | apply below_drew1) | exact HB.out)))); have n2_ := Aside0.mk (below_step (by repeat (first | (with_reducible first | exact HB.out | apply below_alloc | apply pw_below_drewN | apply below_drew1) | exact HB.out)) hb); clear HO_7; clear HB; have HO_7 := n0_; have HO229 := n1_; have HB := n2_; clear n0_ n1_ n2_; (try clear hb); (try clear hb2); (try clear hk); (try clear hi); (try clear ho0)) | ((with_reducible refine gate_callee (f := 17) rfl ?_); refine goesL_ (some 60) rfl rfl Try.func17 (by kernel_rfl) rfl #[.slice A1 l1.length c1] rfl (by (try simp only [List.map_toArray, List.map_cons, List.map_nil]); first | done | rfl | (simp only [List.length_drop, List.length_take]; rfl) | (simp [Act.eval, *]; done)) ?_; (with_reducible refine (signalmanref01_Bits.calls kj6 _ _ l1 t244 _ ?side1 ?side2 A36.out).mono ?_); (case side1 => repeat (first | exact (Kd.C_below HR1.out HB.out) | (with_reducible refine Kd.C_alloc ?_ _) | (with_reducible refine Kd.C_drewN ?_ _) | (with_reducible refine Kd.C_drew ?_))); (case side2 => exact HC1.out); rintro e w40 ⟨v245, rfl, ho0, hb⟩; refine ⟨_, rfl, ?_⟩; have n0_ := Aside0.mk (Kd.R_elder' (by (with_reducible repeat (first | apply Kd.R_alloc | apply Kd.R_drewN | apply Kd.R_drew)); exact HO_7.out) (Kd.R_base ho0) hb); have n1_ := Aside0.mk (Kd.R_elder' (by (with_reducible repeat (first | apply Kd.R_alloc | apply Kd.R_drewN | apply Kd.R_drew)); exact HO229.out) (Kd.R_base ho0) hb); have n2_ := Aside0.mk (Kd.R_lower (Kd.R_new' (Kd.R_new' ho0 (Kd.R_lt (by (with_reducible repeat (first | apply Kd.R_alloc | apply Kd.R_drewN | apply Kd.R_drew)); exact HO_7.out))) (Kd.R_lt (by (with_reducible repeat (first | apply Kd.R_alloc | apply Kd.R_drewN | apply Kd.R_drew)); exact HO229.out))) (below_size (by repeat (first | (with_reducible first | exact HB.out | apply below_alloc | apply pw_below_drewN | apply below_drew1) | exact HB.out)))); have n3_ := Aside0.mk (below_step (by repeat (first | (with_reducible first | exact HB.out | apply below_alloc | apply pw_below_drewN | apply below_drew1) | exact HB.out)) hb); clear HO_7; clear HO229; clear HB; have HO_7 := n0_; have HO229 := n1_; have HO246 := n2_; have HB := n3_; clear n0_ n1_ n2_ n3_; (try clear hb); (try clear hb2); (try clear hk); (try clear hi); (try clear ho0); obtain ⟨Ao42, co42, eo42⟩ := Kd.R_slice HO229.out; subst eo42) | ((with_reducible refine gate_builtin (b := .append) (xs := #[.tmp 60, .tmp 61]) rfl ?_); at_builtin; refine Kd.R_append_rows Kd.bool (w0 := w) w.heap.size rfl (.tmp 60) (.tmp 61) 26 4 (.bool false) 1 rfl Try.underlying26 info4 rfl (by decide) (by omega) v245 t244 t227 _ _ _ (fun k_ => some k_ ≠ (u7 : Value).ownBlock ∧ some k_ ≠ (.slice Ao42 t227.length co42 : Value).ownBlock) (fun _ => False) rfl rfl ?aO ?aR (fun _ _ h => h) (fun _ h => h.elim) ?aF ?aB ?aS ?aL ?_; (case aR => repeat (first | exact (Kd.R_reads' HO229.out).2.2 | (with_reducible refine Kd.C_alloc ?_ _) | (with_reducible refine Kd.C_drewN ?_ _) | (with_reducible refine Kd.C_drew ?_))); (case aB => exact (by repeat (first | (with_reducible first | exact HB.out | apply below_alloc | apply pw_below_drewN | apply below_drew1) | exact HB.out))); (case aF => exact (fun k_ hk => ⟨Kd.fresh' (Kd.R_lt (by (with_reducible repeat (first | apply Kd.R_alloc | apply Kd.R_drewN | apply Kd.R_drew)); exact HO_7.out)) k_ hk, Kd.fresh' (Kd.R_lt (by (with_reducible repeat (first | apply Kd.R_alloc | apply Kd.R_drewN | apply Kd.R_drew)); exact HO229.out)) k_ hk⟩)); (case aO => exact (by (with_reducible repeat (first | apply Kd.R_alloc | apply Kd.R_drewN | apply Kd.R_drew)); exact Kd.R_mono HO246.out (by first | exact fun _ hk => ⟨hk.1.2, hk.2⟩ | exact fun _ hk => ⟨fun e_ => hk.1.2 (e_.trans (own_len _ _ _ _)), hk.2⟩ | exact fun _ hk => ⟨hk.1.2, fun e_ => hk.2 (e_.trans (own_len _ _ _ _))⟩ | exact fun _ hk => ⟨fun e_ => hk.1.2 (e_.trans (own_len _ _ _ _)), fun e_ => hk.2 (e_.trans (own_len _ _ _ _))⟩))); (case aS => exact (below_size (by repeat (first | (with_reducible first | exact HB.out | apply below_alloc | apply pw_below_drewN | apply below_drew1) | exact HB.out)))); (case aL => have := LMc37.out; omega); intro v248 w41 ho hb hg hat; rw [← Ny247.out] at ho; have n0_ := Aside0.mk (Kd.R_after (ok := (fun k_ => some k_ ≠ (.slice Ao42 t227.length co42 : Value).ownBlock)) (by (with_reducible repeat (first | apply Kd.R_alloc | apply Kd.R_drewN | apply Kd.R_drew)); exact Kd.R_mono HO_7.out (by first | exact fun _ hk => ⟨hk.1.2, hk.2⟩ | exact fun _ hk => ⟨fun e_ => hk.1.2 (e_.trans (own_len _ _ _ _)), hk.2⟩ | exact fun _ hk => ⟨hk.1.2, fun e_ => hk.2 (e_.trans (own_len _ _ _ _))⟩ | exact fun _ hk => ⟨fun e_ => hk.1.2 (e_.trans (own_len _ _ _ _)), fun e_ => hk.2 (e_.trans (own_len _ _ _ _))⟩)) hg hat); have n1_ := Aside0.mk (Kd.R_after (ok := (fun k_ => some k_ ≠ (u7 : Value).ownBlock)) (by (with_reducible repeat (first | apply Kd.R_alloc | apply Kd.R_drewN | apply Kd.R_drew)); exact Kd.R_mono HO229.out (by first | exact fun _ hk => ⟨hk.1.2, hk.2⟩ | exact fun _ hk => ⟨fun e_ => hk.1.2 (e_.trans (own_len _ _ _ _)), hk.2⟩ | exact fun _ hk => ⟨hk.1.2, fun e_ => hk.2 (e_.trans (own_len _ _ _ _))⟩ | exact fun _ hk => ⟨fun e_ => hk.1.2 (e_.trans (own_len _ _ _ _)), fun e_ => hk.2 (e_.trans (own_len _ _ _ _))⟩)) hg hat); have n2_ := Aside0.mk (hb); have n3_ := Aside0.mk (ho); clear HO_7; clear HO229; clear HB; clear HO246; have HO_7 := n0_; have HO229 := n1_; have HB := n2_; have HO249 := n3_; clear n0_ n1_ n2_ n3_; clear ho hb hg hat; obtain ⟨Ao44, co44, eo44⟩ := Kd.R_slice HO249.out; subst eo44) | ((with_reducible refine gate_builtin (b := .append) (xs := #[.tmp 88, .tmp 89]) rfl ?_); at_builtin; refine Kd.R_append_rows Kd.bool (w0 := w) w.heap.size rfl (.tmp 88) (.tmp 89) 26 4 (.bool false) 1 rfl Try.underlying26 info4 rfl (by decide) (by omega) u7 x7_1 y247 _ _ _ (fun k_ => some k_ ≠ (.slice Ao42 t227.length co42 : Value).ownBlock ∧ some k_ ≠ (.slice Ao44 y247.length co44 : Value).ownBlock) (fun _ => False) rfl rfl ?aO ?aR (fun _ _ h => h) (fun _ h => h.elim) ?aF ?aB ?aS ?aL ?_; (case aR => repeat (first | exact (Kd.R_reads' HO249.out).2.2 | (with_reducible refine Kd.C_alloc ?_ _) | (with_reducible refine Kd.C_drewN ?_ _) | (with_reducible refine Kd.C_drew ?_))); (case aB => exact (by repeat (first | (with_reducible first | exact HB.out | apply below_alloc | apply pw_below_drewN | apply below_drew1) | exact HB.out))); (case aF => exact (fun k_ hk => ⟨Kd.fresh' (Kd.R_lt (by (with_reducible repeat (first | apply Kd.R_alloc | apply Kd.R_drewN | apply Kd.R_drew)); exact HO229.out)) k_ hk, Kd.fresh' (Kd.R_lt (by (with_reducible repeat (first | apply Kd.R_alloc | apply Kd.R_drewN | apply Kd.R_drew)); exact HO249.out)) k_ hk⟩)); (case aO => exact (by (with_reducible repeat (first | apply Kd.R_alloc | apply Kd.R_drewN | apply Kd.R_drew)); exact HO_7.out)); (case aS => exact (below_size (by repeat (first | (with_reducible first | exact HB.out | apply below_alloc | apply pw_below_drewN | apply below_drew1) | exact HB.out)))); (case aL => have := LMc38.out; omega); intro v251 w43 ho hb hg hat; rw [← Ny250.out] at ho; have n0_ := Aside0.mk (Kd.R_after (ok := (fun k_ => some k_ ≠ (.slice Ao44 y247.length co44 : Value).ownBlock)) (by (with_reducible repeat (first | apply Kd.R_alloc | apply Kd.R_drewN | apply Kd.R_drew)); exact Kd.R_mono HO229.out (fun _ hk => ⟨hk.2, hk.1⟩)) hg hat); have n1_ := Aside0.mk (Kd.R_after (ok := (fun k_ => some k_ ≠ (.slice Ao42 t227.length co42 : Value).ownBlock)) (by (with_reducible repeat (first | apply Kd.R_alloc | apply Kd.R_drewN | apply Kd.R_drew)); exact Kd.R_mono HO249.out (fun _ hk => ⟨hk.2, hk.1⟩)) hg hat); have n2_ := Aside0.mk (hb); have n3_ := Aside0.mk (ho); clear HO229; clear HO249; clear HB; clear HO_7; have HO229 := n0_; have HO249 := n1_; have HB := n2_; have HO252 := n3_; clear n0_ n1_ n2_ n3_; clear ho hb hg hat))
                          go_roundg kj6
                          case measure => have := HK1.out; have := HJ6.out; omega
                          case rel => exact ⟨(y250), (wrap64 (x8_1 + 1)), (by first | rfl | (simp; done) | (simp [*]; done) | (simp; omega)), H', ⟨by have := HK1.out; have := HJ6.out; omega⟩, ⟨by (with_reducible repeat (first | apply Kd.R_alloc | apply Kd.R_drewN | apply Kd.R_drew)); exact Kd.R_mono HO252.out (fun _ hk => trivial)⟩, ⟨by repeat (first | (with_reducible first | exact HB.out | apply below_alloc | apply pw_below_drewN | apply below_drew1) | exact HB.out)⟩⟩
                        · rw [if_neg c38] at H
                          exact absurd H (by simp)
                      · rw [if_neg c37] at H
                        exact absurd H (by simp)
                    · rw [if_neg c35] at H
                      have c35b0 : ((Int.tmod x9_6 6) == 3) = false := beq_eq_false_iff_ne.mpr c35
                      have c35b1 : ((Int.tmod x9_6 6) != 3) = true := bne_iff_ne.mpr c35
                      by_cases c45 : (Int.tmod x9_6 6) = 4
                      · rw [if_pos c45] at H
                        have c45b0 : ((Int.tmod x9_6 6) == 4) = true := beq_iff_eq.mpr c45
                        have c45b1 : ((Int.tmod x9_6 6) != 4) = false := bne_eq_false_iff_eq.mpr c45
                        clear c45
                        have H' := Aside0.mk H
                        clear H
                        have p226 : 0 ≤ (x8_1 : Int) := of_decide_eq_true (by first | (with_reducible assumption) | assumption)
                        have q226 : x8_1 < (l0.length : Int) := of_decide_eq_true (by first | (with_reducible assumption) | assumption)
                        obtain ⟨ad226, A226_0, c226_0, e226, hx226_0, hl226_0, hi226_0⟩ := at_L2 HR0.out x8_1 p226 q226
                        cases e226
                        replace hx226_0 := (HB.out.cell (World.block_lt_of_cell? w _ hx226_0)).trans hx226_0
                        have HR226_0 := Aside0.mk hi226_0
                        have HC226_0 := Aside0.mk hl226_0
                        clear hi226_0 hl226_0
                        replace p226 := eq_true p226
                        replace q226 := eq_true q226
                        go_wp2_with (first | ((with_reducible refine gate_callee (f := 14) rfl ?_); refine goesL_ (some 31) rfl rfl Try.func14 (by kernel_rfl) rfl #[.slice A226_0 (rd_L2 l0 x8_1).length c226_0] rfl (by (try simp only [List.map_toArray, List.map_cons, List.map_nil]); first | done | rfl | (simp only [List.length_drop, List.length_take]; rfl) | (simp [Act.eval, *]; done)) ?_; (with_reducible refine (signalmanref01_Frame.calls kj6 _ _ (rd_L2 l0 x8_1) t227 _ ?side1 ?side2 A12.out).mono ?_); (case side1 => repeat (first | exact (Kd.C_below HR226_0.out HB.out) | (with_reducible refine Kd.C_alloc ?_ _) | (with_reducible refine Kd.C_drewN ?_ _) | (with_reducible refine Kd.C_drew ?_))); (case side2 => exact HC226_0.out); rintro e w46 ⟨v228, rfl, ho0, hb⟩; refine ⟨_, rfl, ?_⟩; have n0_ := Aside0.mk (Kd.R_elder' (by (with_reducible repeat (first | apply Kd.R_alloc | apply Kd.R_drewN | apply Kd.R_drew)); exact HO_7.out) (Kd.R_base ho0) hb); have n1_ := Aside0.mk (Kd.R_lower (Kd.R_new' ho0 (Kd.R_lt (by (with_reducible repeat (first | apply Kd.R_alloc | apply Kd.R_drewN | apply Kd.R_drew)); exact HO_7.out))) (below_size (by repeat (first | (with_reducible first | exact HB.out | apply below_alloc | apply pw_below_drewN | apply below_drew1) | exact HB.out)))); have n2_ := Aside0.mk (below_step (by repeat (first | (with_reducible first | exact HB.out | apply below_alloc | apply pw_below_drewN | apply below_drew1) | exact HB.out)) hb); clear HO_7; clear HB; have HO_7 := n0_; have HO229 := n1_; have HB := n2_; clear n0_ n1_ n2_; (try clear hb); (try clear hb2); (try clear hk); (try clear hi); (try clear ho0)))
                        go_loopg [10, 11] kj6 (fun kq v10 v11 w' => ∃ (x10_3 : List Bool) (x11_3 : Int), v11 = .int .i64 x11_3 ∧ Aside0 (signalmanlaw05_stream.l1 kq l0 l1 l2 x7_1 x8_1 x9_6 x10_3 x11_3 = some r) ∧ Aside0 (kq ≤ kj6) ∧ Aside0 (Kd.R Kd.bool 4 w' w.heap.size (fun k_ => some k_ ≠ (v10 : Value).ownBlock) u7 x7_1) ∧ Aside0 (Kd.R Kd.bool 4 w' w.heap.size (fun k_ => some k_ ≠ (u7 : Value).ownBlock) v10 x10_3) ∧ Aside0 (Below w.heap.size w w'))
                        case atStart => exact ⟨(t227), (0), (by first | rfl | (simp; done) | (simp [*]; done) | (simp; omega)), H', ⟨Nat.le_refl _⟩, ⟨by (with_reducible repeat (first | apply Kd.R_alloc | apply Kd.R_drewN | apply Kd.R_drew)); exact Kd.R_mono HO_7.out (fun _ hk => (by first | exact hk.2 | exact fun e_ => hk.2 (e_.trans (own_len _ _ _ _))))⟩, ⟨by (with_reducible repeat (first | apply Kd.R_alloc | apply Kd.R_drewN | apply Kd.R_drew)); exact Kd.R_mono HO229.out (fun _ hk => (by first | exact hk.2 | exact fun e_ => hk.2 (e_.trans (own_len _ _ _ _))))⟩, ⟨by repeat (first | (with_reducible first | exact HB.out | apply below_alloc | apply pw_below_drewN | apply below_drew1) | exact HB.out)⟩⟩
                        case round =>
                          clear H'
                          try clear c1
                          try clear p1
                          try clear q1
                          try clear hx1
                          try clear c2
                          try clear p2
                          try clear q2
                          try clear hx2
                          try clear c3
                          try clear c4
                          try clear c6
                          try clear c6b0
                          try clear p6
                          try clear c8
                          try clear c8b0
                          try clear c9
                          try clear c9b0
                          try clear c10
                          try clear c10b0
                          try clear c11
                          try clear c11b0
                          try clear c13
                          try clear c13b0
                          try clear c13b1
                          try clear c14
                          try clear c14b0
                          try clear c14b1
                          try clear c14b2
                          try clear c16
                          try clear c16b0
                          try clear c17
                          try clear c17b0
                          try clear p18
                          try clear q18
                          try clear hx18
                          try clear hf18
                          try clear c19
                          try clear c22
                          try clear p22
                          try clear q22
                          try clear hx22
                          try clear p23
                          try clear q23
                          try clear hx23
                          try clear c25
                          try clear c25b0
                          try clear c25b1
                          try clear c27
                          try clear c28
                          try clear c35
                          try clear c35b0
                          try clear c35b1
                          try clear c37
                          try clear c38
                          try clear c45
                          try clear c45b0
                          try clear c45b1
                          try clear hx18_0
                          try clear hx225_0
                          try clear hx226_0
                          try clear hx230_0
                          try clear p18
                          try clear p2
                          try clear p225
                          try clear p226
                          try clear p230
                          try clear q18
                          try clear q2
                          try clear q225
                          try clear q226
                          try clear q230
                          obtain ⟨x10_3, x11_3, rfl, HA, HK3, HO_7, HO_10, HB⟩ := hrel
                          cases gk with
                          | zero => exact absurd HA.out (by simp [signalmanlaw05_stream.l1])
                          | succ k3 =>
                            have H := HA.out
                            clear HA
                            simp only [signalmanlaw05_stream.l1] at H
                            by_cases c47 : x11_3 < (wrap64 (7 + (Int.tmod (wrap64 (x9_6)) 150)))
                            · rw [if_pos c47] at H
                              have c47b0 : decide (x11_3 < (wrap64 (7 + (Int.tmod (wrap64 (x9_6)) 150)))) = true := decide_eq_true c47
                              clear c47
                              by_cases c48 : x10_3.length < 140737488355328
                              · rw [if_pos c48] at H
                                have LMc48 := Aside0.mk c48
                                clear c48
                                obtain ⟨y253, hy253⟩ : ∃ y_ : List Bool, y_ = (x10_3 ++ [true]) := ⟨_, rfl⟩
                                replace H : (signalmanlaw05_stream.l1 k3 l0 l1 l2 x7_1 x8_1 x9_6 y253 (wrap64 (x11_3 + 1))) = some r := by first | (rw [hy253]; with_reducible exact H) | (have H2_ := (Option.bind_some _ _).symm.trans H; rw [hy253]; with_reducible exact H2_) | (have H2_ := (Option.bind_some _ _).symm.trans H; with_reducible exact H2_) | with_reducible exact H | (rw [hy253]; exact H) | exact H
                                have Ny253 := Aside0.mk hy253
                                clear hy253
                                have H' := Aside0.mk H
                                clear H
                                go_wp2_with (first | ((with_reducible refine gate_builtin (b := .append) (xs := #[.tmp 73, .tmp 74]) rfl ?_); at_builtin; refine Kd.R_append Kd.bool (w0 := w) w.heap.size rfl (.tmp 73) (.tmp 74) 26 4 (.bool false) 1 rfl Try.underlying26 info4 rfl (by decide) (by omega) u10 x10_3 true [.bool true] (fun k_ => some k_ ≠ (u7 : Value).ownBlock) (fun _ => False) rfl rfl ?aP (fun _ hk => hk.elim) ?aF ?aO ?aB ?aS ?aL ?_; (case aP => exact rfl); (case aB => exact (by repeat (first | (with_reducible first | exact HB.out | apply below_alloc | apply pw_below_drewN | apply below_drew1) | exact HB.out))); (case aF => exact (fun k_ hk => Kd.fresh' (Kd.R_lt (by (with_reducible repeat (first | apply Kd.R_alloc | apply Kd.R_drewN | apply Kd.R_drew)); exact HO_7.out)) k_ hk)); (case aO => exact (by (with_reducible repeat (first | apply Kd.R_alloc | apply Kd.R_drewN | apply Kd.R_drew)); exact HO_10.out)); (case aS => exact (below_size (by repeat (first | (with_reducible first | exact HB.out | apply below_alloc | apply pw_below_drewN | apply below_drew1) | exact HB.out)))); (case aL => have := LMc48.out; omega); intro v254 w49 ho hb hg hat; rw [← Ny253.out] at ho; have n0_ := Aside0.mk (Kd.R_after (ok := (fun _ => True)) (by (with_reducible repeat (first | apply Kd.R_alloc | apply Kd.R_drewN | apply Kd.R_drew)); exact Kd.R_mono HO_7.out (fun _ hk => ⟨trivial, hk⟩)) hg hat); have n1_ := Aside0.mk (hb); have n2_ := Aside0.mk (ho); clear HO_7; clear HB; clear HO_10; have HO_7 := n0_; have HB := n1_; have HO255 := n2_; clear n0_ n1_ n2_; clear ho hb hg hat))
                                go_roundg k3
                                case measure => have := HK1.out; have := HJ6.out; have := HK3.out; omega
                                case rel => exact ⟨(y253), (wrap64 (x11_3 + 1)), (by first | rfl | (simp; done) | (simp [*]; done) | (simp; omega)), H', ⟨by have := HK1.out; have := HJ6.out; have := HK3.out; omega⟩, ⟨by (with_reducible repeat (first | apply Kd.R_alloc | apply Kd.R_drewN | apply Kd.R_drew)); exact Kd.R_mono HO_7.out (fun _ hk => (by first | exact hk.2 | exact fun e_ => hk.2 (e_.trans (own_len _ _ _ _))))⟩, ⟨by (with_reducible repeat (first | apply Kd.R_alloc | apply Kd.R_drewN | apply Kd.R_drew)); exact HO255.out⟩, ⟨by repeat (first | (with_reducible first | exact HB.out | apply below_alloc | apply pw_below_drewN | apply below_drew1) | exact HB.out)⟩⟩
                              · rw [if_neg c48] at H
                                exact absurd H (by simp)
                            · rw [if_neg c47] at H
                              have c47b0 : decide (x11_3 < (wrap64 (7 + (Int.tmod (wrap64 (x9_6)) 150)))) = false := decide_eq_false c47
                              clear c47
                              by_cases c50 : x7_1.length + x10_3.length < 140737488355328
                              · rw [if_pos c50] at H
                                have LMc50 := Aside0.mk c50
                                clear c50
                                obtain ⟨y256, hy256⟩ : ∃ y_ : List Bool, y_ = (x7_1 ++ x10_3) := ⟨_, rfl⟩
                                replace H : (signalmanlaw05_stream.l0 k3 l0 l1 l2 y256 (wrap64 (x8_1 + 1))) = some r := by first | (rw [hy256]; with_reducible exact H) | (have H2_ := (Option.bind_some _ _).symm.trans H; rw [hy256]; with_reducible exact H2_) | (have H2_ := (Option.bind_some _ _).symm.trans H; with_reducible exact H2_) | with_reducible exact H | (rw [hy256]; exact H) | exact H
                                have Ny256 := Aside0.mk hy256
                                clear hy256
                                have H' := Aside0.mk H
                                clear H
                                obtain ⟨Ao52, co52, eo52⟩ := Kd.R_slice HO_10.out
                                subst eo52
                                go_wp2_with (first | ((with_reducible refine gate_builtin (b := .append) (xs := #[.tmp 88, .tmp 89]) rfl ?_); at_builtin; refine Kd.R_append_rows Kd.bool (w0 := w) w.heap.size rfl (.tmp 88) (.tmp 89) 26 4 (.bool false) 1 rfl Try.underlying26 info4 rfl (by decide) (by omega) u7 x7_1 x10_3 _ _ _ (fun k_ => some k_ ≠ (.slice Ao52 x10_3.length co52 : Value).ownBlock) (fun _ => False) rfl rfl ?aO ?aR (fun _ _ h => h) (fun _ h => h.elim) ?aF ?aB ?aS ?aL ?_; (case aR => repeat (first | exact (Kd.R_reads' HO_10.out).2.2 | (with_reducible refine Kd.C_alloc ?_ _) | (with_reducible refine Kd.C_drewN ?_ _) | (with_reducible refine Kd.C_drew ?_))); (case aB => exact (by repeat (first | (with_reducible first | exact HB.out | apply below_alloc | apply pw_below_drewN | apply below_drew1) | exact HB.out))); (case aF => exact (fun k_ hk => Kd.fresh' (Kd.R_lt (by (with_reducible repeat (first | apply Kd.R_alloc | apply Kd.R_drewN | apply Kd.R_drew)); exact HO_10.out)) k_ hk)); (case aO => exact (by (with_reducible repeat (first | apply Kd.R_alloc | apply Kd.R_drewN | apply Kd.R_drew)); exact HO_7.out)); (case aS => exact (below_size (by repeat (first | (with_reducible first | exact HB.out | apply below_alloc | apply pw_below_drewN | apply below_drew1) | exact HB.out)))); (case aL => have := LMc50.out; omega); intro v257 w51 ho hb hg hat; rw [← Ny256.out] at ho; have n0_ := Aside0.mk (Kd.R_after (ok := (fun _ => True)) (by (with_reducible repeat (first | apply Kd.R_alloc | apply Kd.R_drewN | apply Kd.R_drew)); exact Kd.R_mono HO_10.out (fun _ hk => ⟨trivial, hk⟩)) hg hat); have n1_ := Aside0.mk (hb); have n2_ := Aside0.mk (ho); clear HO_10; clear HB; clear HO_7; have HO_10 := n0_; have HB := n1_; have HO258 := n2_; clear n0_ n1_ n2_; clear ho hb hg hat))
                                go_roundg k3
                                case measure => have := HK1.out; have := HJ6.out; have := HK3.out; omega
                                case rel => exact ⟨(y256), (wrap64 (x8_1 + 1)), (by first | rfl | (simp; done) | (simp [*]; done) | (simp; omega)), H', ⟨by have := HK1.out; have := HJ6.out; have := HK3.out; omega⟩, ⟨by (with_reducible repeat (first | apply Kd.R_alloc | apply Kd.R_drewN | apply Kd.R_drew)); exact Kd.R_mono HO258.out (fun _ hk => trivial)⟩, ⟨by repeat (first | (with_reducible first | exact HB.out | apply below_alloc | apply pw_below_drewN | apply below_drew1) | exact HB.out)⟩⟩
                              · rw [if_neg c50] at H
                                exact absurd H (by simp)
                      · rw [if_neg c45] at H
                        have c45b0 : ((Int.tmod x9_6 6) == 4) = false := beq_eq_false_iff_ne.mpr c45
                        have c45b1 : ((Int.tmod x9_6 6) != 4) = true := bne_iff_ne.mpr c45
                        by_cases c53 : (Int.tmod x9_6 6) = 5
                        · rw [if_pos c53] at H
                          have c53b0 : ((Int.tmod x9_6 6) == 5) = true := beq_iff_eq.mpr c53
                          have c53b1 : ((Int.tmod x9_6 6) != 5) = false := bne_eq_false_iff_eq.mpr c53
                          clear c53
                          by_cases c54 : (t227.length : Int) = 0
                          · rw [if_pos c54] at H
                            exact absurd H (by simp)
                          · rw [if_neg c54] at H
                            have c54b0 : ((t227.length : Int) == 0) = false := beq_eq_false_iff_ne.mpr c54
                            have c54b1 : ((t227.length : Int) != 0) = true := bne_iff_ne.mpr c54
                            have c54b2 : ¬ (t227 = []) := fun h_ => c54 (by rw [h_]; rfl)
                            obtain ⟨ji55, hji55⟩ : ∃ j_ : Int, (wrap64 ((t227.length : Int) - (Int.tmod (wrap64 (x9_6)) (t227.length : Int)))) = j_ := ⟨_, rfl⟩
                            replace H : (if 0 ≤ (ji55) then (if (ji55) ≤ (t227.length : Int) then ((some (t227.take ((ji55) : Int).toNat : List Bool)).bind fun y259 => (if x7_1.length + y259.length < 140737488355328 then (signalmanlaw05_stream.l0 kj6 l0 l1 l2 (x7_1 ++ y259) (wrap64 (x8_1 + 1))) else (none))) else (none)) else (none)) = some r := by first | (rw [hji55] at H; exact H) | (simp only [hji55] at H ⊢; exact H)
                            (try rw [hji55] at A12)
                            have hji55w : (IntKind.i64.wrap ((t227.length : Int) - (Int.tmod (wrap64 (x9_6)) (t227.length : Int)))) = ji55 := (i64_w _).trans hji55
                            by_cases c56 : 0 ≤ (ji55)
                            · rw [if_pos c56] at H
                              have c56b0 := eq_true c56
                              have c56b1 : decide (0 ≤ (ji55)) = true := decide_eq_true c56
                              clear c56
                              by_cases c57 : (ji55) ≤ (t227.length : Int)
                              · rw [if_pos c57] at H
                                have c57b0 := eq_true c57
                                have c57b1 : decide ((ji55) ≤ (t227.length : Int)) = true := decide_eq_true c57
                                clear c57
                                obtain ⟨y259, hy259⟩ : ∃ y_ : List Bool, y_ = (t227.take ((ji55) : Int).toNat) := ⟨_, rfl⟩
                                replace H : (if x7_1.length + y259.length < 140737488355328 then (signalmanlaw05_stream.l0 kj6 l0 l1 l2 (x7_1 ++ y259) (wrap64 (x8_1 + 1))) else (none)) = some r := by first | (rw [hy259]; with_reducible exact H) | (have H2_ := (Option.bind_some _ _).symm.trans H; rw [hy259]; with_reducible exact H2_) | (have H2_ := (Option.bind_some _ _).symm.trans H; with_reducible exact H2_) | with_reducible exact H | (rw [hy259]; exact H) | exact H
                                have Ny259 := Aside0.mk hy259
                                clear hy259
                                by_cases c58 : x7_1.length + y259.length < 140737488355328
                                · rw [if_pos c58] at H
                                  have LMc58 := Aside0.mk c58
                                  clear c58
                                  obtain ⟨y262, hy262⟩ : ∃ y_ : List Bool, y_ = (x7_1 ++ y259) := ⟨_, rfl⟩
                                  replace H : (signalmanlaw05_stream.l0 kj6 l0 l1 l2 y262 (wrap64 (x8_1 + 1))) = some r := by first | (rw [hy262]; with_reducible exact H) | (have H2_ := (Option.bind_some _ _).symm.trans H; rw [hy262]; with_reducible exact H2_) | (have H2_ := (Option.bind_some _ _).symm.trans H; with_reducible exact H2_) | with_reducible exact H | (rw [hy262]; exact H) | exact H
                                  have Ny262 := Aside0.mk hy262
                                  clear hy262
                                  have H' := Aside0.mk H
                                  clear H
                                  have p226 : 0 ≤ (x8_1 : Int) := of_decide_eq_true (by first | (with_reducible assumption) | assumption)
                                  have q226 : x8_1 < (l0.length : Int) := of_decide_eq_true (by first | (with_reducible assumption) | assumption)
                                  obtain ⟨ad226, A226_0, c226_0, e226, hx226_0, hl226_0, hi226_0⟩ := at_L2 HR0.out x8_1 p226 q226
                                  cases e226
                                  replace hx226_0 := (HB.out.cell (World.block_lt_of_cell? w _ hx226_0)).trans hx226_0
                                  have HR226_0 := Aside0.mk hi226_0
                                  have HC226_0 := Aside0.mk hl226_0
                                  clear hi226_0 hl226_0
                                  replace p226 := eq_true p226
                                  replace q226 := eq_true q226
                                  go_wp2_with (first | ((with_reducible refine gate_callee (f := 14) rfl ?_); refine goesL_ (some 31) rfl rfl Try.func14 (by kernel_rfl) rfl #[.slice A226_0 (rd_L2 l0 x8_1).length c226_0] rfl (by (try simp only [List.map_toArray, List.map_cons, List.map_nil]); first | done | rfl | (simp only [List.length_drop, List.length_take]; rfl) | (simp [Act.eval, *]; done)) ?_; (with_reducible refine (signalmanref01_Frame.calls kj6 _ _ (rd_L2 l0 x8_1) t227 _ ?side1 ?side2 A12.out).mono ?_); (case side1 => repeat (first | exact (Kd.C_below HR226_0.out HB.out) | (with_reducible refine Kd.C_alloc ?_ _) | (with_reducible refine Kd.C_drewN ?_ _) | (with_reducible refine Kd.C_drew ?_))); (case side2 => exact HC226_0.out); rintro e w59 ⟨v228, rfl, ho0, hb⟩; refine ⟨_, rfl, ?_⟩; have n0_ := Aside0.mk (Kd.R_elder' (by (with_reducible repeat (first | apply Kd.R_alloc | apply Kd.R_drewN | apply Kd.R_drew)); exact HO_7.out) (Kd.R_base ho0) hb); have n1_ := Aside0.mk (Kd.R_lower (Kd.R_new' ho0 (Kd.R_lt (by (with_reducible repeat (first | apply Kd.R_alloc | apply Kd.R_drewN | apply Kd.R_drew)); exact HO_7.out))) (below_size (by repeat (first | (with_reducible first | exact HB.out | apply below_alloc | apply pw_below_drewN | apply below_drew1) | exact HB.out)))); have n2_ := Aside0.mk (below_step (by repeat (first | (with_reducible first | exact HB.out | apply below_alloc | apply pw_below_drewN | apply below_drew1) | exact HB.out)) hb); clear HO_7; clear HB; have HO_7 := n0_; have HO229 := n1_; have HB := n2_; clear n0_ n1_ n2_; (try clear hb); (try clear hb2); (try clear hk); (try clear hi); (try clear ho0); obtain ⟨Ao60, co60, eo60⟩ := Kd.R_slice HO229.out; subst eo60; have q61 : ((ji55) : Int) ≤ ((t227.length : Int) : Int) := of_decide_eq_true (by first | (with_reducible assumption) | assumption); obtain ⟨i061, hi061, _, hsz61, _⟩ := info_parts info4; have hcut61 := cut_to (P := Try.prog) 26 4 .i64 Try.underlying26 hi061 Ao60 t227.length co60 (ji55) (of_decide_eq_true (by first | (with_reducible assumption) | assumption)) q61 (Kd.R_reads' HO229.out).2.1; have hr61 := Kd.R_take (m := ((ji55) : Int).toNat) HO229.out (by omega); have hy61 : y259.length = ((ji55) : Int).toNat := (by rw [Ny259.out, List.length_take]; omega); rw [← Ny259.out] at hr61; rw [← hy61] at hr61 hcut61; clear hy61 hi061 hsz61 HO229; have HO261 := Aside0.mk hr61; clear hr61; replace q61 := eq_true q61) | ((with_reducible refine gate_builtin (b := .append) (xs := #[.tmp 88, .tmp 89]) rfl ?_); at_builtin; refine Kd.R_append_rows Kd.bool (w0 := w) w.heap.size rfl (.tmp 88) (.tmp 89) 26 4 (.bool false) 1 rfl Try.underlying26 info4 rfl (by decide) (by omega) u7 x7_1 y259 _ _ _ (fun k_ => some k_ ≠ (.slice Ao60 y259.length co60 : Value).ownBlock) (fun _ => False) rfl rfl ?aO ?aR (fun _ _ h => h) (fun _ h => h.elim) ?aF ?aB ?aS ?aL ?_; (case aR => repeat (first | exact (Kd.R_reads' HO261.out).2.2 | (with_reducible refine Kd.C_alloc ?_ _) | (with_reducible refine Kd.C_drewN ?_ _) | (with_reducible refine Kd.C_drew ?_))); (case aB => exact (by repeat (first | (with_reducible first | exact HB.out | apply below_alloc | apply pw_below_drewN | apply below_drew1) | exact HB.out))); (case aF => exact (fun k_ hk => Kd.fresh' (Kd.R_lt (by (with_reducible repeat (first | apply Kd.R_alloc | apply Kd.R_drewN | apply Kd.R_drew)); exact HO261.out)) k_ hk)); (case aO => exact (by (with_reducible repeat (first | apply Kd.R_alloc | apply Kd.R_drewN | apply Kd.R_drew)); exact Kd.R_mono HO_7.out (fun _ hk => (by first | exact hk.2 | exact fun e_ => hk.2 (e_.trans (own_len _ _ _ _)))))); (case aS => exact (below_size (by repeat (first | (with_reducible first | exact HB.out | apply below_alloc | apply pw_below_drewN | apply below_drew1) | exact HB.out)))); (case aL => have := LMc58.out; omega); intro v263 w62 ho hb hg hat; rw [← Ny262.out] at ho; have n0_ := Aside0.mk (Kd.R_after (ok := (fun _ => True)) (by (with_reducible repeat (first | apply Kd.R_alloc | apply Kd.R_drewN | apply Kd.R_drew)); exact HO261.out) hg hat); have n1_ := Aside0.mk (hb); have n2_ := Aside0.mk (ho); clear HO261; clear HB; clear HO_7; have HO261 := n0_; have HB := n1_; have HO264 := n2_; clear n0_ n1_ n2_; clear ho hb hg hat))
                                  go_roundg kj6
                                  case measure => have := HK1.out; have := HJ6.out; omega
                                  case rel => exact ⟨(y262), (wrap64 (x8_1 + 1)), (by first | rfl | (simp; done) | (simp [*]; done) | (simp; omega)), H', ⟨by have := HK1.out; have := HJ6.out; omega⟩, ⟨by (with_reducible repeat (first | apply Kd.R_alloc | apply Kd.R_drewN | apply Kd.R_drew)); exact Kd.R_mono HO264.out (fun _ hk => trivial)⟩, ⟨by repeat (first | (with_reducible first | exact HB.out | apply below_alloc | apply pw_below_drewN | apply below_drew1) | exact HB.out)⟩⟩
                                · rw [if_neg c58] at H
                                  exact absurd H (by simp)
                              · rw [if_neg c57] at H
                                exact absurd H (by simp)
                            · rw [if_neg c56] at H
                              exact absurd H (by simp)
                        · rw [if_neg c53] at H
                          have c53b0 : ((Int.tmod x9_6 6) == 5) = false := beq_eq_false_iff_ne.mpr c53
                          have c53b1 : ((Int.tmod x9_6 6) != 5) = true := bne_iff_ne.mpr c53
                          by_cases c63 : x7_1.length + t227.length < 140737488355328
                          · rw [if_pos c63] at H
                            have LMc63 := Aside0.mk c63
                            clear c63
                            obtain ⟨y265, hy265⟩ : ∃ y_ : List Bool, y_ = (x7_1 ++ t227) := ⟨_, rfl⟩
                            replace H : (signalmanlaw05_stream.l0 kj6 l0 l1 l2 y265 (wrap64 (x8_1 + 1))) = some r := by first | (rw [hy265]; with_reducible exact H) | (have H2_ := (Option.bind_some _ _).symm.trans H; rw [hy265]; with_reducible exact H2_) | (have H2_ := (Option.bind_some _ _).symm.trans H; with_reducible exact H2_) | with_reducible exact H | (rw [hy265]; exact H) | exact H
                            have Ny265 := Aside0.mk hy265
                            clear hy265
                            have H' := Aside0.mk H
                            clear H
                            have p226 : 0 ≤ (x8_1 : Int) := of_decide_eq_true (by first | (with_reducible assumption) | assumption)
                            have q226 : x8_1 < (l0.length : Int) := of_decide_eq_true (by first | (with_reducible assumption) | assumption)
                            obtain ⟨ad226, A226_0, c226_0, e226, hx226_0, hl226_0, hi226_0⟩ := at_L2 HR0.out x8_1 p226 q226
                            cases e226
                            replace hx226_0 := (HB.out.cell (World.block_lt_of_cell? w _ hx226_0)).trans hx226_0
                            have HR226_0 := Aside0.mk hi226_0
                            have HC226_0 := Aside0.mk hl226_0
                            clear hi226_0 hl226_0
                            replace p226 := eq_true p226
                            replace q226 := eq_true q226
                            go_wp2_with (first | ((with_reducible refine gate_callee (f := 14) rfl ?_); refine goesL_ (some 31) rfl rfl Try.func14 (by kernel_rfl) rfl #[.slice A226_0 (rd_L2 l0 x8_1).length c226_0] rfl (by (try simp only [List.map_toArray, List.map_cons, List.map_nil]); first | done | rfl | (simp only [List.length_drop, List.length_take]; rfl) | (simp [Act.eval, *]; done)) ?_; (with_reducible refine (signalmanref01_Frame.calls kj6 _ _ (rd_L2 l0 x8_1) t227 _ ?side1 ?side2 A12.out).mono ?_); (case side1 => repeat (first | exact (Kd.C_below HR226_0.out HB.out) | (with_reducible refine Kd.C_alloc ?_ _) | (with_reducible refine Kd.C_drewN ?_ _) | (with_reducible refine Kd.C_drew ?_))); (case side2 => exact HC226_0.out); rintro e w64 ⟨v228, rfl, ho0, hb⟩; refine ⟨_, rfl, ?_⟩; have n0_ := Aside0.mk (Kd.R_elder' (by (with_reducible repeat (first | apply Kd.R_alloc | apply Kd.R_drewN | apply Kd.R_drew)); exact HO_7.out) (Kd.R_base ho0) hb); have n1_ := Aside0.mk (Kd.R_lower (Kd.R_new' ho0 (Kd.R_lt (by (with_reducible repeat (first | apply Kd.R_alloc | apply Kd.R_drewN | apply Kd.R_drew)); exact HO_7.out))) (below_size (by repeat (first | (with_reducible first | exact HB.out | apply below_alloc | apply pw_below_drewN | apply below_drew1) | exact HB.out)))); have n2_ := Aside0.mk (below_step (by repeat (first | (with_reducible first | exact HB.out | apply below_alloc | apply pw_below_drewN | apply below_drew1) | exact HB.out)) hb); clear HO_7; clear HB; have HO_7 := n0_; have HO229 := n1_; have HB := n2_; clear n0_ n1_ n2_; (try clear hb); (try clear hb2); (try clear hk); (try clear hi); (try clear ho0); obtain ⟨Ao66, co66, eo66⟩ := Kd.R_slice HO229.out; subst eo66) | ((with_reducible refine gate_builtin (b := .append) (xs := #[.tmp 88, .tmp 89]) rfl ?_); at_builtin; refine Kd.R_append_rows Kd.bool (w0 := w) w.heap.size rfl (.tmp 88) (.tmp 89) 26 4 (.bool false) 1 rfl Try.underlying26 info4 rfl (by decide) (by omega) u7 x7_1 t227 _ _ _ (fun k_ => some k_ ≠ (.slice Ao66 t227.length co66 : Value).ownBlock) (fun _ => False) rfl rfl ?aO ?aR (fun _ _ h => h) (fun _ h => h.elim) ?aF ?aB ?aS ?aL ?_; (case aR => repeat (first | exact (Kd.R_reads' HO229.out).2.2 | (with_reducible refine Kd.C_alloc ?_ _) | (with_reducible refine Kd.C_drewN ?_ _) | (with_reducible refine Kd.C_drew ?_))); (case aB => exact (by repeat (first | (with_reducible first | exact HB.out | apply below_alloc | apply pw_below_drewN | apply below_drew1) | exact HB.out))); (case aF => exact (fun k_ hk => Kd.fresh' (Kd.R_lt (by (with_reducible repeat (first | apply Kd.R_alloc | apply Kd.R_drewN | apply Kd.R_drew)); exact HO229.out)) k_ hk)); (case aO => exact (by (with_reducible repeat (first | apply Kd.R_alloc | apply Kd.R_drewN | apply Kd.R_drew)); exact Kd.R_mono HO_7.out (fun _ hk => (by first | exact hk.2 | exact fun e_ => hk.2 (e_.trans (own_len _ _ _ _)))))); (case aS => exact (below_size (by repeat (first | (with_reducible first | exact HB.out | apply below_alloc | apply pw_below_drewN | apply below_drew1) | exact HB.out)))); (case aL => have := LMc63.out; omega); intro v266 w65 ho hb hg hat; rw [← Ny265.out] at ho; have n0_ := Aside0.mk (Kd.R_after (ok := (fun _ => True)) (by (with_reducible repeat (first | apply Kd.R_alloc | apply Kd.R_drewN | apply Kd.R_drew)); exact HO229.out) hg hat); have n1_ := Aside0.mk (hb); have n2_ := Aside0.mk (ho); clear HO229; clear HB; clear HO_7; have HO229 := n0_; have HB := n1_; have HO267 := n2_; clear n0_ n1_ n2_; clear ho hb hg hat))
                            go_roundg kj6
                            case measure => have := HK1.out; have := HJ6.out; omega
                            case rel => exact ⟨(y265), (wrap64 (x8_1 + 1)), (by first | rfl | (simp; done) | (simp [*]; done) | (simp; omega)), H', ⟨by have := HK1.out; have := HJ6.out; omega⟩, ⟨by (with_reducible repeat (first | apply Kd.R_alloc | apply Kd.R_drewN | apply Kd.R_drew)); exact Kd.R_mono HO267.out (fun _ hk => trivial)⟩, ⟨by repeat (first | (with_reducible first | exact HB.out | apply below_alloc | apply pw_below_drewN | apply below_drew1) | exact HB.out)⟩⟩
                          · rw [if_neg c63] at H
                            exact absurd H (by simp)
              · rw [if_neg c11] at H
                exact absurd H (by simp)
            · rw [if_neg c10] at H
              exact absurd H (by simp)
      · rw [if_neg c6] at H
        have c6b0 : decide (x8_1 < (l0.length : Int)) = false := decide_eq_false c6
        clear c6
        obtain rfl := Option.some.inj H
        go_wp2
        go_ret
        exact ⟨_, by first | rfl | (simp [errW_none, errW_some] <;> rfl) | (simp [*, errW_none, errW_some] <;> rfl), by (with_reducible repeat (first | apply Kd.R_alloc | apply Kd.R_drewN | apply Kd.R_drew)); exact HO_7.out, by repeat (first | (with_reducible first | exact HB.out | apply below_alloc | apply pw_below_drewN | apply below_drew1) | exact HB.out)⟩

end Go.Proofs.Ytonhgiclaieamaa.MFlagCuts
