/- A part of the proof of the given statement that each law names; no condition. Written by a program of this session's own (wip/tools/myprint.py, over the kit's print); Lean checks it. -/
import Derived.Test.YtjaenbcboecdbaaMTapeTurnsx0
import Derived.Test.YtjaenbcboecdbaaMTapeTurnsx1
import Derived.Test.YtjaenbcboecdbaaMTapeTurnsx2
namespace Go.Proofs.Ytjaenbcboecdbaa.MTapeTurns
open Go.RowKit Go.Proofs.Ytjaenbcboecdbaa Go.Proofs.YtjaenbcboecdbaaW.PrintWords Go.Proofs.YtjaenbcboecdbaaW.PrintLast Go.Proofs.YtjaenbcboecdbaaW.PrintMore
attribute [local go_sem] max2_int min2_int max_two min_two max_three min_three max_four min_four   -- for this text's walks alone
set_option linter.unusedVariables false
set_option linter.unusedSimpArgs false

/-! ### signalmanlaw02_TapeTurns: function 7 -/
mutual
def signalmanlaw02_TapeTurns.j0 : Nat → List Int → List Int → Int → Bool → Option (Bool)
  | 0, _, _, _, _ => none
  | k + 1, x0, x1, x2, x23 => if x23 = true then ((signalmanlaw02_awake.f k).bind fun t131 => (some t131)) else ((signalmanref01_Bits.f k x0).bind fun t132 => ((signalmanref01_Bits.f k x1).bind fun t135 => (if (wrap64 ((t135.length : Int) + 1)) = 0 then (none) else (if 0 ≤ (wrap64 ((t135.length : Int) - (Int.tmod (wrap64 (x2)) (wrap64 ((t135.length : Int) + 1))))) then (if (wrap64 ((t135.length : Int) - (Int.tmod (wrap64 (x2)) (wrap64 ((t135.length : Int) + 1))))) ≤ (t135.length : Int) then ((some (t135.take ((wrap64 ((t135.length : Int) - (Int.tmod (wrap64 (x2)) (wrap64 ((t135.length : Int) + 1))))) : Int).toNat : List Bool)).bind fun y138 => ((tape_Tape_Turn.f t132 y138).bind fun t141 => (signalmanlaw02_TapeTurns.l0 k x0 t132 y138 t141 0))) else (none)) else (none)))))
def signalmanlaw02_TapeTurns.l0 : Nat → List Int → List Bool → List Bool → List Bool → Int → Option (Bool)
  | 0, _, _, _, _, _ => none
  | k + 1, x0, x7, x8, x9, x10 => if x10 < (x7.length : Int) then (if 0 ≤ x10 then (if x10 < (x8.length : Int) then (signalmanlaw02_TapeTurns.j2 k x0 x7 x8 x9 x10 (rdOf false x7 x10) (rdOf false x8 x10)) else (signalmanlaw02_TapeTurns.j2 k x0 x7 x8 x9 x10 (rdOf false x7 x10) false)) else (none)) else (if (x9.length : Int) = (x7.length : Int) then ((tape_Tape_Turn.f x9 x8).bind fun t148 => ((tape_Same.f k t148 x7).bind fun t151 => (if t151 = true then ((signalmanref01_Bits.f k x0).bind fun t152 => ((signalmanref01_Same.f k x7 t152).bind fun t155 => (some t155))) else (some false)))) else (some false))
def signalmanlaw02_TapeTurns.j2 : Nat → List Int → List Bool → List Bool → List Bool → Int → Bool → Bool → Option (Bool)
  | 0, _, _, _, _, _, _, _ => none
  | k + 1, x0, x7, x8, x9, x10, x11, x62 => if x62 = true then (if x10 ≥ (x9.length : Int) then (some false) else (if 0 ≤ x10 then (if x10 < (x9.length : Int) then (if ((rdOf false x9 x10) != (!x11)) = true then (some false) else (signalmanlaw02_TapeTurns.l0 k x0 x7 x8 x9 (wrap64 (x10 + 1)))) else (none)) else (none))) else (if x10 ≥ (x9.length : Int) then (some false) else (if 0 ≤ x10 then (if x10 < (x9.length : Int) then (if ((rdOf false x9 x10) != x11) = true then (some false) else (signalmanlaw02_TapeTurns.l0 k x0 x7 x8 x9 (wrap64 (x10 + 1)))) else (none)) else (none)))
end
def signalmanlaw02_TapeTurns.f (k : Nat) (l0 : List Int) (l1 : List Int) (a2 : Int) : Option (Bool) := (signalmanlaw02_awake.f k).bind fun t130 => (if t130 = true then (if (l0.length : Int) > 200 then (signalmanlaw02_TapeTurns.j0 k l0 l1 a2 true) else (signalmanlaw02_TapeTurns.j0 k l0 l1 a2 (decide ((l1.length : Int) > 200)))) else (signalmanlaw02_TapeTurns.j0 k l0 l1 a2 true))
theorem signalmanlaw02_TapeTurns.mono_l : ∀ k, (∀ y0 y1 y2 y3, LeO (signalmanlaw02_TapeTurns.j0 k y0 y1 y2 y3) (signalmanlaw02_TapeTurns.j0 (k + 1) y0 y1 y2 y3)) ∧ (∀ y0 y1 y2 y3 y4, LeO (signalmanlaw02_TapeTurns.l0 k y0 y1 y2 y3 y4) (signalmanlaw02_TapeTurns.l0 (k + 1) y0 y1 y2 y3 y4)) ∧ (∀ y0 y1 y2 y3 y4 y5 y6, LeO (signalmanlaw02_TapeTurns.j2 k y0 y1 y2 y3 y4 y5 y6) (signalmanlaw02_TapeTurns.j2 (k + 1) y0 y1 y2 y3 y4 y5 y6))
  | 0 => ⟨fun _ _ _ _ r h => by simp [signalmanlaw02_TapeTurns.j0] at h, fun _ _ _ _ _ r h => by simp [signalmanlaw02_TapeTurns.l0] at h, fun _ _ _ _ _ _ _ r h => by simp [signalmanlaw02_TapeTurns.j2] at h⟩
  | k + 1 => by
    obtain ⟨ih0, ih1, ih2⟩ := signalmanlaw02_TapeTurns.mono_l k
    refine ⟨?_, ?_, ?_⟩
    · intro y0 y1 y2 y3
      unfold signalmanlaw02_TapeTurns.j0
      repeat' first
      | (with_reducible exact ih0 _ _ _ _)
      | (with_reducible exact ih1 _ _ _ _ _)
      | (with_reducible exact ih2 _ _ _ _ _ _ _)
      | (with_reducible exact signalmanlaw02_awake.mono _)
      | (with_reducible exact signalmanref01_Bits.mono _ _)
      | (with_reducible exact signalmanref01_Same.mono _ _ _)
      | (with_reducible exact tape_Same.mono _ _ _)
      | (with_reducible exact LeO.refl _)
      | (with_reducible exact LeO.none _)
      | (with_reducible refine LeO.ite ?_ ?_)
      | (with_reducible refine LeO.bind ?_ (fun _ => ?_))
      | exact ih0 _ _ _ _
      | exact ih1 _ _ _ _ _
      | exact ih2 _ _ _ _ _ _ _
      | exact signalmanlaw02_awake.mono _
      | exact signalmanref01_Bits.mono _ _
      | exact signalmanref01_Same.mono _ _ _
      | exact tape_Same.mono _ _ _
      | exact LeO.none _
      | refine LeO.ite ?_ ?_
      | refine LeO.bind ?_ (fun _ => ?_)
    · intro y0 y1 y2 y3 y4
      unfold signalmanlaw02_TapeTurns.l0
      repeat' first
      | (with_reducible exact ih0 _ _ _ _)
      | (with_reducible exact ih1 _ _ _ _ _)
      | (with_reducible exact ih2 _ _ _ _ _ _ _)
      | (with_reducible exact signalmanlaw02_awake.mono _)
      | (with_reducible exact signalmanref01_Bits.mono _ _)
      | (with_reducible exact signalmanref01_Same.mono _ _ _)
      | (with_reducible exact tape_Same.mono _ _ _)
      | (with_reducible exact LeO.refl _)
      | (with_reducible exact LeO.none _)
      | (with_reducible refine LeO.ite ?_ ?_)
      | (with_reducible refine LeO.bind ?_ (fun _ => ?_))
      | exact ih0 _ _ _ _
      | exact ih1 _ _ _ _ _
      | exact ih2 _ _ _ _ _ _ _
      | exact signalmanlaw02_awake.mono _
      | exact signalmanref01_Bits.mono _ _
      | exact signalmanref01_Same.mono _ _ _
      | exact tape_Same.mono _ _ _
      | exact LeO.none _
      | refine LeO.ite ?_ ?_
      | refine LeO.bind ?_ (fun _ => ?_)
    · intro y0 y1 y2 y3 y4 y5 y6
      unfold signalmanlaw02_TapeTurns.j2
      repeat' first
      | (with_reducible exact ih0 _ _ _ _)
      | (with_reducible exact ih1 _ _ _ _ _)
      | (with_reducible exact ih2 _ _ _ _ _ _ _)
      | (with_reducible exact signalmanlaw02_awake.mono _)
      | (with_reducible exact signalmanref01_Bits.mono _ _)
      | (with_reducible exact signalmanref01_Same.mono _ _ _)
      | (with_reducible exact tape_Same.mono _ _ _)
      | (with_reducible exact LeO.refl _)
      | (with_reducible exact LeO.none _)
      | (with_reducible refine LeO.ite ?_ ?_)
      | (with_reducible refine LeO.bind ?_ (fun _ => ?_))
      | exact ih0 _ _ _ _
      | exact ih1 _ _ _ _ _
      | exact ih2 _ _ _ _ _ _ _
      | exact signalmanlaw02_awake.mono _
      | exact signalmanref01_Bits.mono _ _
      | exact signalmanref01_Same.mono _ _ _
      | exact tape_Same.mono _ _ _
      | exact LeO.none _
      | refine LeO.ite ?_ ?_
      | refine LeO.bind ?_ (fun _ => ?_)
theorem signalmanlaw02_TapeTurns.mono : ∀ a0 a1 a2 k, LeO (signalmanlaw02_TapeTurns.f k a0 a1 a2) (signalmanlaw02_TapeTurns.f (k + 1) a0 a1 a2) := by
  intro a0 a1 a2 k
  obtain ⟨ih0, ih1, ih2⟩ := signalmanlaw02_TapeTurns.mono_l k
  unfold signalmanlaw02_TapeTurns.f
  repeat' first
      | (with_reducible exact ih0 _ _ _ _)
      | (with_reducible exact ih1 _ _ _ _ _)
      | (with_reducible exact ih2 _ _ _ _ _ _ _)
      | (with_reducible exact signalmanlaw02_awake.mono _)
      | (with_reducible exact signalmanref01_Bits.mono _ _)
      | (with_reducible exact signalmanref01_Same.mono _ _ _)
      | (with_reducible exact tape_Same.mono _ _ _)
      | (with_reducible exact LeO.refl _)
      | (with_reducible exact LeO.none _)
      | (with_reducible refine LeO.ite ?_ ?_)
      | (with_reducible refine LeO.bind ?_ (fun _ => ?_))
      | exact ih0 _ _ _ _
      | exact ih1 _ _ _ _ _
      | exact ih2 _ _ _ _ _ _ _
      | exact signalmanlaw02_awake.mono _
      | exact signalmanref01_Bits.mono _ _
      | exact signalmanref01_Same.mono _ _ _
      | exact tape_Same.mono _ _ _
      | exact LeO.none _
      | refine LeO.ite ?_ ?_
      | refine LeO.bind ?_ (fun _ => ?_)
set_option maxHeartbeats 8000000 in
set_option maxRecDepth 100000 in
theorem signalmanlaw02_TapeTurns.calls (k : Nat) (A0 : Option Addr) (c0 : Nat) (l0 : List Int) (A1 : Option Addr) (c1 : Nat) (l1 : List Int) (a2 : Int) (r : Bool) (w : World) (hr0 : Kd.C (Kd.int .u8) w A0 l0.length l0) (hc0 : l0.length ≤ c0) (hr1 : Kd.C (Kd.int .u8) w A1 l1.length l1) (hc1 : l1.length ≤ c1) (h : signalmanlaw02_TapeTurns.f k l0 l1 a2 = some r) :
    Calls Try.prog 7 #[.slice A0 l0.length c0, .slice A1 l1.length c1, .int .u8 a2] w fun e w' => e = .returned (.bool r) ∧ Below w.heap.size w w' := by
  have HR0 := Aside0.mk hr0
  have HC0 := Aside0.mk hc0
  clear hr0 hc0
  have HR1 := Aside0.mk hr1
  have HC1 := Aside0.mk hc1
  clear hr1 hc1
  have HB := Aside0.mk (Below.refl w.heap.size w)
  have H : ((signalmanlaw02_awake.f k).bind fun t130 => (if t130 = true then (if (l0.length : Int) > 200 then (signalmanlaw02_TapeTurns.j0 k l0 l1 a2 true) else (signalmanlaw02_TapeTurns.j0 k l0 l1 a2 (decide ((l1.length : Int) > 200)))) else (signalmanlaw02_TapeTurns.j0 k l0 l1 a2 true))) = some r := h
  clear h
  have HC4 := Aside0.mk H
  clear H
  go_enter Try.func7, Try.ntmps7
  go_upto_region 1 with (fail)
  go_cut [23] (fun v23 wc => ∃ (kq : Nat) (x23_3 : Bool), v23 = .bool x23_3 ∧ Aside0 (signalmanlaw02_TapeTurns.j0 kq l0 l1 a2 x23_3 = some r) ∧ Aside0 (kq ≤ k) ∧ Aside0 (Below w.heap.size w wc))
  case first =>
    have H := HC4.out
    clear HC4
    replace H := Option.bind_eq_some_iff.mp H
    obtain ⟨t130, A50, H⟩ := H
    replace H : (if t130 = true then (if (l0.length : Int) > 200 then (signalmanlaw02_TapeTurns.j0 k l0 l1 a2 true) else (signalmanlaw02_TapeTurns.j0 k l0 l1 a2 (decide ((l1.length : Int) > 200)))) else (signalmanlaw02_TapeTurns.j0 k l0 l1 a2 true)) = some r := H
    have A5 := Aside0.mk A50
    clear A50
    by_cases c6 : t130 = true
    · subst c6
      have H1 : (if (l0.length : Int) > 200 then (signalmanlaw02_TapeTurns.j0 k l0 l1 a2 true) else (signalmanlaw02_TapeTurns.j0 k l0 l1 a2 (decide ((l1.length : Int) > 200)))) = some r := by rw [if_pos rfl] at H; exact H
      clear H
      have H := H1
      clear H1
      by_cases c7 : (l0.length : Int) > 200
      · rw [if_pos c7] at H
        have c7b0 : decide (200 < (l0.length : Int)) = true := decide_eq_true c7
        have c7b1 : decide (200 < l0.length) = true := decide_eq_true (by omega)
        clear c7
        (first | rw [c7b0] | (simp only [i64_w, i32_w]; rw [c7b0]) | skip)
        have H' := Aside0.mk H
        clear H
        go_wp2_with (first | ((with_reducible refine gate_callee (f := 8) rfl ?_); refine goesL_ (some 12) rfl rfl Try.func8 (by kernel_rfl) rfl #[] rfl (by (try simp only [List.map_toArray, List.map_cons, List.map_nil]); first | done | rfl | (simp only [List.length_drop, List.length_take]; rfl) | (simp [Act.eval, *]; done)) ?_; (with_reducible refine (signalmanlaw02_awake.calls k  true _ A5.out).mono ?_); rintro e w8 ⟨rfl, hb⟩; refine ⟨_, rfl, ?_⟩; have n0_ := Aside0.mk (below_step (by repeat (first | (with_reducible first | exact HB.out | apply below_alloc | apply pw_below_drewN | apply below_drew1) | exact HB.out)) hb); clear HB; have HB := n0_; clear n0_; (try clear hb); (try clear hb2); (try clear hk); (try clear hi)))
        go_meet
        case rel => exact ⟨_, (true), (by first | rfl | (simp; done) | (simp [*]; done) | (simp; omega)), H', ⟨by first | omega | exact Nat.le_refl _⟩, ⟨by repeat (first | (with_reducible first | exact HB.out | apply below_alloc | apply pw_below_drewN | apply below_drew1) | exact HB.out)⟩⟩
      · rw [if_neg c7] at H
        have c7b0 : decide (200 < (l0.length : Int)) = false := decide_eq_false c7
        have c7b1 : decide (200 < l0.length) = false := decide_eq_false (by omega)
        clear c7
        (first | rw [c7b0] | (simp only [i64_w, i32_w]; rw [c7b0]) | skip)
        have H' := Aside0.mk H
        clear H
        go_wp2_with (first | ((with_reducible refine gate_callee (f := 8) rfl ?_); refine goesL_ (some 12) rfl rfl Try.func8 (by kernel_rfl) rfl #[] rfl (by (try simp only [List.map_toArray, List.map_cons, List.map_nil]); first | done | rfl | (simp only [List.length_drop, List.length_take]; rfl) | (simp [Act.eval, *]; done)) ?_; (with_reducible refine (signalmanlaw02_awake.calls k  true _ A5.out).mono ?_); rintro e w9 ⟨rfl, hb⟩; refine ⟨_, rfl, ?_⟩; have n0_ := Aside0.mk (below_step (by repeat (first | (with_reducible first | exact HB.out | apply below_alloc | apply pw_below_drewN | apply below_drew1) | exact HB.out)) hb); clear HB; have HB := n0_; clear n0_; (try clear hb); (try clear hb2); (try clear hk); (try clear hi)))
        go_meet
        case rel => exact ⟨_, (decide ((l1.length : Int) > 200)), (by first | rfl | (simp; done) | (simp [*]; done) | (simp; omega)), H', ⟨by first | omega | exact Nat.le_refl _⟩, ⟨by repeat (first | (with_reducible first | exact HB.out | apply below_alloc | apply pw_below_drewN | apply below_drew1) | exact HB.out)⟩⟩
    · replace c6 := Bool.eq_false_iff.mpr c6
      subst c6
      have H1 : (signalmanlaw02_TapeTurns.j0 k l0 l1 a2 true) = some r := by rw [if_neg (show ¬ (false = true) by decide)] at H; exact H
      clear H
      have H := H1
      clear H1
      have H' := Aside0.mk H
      clear H
      go_wp2_with (first | ((with_reducible refine gate_callee (f := 8) rfl ?_); refine goesL_ (some 12) rfl rfl Try.func8 (by kernel_rfl) rfl #[] rfl (by (try simp only [List.map_toArray, List.map_cons, List.map_nil]); first | done | rfl | (simp only [List.length_drop, List.length_take]; rfl) | (simp [Act.eval, *]; done)) ?_; (with_reducible refine (signalmanlaw02_awake.calls k  false _ A5.out).mono ?_); rintro e w10 ⟨rfl, hb⟩; refine ⟨_, rfl, ?_⟩; have n0_ := Aside0.mk (below_step (by repeat (first | (with_reducible first | exact HB.out | apply below_alloc | apply pw_below_drewN | apply below_drew1) | exact HB.out)) hb); clear HB; have HB := n0_; clear n0_; (try clear hb); (try clear hb2); (try clear hk); (try clear hi)))
      go_meet
      case rel => exact ⟨_, (true), (by first | rfl | (simp; done) | (simp [*]; done) | (simp; omega)), H', ⟨by first | omega | exact Nat.le_refl _⟩, ⟨by repeat (first | (with_reducible first | exact HB.out | apply below_alloc | apply pw_below_drewN | apply below_drew1) | exact HB.out)⟩⟩
  case rest =>
    clear HC4
    try clear c1
    try clear p2
    try clear c6
    try clear c7
    try clear c7b0
    try clear c7b1
    try clear c8
    obtain ⟨kq, x23_3, rfl, HA, HJ3, HB⟩ := hcut
    cases kq with
    | zero => exact absurd HA.out (by simp [signalmanlaw02_TapeTurns.j0])
    | succ kj3 =>
      have H := HA.out
      clear HA
      simp only [signalmanlaw02_TapeTurns.j0] at H
      by_cases c11 : x23_3 = true
      · subst c11
        have H1 : ((signalmanlaw02_awake.f kj3).bind fun t131 => (some t131)) = some r := by rw [if_pos rfl] at H; exact H
        clear H
        have H := H1
        clear H1
        replace H := Option.bind_eq_some_iff.mp H
        obtain ⟨t131, A120, H⟩ := H
        replace H : (some t131) = some r := H
        have A12 := Aside0.mk A120
        clear A120
        obtain rfl := Option.some.inj H
        go_wp2_with (first | ((with_reducible refine gate_callee (f := 8) rfl ?_); refine goesL_ (some 24) rfl rfl Try.func8 (by kernel_rfl) rfl #[] rfl (by (try simp only [List.map_toArray, List.map_cons, List.map_nil]); first | done | rfl | (simp only [List.length_drop, List.length_take]; rfl) | (simp [Act.eval, *]; done)) ?_; (with_reducible refine (signalmanlaw02_awake.calls kj3  t131 _ A12.out).mono ?_); rintro e w13 ⟨rfl, hb⟩; refine ⟨_, rfl, ?_⟩; have n0_ := Aside0.mk (below_step (by repeat (first | (with_reducible first | exact HB.out | apply below_alloc | apply pw_below_drewN | apply below_drew1) | exact HB.out)) hb); clear HB; have HB := n0_; clear n0_; (try clear hb); (try clear hb2); (try clear hk); (try clear hi)))
        go_ret
        exact ⟨by first | rfl | (simp [errW_none, errW_some] <;> rfl) | (simp [*, errW_none, errW_some] <;> rfl), by repeat (first | (with_reducible first | exact HB.out | apply below_alloc | apply pw_below_drewN | apply below_drew1) | exact HB.out)⟩
      · replace c11 := Bool.eq_false_iff.mpr c11
        subst c11
        have H1 : ((signalmanref01_Bits.f kj3 l0).bind fun t132 => ((signalmanref01_Bits.f kj3 l1).bind fun t135 => (if (wrap64 ((t135.length : Int) + 1)) = 0 then (none) else (if 0 ≤ (wrap64 ((t135.length : Int) - (Int.tmod (wrap64 (a2)) (wrap64 ((t135.length : Int) + 1))))) then (if (wrap64 ((t135.length : Int) - (Int.tmod (wrap64 (a2)) (wrap64 ((t135.length : Int) + 1))))) ≤ (t135.length : Int) then ((some (t135.take ((wrap64 ((t135.length : Int) - (Int.tmod (wrap64 (a2)) (wrap64 ((t135.length : Int) + 1))))) : Int).toNat : List Bool)).bind fun y138 => ((tape_Tape_Turn.f t132 y138).bind fun t141 => (signalmanlaw02_TapeTurns.l0 kj3 l0 t132 y138 t141 0))) else (none)) else (none))))) = some r := by rw [if_neg (show ¬ (false = true) by decide)] at H; exact H
        clear H
        have H := H1
        clear H1
        replace H := Option.bind_eq_some_iff.mp H
        obtain ⟨t132, A140, H⟩ := H
        replace H : ((signalmanref01_Bits.f kj3 l1).bind fun t135 => (if (wrap64 ((t135.length : Int) + 1)) = 0 then (none) else (if 0 ≤ (wrap64 ((t135.length : Int) - (Int.tmod (wrap64 (a2)) (wrap64 ((t135.length : Int) + 1))))) then (if (wrap64 ((t135.length : Int) - (Int.tmod (wrap64 (a2)) (wrap64 ((t135.length : Int) + 1))))) ≤ (t135.length : Int) then ((some (t135.take ((wrap64 ((t135.length : Int) - (Int.tmod (wrap64 (a2)) (wrap64 ((t135.length : Int) + 1))))) : Int).toNat : List Bool)).bind fun y138 => ((tape_Tape_Turn.f t132 y138).bind fun t141 => (signalmanlaw02_TapeTurns.l0 kj3 l0 t132 y138 t141 0))) else (none)) else (none)))) = some r := H
        have A14 := Aside0.mk A140
        clear A140
        replace H := Option.bind_eq_some_iff.mp H
        obtain ⟨t135, A150, H⟩ := H
        replace H : (if (wrap64 ((t135.length : Int) + 1)) = 0 then (none) else (if 0 ≤ (wrap64 ((t135.length : Int) - (Int.tmod (wrap64 (a2)) (wrap64 ((t135.length : Int) + 1))))) then (if (wrap64 ((t135.length : Int) - (Int.tmod (wrap64 (a2)) (wrap64 ((t135.length : Int) + 1))))) ≤ (t135.length : Int) then ((some (t135.take ((wrap64 ((t135.length : Int) - (Int.tmod (wrap64 (a2)) (wrap64 ((t135.length : Int) + 1))))) : Int).toNat : List Bool)).bind fun y138 => ((tape_Tape_Turn.f t132 y138).bind fun t141 => (signalmanlaw02_TapeTurns.l0 kj3 l0 t132 y138 t141 0))) else (none)) else (none))) = some r := H
        have A15 := Aside0.mk A150
        clear A150
        by_cases c16 : (wrap64 ((t135.length : Int) + 1)) = 0
        · rw [if_pos c16] at H
          exact absurd H (by simp)
        · rw [if_neg c16] at H
          have c16b0 : ((wrap64 ((t135.length : Int) + 1)) == 0) = false := beq_eq_false_iff_ne.mpr c16
          have c16b1 : ((wrap64 ((t135.length : Int) + 1)) != 0) = true := bne_iff_ne.mpr c16
          obtain ⟨ji17, hji17⟩ : ∃ j_ : Int, (wrap64 ((t135.length : Int) - (Int.tmod (wrap64 (a2)) (wrap64 ((t135.length : Int) + 1))))) = j_ := ⟨_, rfl⟩
          replace H : (if 0 ≤ (ji17) then (if (ji17) ≤ (t135.length : Int) then ((some (t135.take ((ji17) : Int).toNat : List Bool)).bind fun y138 => ((tape_Tape_Turn.f t132 y138).bind fun t141 => (signalmanlaw02_TapeTurns.l0 kj3 l0 t132 y138 t141 0))) else (none)) else (none)) = some r := by first | (rw [hji17] at H; exact H) | (simp only [hji17] at H ⊢; exact H)
          (try rw [hji17] at A14)
          (try rw [hji17] at A15)
          have hji17w : (IntKind.i64.wrap ((t135.length : Int) - (Int.tmod (wrap64 (a2)) (wrap64 ((t135.length : Int) + 1))))) = ji17 := (i64_w _).trans hji17
          by_cases c18 : 0 ≤ (ji17)
          · rw [if_pos c18] at H
            have c18b0 := eq_true c18
            have c18b1 : decide (0 ≤ (ji17)) = true := decide_eq_true c18
            clear c18
            by_cases c19 : (ji17) ≤ (t135.length : Int)
            · rw [if_pos c19] at H
              have c19b0 := eq_true c19
              have c19b1 : decide ((ji17) ≤ (t135.length : Int)) = true := decide_eq_true c19
              clear c19
              obtain ⟨y138, hy138⟩ : ∃ y_ : List Bool, y_ = (t135.take ((ji17) : Int).toNat) := ⟨_, rfl⟩
              replace H : ((tape_Tape_Turn.f t132 y138).bind fun t141 => (signalmanlaw02_TapeTurns.l0 kj3 l0 t132 y138 t141 0)) = some r := by first | (rw [hy138]; with_reducible exact H) | (have H2_ := (Option.bind_some _ _).symm.trans H; rw [hy138]; with_reducible exact H2_) | (have H2_ := (Option.bind_some _ _).symm.trans H; with_reducible exact H2_) | with_reducible exact H | (rw [hy138]; exact H) | exact H
              have Ny138 := Aside0.mk hy138
              clear hy138
              replace H := Option.bind_eq_some_iff.mp H
              obtain ⟨t141, A200, H⟩ := H
              replace H : (signalmanlaw02_TapeTurns.l0 kj3 l0 t132 y138 t141 0) = some r := H
              have A20 := Aside0.mk A200
              clear A200
              have H' := Aside0.mk H
              clear H
              go_wp2_with (first | ((with_reducible refine gate_callee (f := 12) rfl ?_); refine goesL_ (some 26) rfl rfl Try.func12 (by kernel_rfl) rfl #[.slice A0 l0.length c0] rfl (by (try simp only [List.map_toArray, List.map_cons, List.map_nil]); first | done | rfl | (simp only [List.length_drop, List.length_take]; rfl) | (simp [Act.eval, *]; done)) ?_; (with_reducible refine (signalmanref01_Bits.calls kj3 _ _ l0 t132 _ ?side1 ?side2 A14.out).mono ?_); (case side1 => repeat (first | exact (Kd.C_below HR0.out HB.out) | (with_reducible refine Kd.C_alloc ?_ _) | (with_reducible refine Kd.C_drewN ?_ _) | (with_reducible refine Kd.C_drew ?_))); (case side2 => exact HC0.out); rintro e w21 ⟨v133, rfl, ho0, hb⟩; refine ⟨_, rfl, ?_⟩; have n0_ := Aside0.mk (Kd.R_lower ho0 (below_size (by repeat (first | (with_reducible first | exact HB.out | apply below_alloc | apply pw_below_drewN | apply below_drew1) | exact HB.out)))); have n1_ := Aside0.mk (below_step (by repeat (first | (with_reducible first | exact HB.out | apply below_alloc | apply pw_below_drewN | apply below_drew1) | exact HB.out)) hb); clear HB; have HO134 := n0_; have HB := n1_; clear n0_ n1_; (try clear hb); (try clear hb2); (try clear hk); (try clear hi); (try clear ho0)) | ((with_reducible refine gate_callee (f := 12) rfl ?_); refine goesL_ (some 28) rfl rfl Try.func12 (by kernel_rfl) rfl #[.slice A1 l1.length c1] rfl (by (try simp only [List.map_toArray, List.map_cons, List.map_nil]); first | done | rfl | (simp only [List.length_drop, List.length_take]; rfl) | (simp [Act.eval, *]; done)) ?_; (with_reducible refine (signalmanref01_Bits.calls kj3 _ _ l1 t135 _ ?side1 ?side2 A15.out).mono ?_); (case side1 => repeat (first | exact (Kd.C_below HR1.out HB.out) | (with_reducible refine Kd.C_alloc ?_ _) | (with_reducible refine Kd.C_drewN ?_ _) | (with_reducible refine Kd.C_drew ?_))); (case side2 => exact HC1.out); rintro e w22 ⟨v136, rfl, ho0, hb⟩; refine ⟨_, rfl, ?_⟩; have n0_ := Aside0.mk (Kd.R_elder' (by (with_reducible repeat (first | apply Kd.R_alloc | apply Kd.R_drewN | apply Kd.R_drew)); exact HO134.out) (Kd.R_base ho0) hb); have n1_ := Aside0.mk (Kd.R_lower (Kd.R_new' ho0 (Kd.R_lt (by (with_reducible repeat (first | apply Kd.R_alloc | apply Kd.R_drewN | apply Kd.R_drew)); exact HO134.out))) (below_size (by repeat (first | (with_reducible first | exact HB.out | apply below_alloc | apply pw_below_drewN | apply below_drew1) | exact HB.out)))); have n2_ := Aside0.mk (below_step (by repeat (first | (with_reducible first | exact HB.out | apply below_alloc | apply pw_below_drewN | apply below_drew1) | exact HB.out)) hb); clear HO134; clear HB; have HO134 := n0_; have HO137 := n1_; have HB := n2_; clear n0_ n1_ n2_; (try clear hb); (try clear hb2); (try clear hk); (try clear hi); (try clear ho0); obtain ⟨Ao23, co23, eo23⟩ := Kd.R_slice HO137.out; subst eo23; have q24 : ((ji17) : Int) ≤ ((t135.length : Int) : Int) := of_decide_eq_true (by first | (with_reducible assumption) | assumption); obtain ⟨i024, hi024, _, hsz24, _⟩ := info_parts info4; have hcut24 := cut_to (P := Try.prog) 25 4 .i64 Try.underlying25 hi024 Ao23 t135.length co23 (ji17) (of_decide_eq_true (by first | (with_reducible assumption) | assumption)) q24 (Kd.R_reads' HO137.out).2.1; have hr24 := Kd.R_take (m := ((ji17) : Int).toNat) HO137.out (by omega); have hy24 : y138.length = ((ji17) : Int).toNat := (by rw [Ny138.out, List.length_take]; omega); rw [← Ny138.out] at hr24; rw [← hy24] at hr24 hcut24; clear hy24 hi024 hsz24 HO137; have HO140 := Aside0.mk hr24; clear hr24; replace q24 := eq_true q24; obtain ⟨Ao25, co25, eo25⟩ := Kd.R_slice HO134.out; subst eo25) | ((with_reducible refine gate_callee (f := 20) rfl ?_); refine goesL_ (some 42) rfl rfl Try.func20 (by kernel_rfl) rfl #[.slice Ao25 t132.length co25, .slice Ao23 y138.length co23] rfl (by (try simp only [List.map_toArray, List.map_cons, List.map_nil]); first | done | rfl | (simp only [List.length_drop, List.length_take]; rfl) | (simp [Act.eval, *]; done)) ?_; (with_reducible refine (tape_Tape_Turn.calls _ _ t132 _ _ y138 t141 _ ?side1 ?side2 ?side3 ?side4 A20.out).mono ?_); (case side1 => repeat (first | exact (Kd.R_reads' HO134.out).2.2 | (with_reducible refine Kd.C_alloc ?_ _) | (with_reducible refine Kd.C_drewN ?_ _) | (with_reducible refine Kd.C_drew ?_))); (case side2 => exact (Kd.R_reads' HO134.out).2.1); (case side3 => repeat (first | exact (Kd.R_reads' HO140.out).2.2 | (with_reducible refine Kd.C_alloc ?_ _) | (with_reducible refine Kd.C_drewN ?_ _) | (with_reducible refine Kd.C_drew ?_))); (case side4 => exact (Kd.R_reads' HO140.out).2.1); rintro e w26 ⟨v142, rfl, ho0, hb⟩; refine ⟨_, rfl, ?_⟩; have n0_ := Aside0.mk (Kd.R_elder' (by (with_reducible repeat (first | apply Kd.R_alloc | apply Kd.R_drewN | apply Kd.R_drew)); exact HO134.out) (Kd.R_base ho0) hb); have n1_ := Aside0.mk (Kd.R_elder' (by (with_reducible repeat (first | apply Kd.R_alloc | apply Kd.R_drewN | apply Kd.R_drew)); exact HO140.out) (Kd.R_base ho0) hb); have n2_ := Aside0.mk (Kd.R_lower (Kd.R_new' (Kd.R_new' ho0 (Kd.R_lt (by (with_reducible repeat (first | apply Kd.R_alloc | apply Kd.R_drewN | apply Kd.R_drew)); exact HO134.out))) (Kd.R_lt (by (with_reducible repeat (first | apply Kd.R_alloc | apply Kd.R_drewN | apply Kd.R_drew)); exact HO140.out))) (below_size (by repeat (first | (with_reducible first | exact HB.out | apply below_alloc | apply pw_below_drewN | apply below_drew1) | exact HB.out)))); have n3_ := Aside0.mk (below_step (by repeat (first | (with_reducible first | exact HB.out | apply below_alloc | apply pw_below_drewN | apply below_drew1) | exact HB.out)) hb); clear HO134; clear HO140; clear HB; have HO134 := n0_; have HO140 := n1_; have HO143 := n2_; have HB := n3_; clear n0_ n1_ n2_ n3_; (try clear hb); (try clear hb2); (try clear hk); (try clear hi); (try clear ho0)))
              go_loopg [10] kj3 (fun kq v10 w' => ∃ (x10_2 : Int), v10 = .int .i64 x10_2 ∧ Aside0 (signalmanlaw02_TapeTurns.l0 kq l0 t132 y138 t141 x10_2 = some r) ∧ Aside0 (kq ≤ kj3) ∧ Aside0 (Kd.R Kd.bool 4 w' w.heap.size (fun k_ => some k_ ≠ ((.slice Ao23 y138.length co23) : Value).ownBlock ∧ some k_ ≠ (v142 : Value).ownBlock) (.slice Ao25 t132.length co25) t132) ∧ Aside0 (Kd.R Kd.bool 4 w' w.heap.size (fun k_ => some k_ ≠ ((.slice Ao25 t132.length co25) : Value).ownBlock ∧ some k_ ≠ (v142 : Value).ownBlock) (.slice Ao23 y138.length co23) y138) ∧ Aside0 (Kd.R Kd.bool 4 w' w.heap.size (fun k_ => some k_ ≠ ((.slice Ao25 t132.length co25) : Value).ownBlock ∧ some k_ ≠ ((.slice Ao23 y138.length co23) : Value).ownBlock) v142 t141) ∧ Aside0 (Below w.heap.size w w'))
              case atStart => exact ⟨(0), (by first | rfl | (simp; done) | (simp [*]; done) | (simp; omega)), H', ⟨Nat.le_refl _⟩, ⟨by (with_reducible repeat (first | apply Kd.R_alloc | apply Kd.R_drewN | apply Kd.R_drew)); exact Kd.R_mono HO134.out (by first | exact fun _ hk => ⟨hk.1.2, hk.2⟩ | exact fun _ hk => ⟨fun e_ => hk.1.2 (e_.trans (own_len _ _ _ _)), hk.2⟩ | exact fun _ hk => ⟨hk.1.2, fun e_ => hk.2 (e_.trans (own_len _ _ _ _))⟩ | exact fun _ hk => ⟨fun e_ => hk.1.2 (e_.trans (own_len _ _ _ _)), fun e_ => hk.2 (e_.trans (own_len _ _ _ _))⟩)⟩, ⟨by (with_reducible repeat (first | apply Kd.R_alloc | apply Kd.R_drewN | apply Kd.R_drew)); exact Kd.R_mono HO140.out (by first | exact fun _ hk => ⟨hk.1.2, hk.2⟩ | exact fun _ hk => ⟨fun e_ => hk.1.2 (e_.trans (own_len _ _ _ _)), hk.2⟩ | exact fun _ hk => ⟨hk.1.2, fun e_ => hk.2 (e_.trans (own_len _ _ _ _))⟩ | exact fun _ hk => ⟨fun e_ => hk.1.2 (e_.trans (own_len _ _ _ _)), fun e_ => hk.2 (e_.trans (own_len _ _ _ _))⟩)⟩, ⟨by (with_reducible repeat (first | apply Kd.R_alloc | apply Kd.R_drewN | apply Kd.R_drew)); exact Kd.R_mono HO143.out (by first | exact fun _ hk => ⟨hk.1.2, hk.2⟩ | exact fun _ hk => ⟨fun e_ => hk.1.2 (e_.trans (own_len _ _ _ _)), hk.2⟩ | exact fun _ hk => ⟨hk.1.2, fun e_ => hk.2 (e_.trans (own_len _ _ _ _))⟩ | exact fun _ hk => ⟨fun e_ => hk.1.2 (e_.trans (own_len _ _ _ _)), fun e_ => hk.2 (e_.trans (own_len _ _ _ _))⟩)⟩, ⟨by repeat (first | (with_reducible first | exact HB.out | apply below_alloc | apply pw_below_drewN | apply below_drew1) | exact HB.out)⟩⟩
              case round =>
                clear H'
                try clear c1
                try clear c2
                try clear p2
                try clear q2
                try clear c6
                try clear p6
                try clear c7
                try clear c7b0
                try clear c7b1
                try clear c8
                try clear c11
                try clear c12
                try clear c16
                try clear c16b0
                try clear c16b1
                try clear c18
                try clear c18b0
                try clear c18b1
                try clear c19
                try clear c19b0
                try clear c19b1
                try clear c20
                try clear q24
                try clear p2
                try clear q24
                obtain ⟨x10_2, rfl, HA, HK2, HO_7, HO_8, HO_9, HB⟩ := hrel
                cases gk with
                | zero => exact absurd HA.out (by simp [signalmanlaw02_TapeTurns.l0])
                | succ k2 =>
                  have H := HA.out
                  clear HA
                  simp only [signalmanlaw02_TapeTurns.l0] at H
                  by_cases c27 : x10_2 < (t132.length : Int)
                  · rw [if_pos c27] at H
                    have c27b0 : decide (x10_2 < (t132.length : Int)) = true := decide_eq_true c27
                    clear c27
                    by_cases c28 : 0 ≤ x10_2
                    · rw [if_pos c28] at H
                      have c28b0 : decide (0 ≤ x10_2) = true := decide_eq_true c28
                      clear c28
                      have HC29 := Aside0.mk H
                      clear H
                      have p144 : 0 ≤ (x10_2 : Int) := of_decide_eq_true (by first | (with_reducible assumption) | assumption)
                      have q144 : x10_2 < (t132.length : Int) := of_decide_eq_true (by first | (with_reducible assumption) | assumption)
                      obtain ⟨ad144, e144, hx144_0⟩ := Kd.at_bool (Kd.R_reads' HO_7.out).2.2 x10_2 p144 q144
                      cases e144
                      replace p144 := eq_true p144
                      replace q144 := eq_true q144
                      go_upto_region 11 with (fail)
                      go_cut [62] (fun v62 wc => ∃ (kq : Nat) (x62_28 : Bool), v62 = .bool x62_28 ∧ Aside0 (signalmanlaw02_TapeTurns.j2 kq l0 t132 y138 t141 x10_2 (rdOf false t132 x10_2) x62_28 = some r) ∧ Aside0 (kq ≤ k2) ∧ Aside0 (Kd.R Kd.bool 4 wc w.heap.size (fun k_ => some k_ ≠ ((.slice Ao23 y138.length co23) : Value).ownBlock ∧ some k_ ≠ (v142 : Value).ownBlock) (.slice (some ad144) t132.length co25) t132) ∧ Aside0 (Kd.R Kd.bool 4 wc w.heap.size (fun k_ => some k_ ≠ ((.slice (some ad144) t132.length co25) : Value).ownBlock ∧ some k_ ≠ (v142 : Value).ownBlock) (.slice Ao23 y138.length co23) y138) ∧ Aside0 (Kd.R Kd.bool 4 wc w.heap.size (fun k_ => some k_ ≠ ((.slice (some ad144) t132.length co25) : Value).ownBlock ∧ some k_ ≠ ((.slice Ao23 y138.length co23) : Value).ownBlock) v142 t141) ∧ Aside0 (Below w.heap.size w wc))
                      case first =>
                        have H := HC29.out
                        clear HC29
                        by_cases c30 : x10_2 < (y138.length : Int)
                        · rw [if_pos c30] at H
                          have c30b0 : decide (x10_2 < (y138.length : Int)) = true := decide_eq_true c30
                          clear c30
                          (first | rw [c30b0] | (simp only [i64_w, i32_w]; rw [c30b0]) | skip)
                          have H' := Aside0.mk H
                          clear H
                          have p145 : 0 ≤ (x10_2 : Int) := of_decide_eq_true (by first | (with_reducible assumption) | assumption)
                          have q145 : x10_2 < (y138.length : Int) := of_decide_eq_true (by first | (with_reducible assumption) | assumption)
                          obtain ⟨ad145, e145, hx145_0⟩ := Kd.at_bool (Kd.R_reads' HO_8.out).2.2 x10_2 p145 q145
                          cases e145
                          replace p145 := eq_true p145
                          replace q145 := eq_true q145
                          go_wp2
                          go_meet
                          case rel => exact ⟨_, (rdOf false y138 x10_2), (by first | rfl | (simp; done) | (simp [*]; done) | (simp; omega)), H', ⟨by have := HJ3.out; have := HK2.out; first | omega | exact Nat.le_refl _⟩, ⟨by (with_reducible repeat (first | apply Kd.R_alloc | apply Kd.R_drewN | apply Kd.R_drew)); exact HO_7.out⟩, ⟨by (with_reducible repeat (first | apply Kd.R_alloc | apply Kd.R_drewN | apply Kd.R_drew)); exact HO_8.out⟩, ⟨by (with_reducible repeat (first | apply Kd.R_alloc | apply Kd.R_drewN | apply Kd.R_drew)); exact HO_9.out⟩, ⟨by repeat (first | (with_reducible first | exact HB.out | apply below_alloc | apply pw_below_drewN | apply below_drew1) | exact HB.out)⟩⟩
                        · rw [if_neg c30] at H
                          have c30b0 : decide (x10_2 < (y138.length : Int)) = false := decide_eq_false c30
                          clear c30
                          (first | rw [c30b0] | (simp only [i64_w, i32_w]; rw [c30b0]) | skip)
                          have H' := Aside0.mk H
                          clear H
                          go_wp2
                          go_meet
                          case rel => exact ⟨_, (false), (by first | rfl | (simp; done) | (simp [*]; done) | (simp; omega)), H', ⟨by have := HJ3.out; have := HK2.out; first | omega | exact Nat.le_refl _⟩, ⟨by (with_reducible repeat (first | apply Kd.R_alloc | apply Kd.R_drewN | apply Kd.R_drew)); exact HO_7.out⟩, ⟨by (with_reducible repeat (first | apply Kd.R_alloc | apply Kd.R_drewN | apply Kd.R_drew)); exact HO_8.out⟩, ⟨by (with_reducible repeat (first | apply Kd.R_alloc | apply Kd.R_drewN | apply Kd.R_drew)); exact HO_9.out⟩, ⟨by repeat (first | (with_reducible first | exact HB.out | apply below_alloc | apply pw_below_drewN | apply below_drew1) | exact HB.out)⟩⟩
                      case rest =>
                        clear HC29
                        try clear c1
                        try clear p1
                        try clear q1
                        try clear hx1
                        try clear c2
                        try clear p2
                        try clear q2
                        try clear c3
                        try clear c6
                        try clear p6
                        try clear c7
                        try clear c7b0
                        try clear c7b1
                        try clear c8
                        try clear c11
                        try clear c12
                        try clear p14
                        try clear q14
                        try clear hx14
                        try clear c16
                        try clear c16b0
                        try clear c16b1
                        try clear c18
                        try clear c18b0
                        try clear c18b1
                        try clear c19
                        try clear c19b0
                        try clear c19b1
                        try clear c20
                        try clear q24
                        try clear c27
                        try clear c27b0
                        try clear c28
                        try clear c28b0
                        try clear c30
                        try clear c30b0
                        try clear hx144_0
                        try clear hx145_0
                        try clear p144
                        try clear p145
                        try clear p2
                        try clear p6
                        try clear q144
                        try clear q145
                        try clear q2
                        try clear q24
                        obtain ⟨kq, x62_28, rfl, HA, HJ28, HO_7, HO_8, HO_9, HB⟩ := hcut
                        cases kq with
                        | zero => exact absurd HA.out (by simp [signalmanlaw02_TapeTurns.j2])
                        | succ kj28 =>
                          have H := HA.out
                          clear HA
                          simp only [signalmanlaw02_TapeTurns.j2] at H
                          by_cases c31 : x62_28 = true
                          · subst c31
                            have H1 : (if x10_2 ≥ (t141.length : Int) then (some false) else (if 0 ≤ x10_2 then (if x10_2 < (t141.length : Int) then (if ((rdOf false t141 x10_2) != (!(rdOf false t132 x10_2))) = true then (some false) else (signalmanlaw02_TapeTurns.l0 kj28 l0 t132 y138 t141 (wrap64 (x10_2 + 1)))) else (none)) else (none))) = some r := by rw [if_pos rfl] at H; exact H
                            clear H
                            have H := H1
                            clear H1
                            by_cases c32 : x10_2 ≥ (t141.length : Int)
                            · rw [if_pos c32] at H
                              have c32b0 : decide ((t141.length : Int) ≤ x10_2) = true := decide_eq_true c32
                              clear c32
                              obtain rfl := Option.some.inj H
                              obtain ⟨Ao33, co33, eo33⟩ := Kd.R_slice HO_9.out
                              subst eo33
                              go_wp2
                              go_ret
                              exact ⟨by first | rfl | (simp [errW_none, errW_some] <;> rfl) | (simp only [← hji17]; first | rfl | (simp [errW_none, errW_some] <;> rfl)) | (simp [*, errW_none, errW_some] <;> rfl), by repeat (first | (with_reducible first | exact HB.out | apply below_alloc | apply pw_below_drewN | apply below_drew1) | exact HB.out)⟩
                            · rw [if_neg c32] at H
                              have c32b0 : decide ((t141.length : Int) ≤ x10_2) = false := decide_eq_false c32
                              clear c32
                              by_cases c34 : 0 ≤ x10_2
                              · rw [if_pos c34] at H
                                have c34b0 : decide (0 ≤ x10_2) = true := decide_eq_true c34
                                clear c34
                                by_cases c35 : x10_2 < (t141.length : Int)
                                · rw [if_pos c35] at H
                                  have c35b0 : decide (x10_2 < (t141.length : Int)) = true := decide_eq_true c35
                                  clear c35
                                  by_cases c36 : ((rdOf false t141 x10_2) != (!(rdOf false t132 x10_2))) = true
                                  · rw [if_pos c36] at H
                                    have c36b0 : ((rdOf false t141 x10_2) != (!(rdOf false t132 x10_2))) = true := c36
                                    (try (have c36b1 : decide ((rdOf false t141 x10_2) = (!(rdOf false t132 x10_2))) = false := by simpa using c36))
                                    (try (have c36b2 : ((rdOf false t141 x10_2) == (!(rdOf false t132 x10_2))) = false := by simpa using c36))
                                    (try (have c36b3 : (!(rdOf false t141 x10_2) == (!(rdOf false t132 x10_2))) = true := by first | exact (show ∀ a_ b_ : Bool, ¬ ((a_ != !b_) = true) → (!a_ == !b_) = false by decide) _ _ c36 | exact (show ∀ a_ b_ : Bool, ((a_ != !b_) = true) → (!a_ == !b_) = true by decide) _ _ c36))
                                    (try (have c36b4 : ¬ ((rdOf false t141 x10_2) = (!(rdOf false t132 x10_2))) := by simpa using c36))
                                    clear c36
                                    obtain rfl := Option.some.inj H
                                    obtain ⟨Ao37, co37, eo37⟩ := Kd.R_slice HO_9.out
                                    subst eo37
                                    have p146 : 0 ≤ (x10_2 : Int) := of_decide_eq_true (by first | (with_reducible assumption) | assumption)
                                    have q146 : x10_2 < (t141.length : Int) := of_decide_eq_true (by first | (with_reducible assumption) | assumption)
                                    obtain ⟨ad146, e146, hx146_0⟩ := Kd.at_bool (Kd.R_reads' HO_9.out).2.2 x10_2 p146 q146
                                    cases e146
                                    replace p146 := eq_true p146
                                    replace q146 := eq_true q146
                                    go_wp2
                                    go_ret
                                    exact ⟨by first | rfl | (simp [errW_none, errW_some] <;> rfl) | (simp only [← hji17]; first | rfl | (simp [errW_none, errW_some] <;> rfl)) | (simp [*, errW_none, errW_some] <;> rfl), by repeat (first | (with_reducible first | exact HB.out | apply below_alloc | apply pw_below_drewN | apply below_drew1) | exact HB.out)⟩
                                  · rw [if_neg c36] at H
                                    have c36b0 : ((rdOf false t141 x10_2) != (!(rdOf false t132 x10_2))) = false := by simpa using c36
                                    (try (have c36b1 : decide ((rdOf false t141 x10_2) = (!(rdOf false t132 x10_2))) = true := by simpa using c36))
                                    (try (have c36b2 : ((rdOf false t141 x10_2) == (!(rdOf false t132 x10_2))) = true := by simpa using c36))
                                    (try (have c36b3 : (!(rdOf false t141 x10_2) == (!(rdOf false t132 x10_2))) = false := by first | exact (show ∀ a_ b_ : Bool, ¬ ((a_ != !b_) = true) → (!a_ == !b_) = false by decide) _ _ c36 | exact (show ∀ a_ b_ : Bool, ((a_ != !b_) = true) → (!a_ == !b_) = true by decide) _ _ c36))
                                    clear c36
                                    have H' := Aside0.mk H
                                    clear H
                                    obtain ⟨Ao38, co38, eo38⟩ := Kd.R_slice HO_9.out
                                    subst eo38
                                    have p146 : 0 ≤ (x10_2 : Int) := of_decide_eq_true (by first | (with_reducible assumption) | assumption)
                                    have q146 : x10_2 < (t141.length : Int) := of_decide_eq_true (by first | (with_reducible assumption) | assumption)
                                    obtain ⟨ad146, e146, hx146_0⟩ := Kd.at_bool (Kd.R_reads' HO_9.out).2.2 x10_2 p146 q146
                                    cases e146
                                    replace p146 := eq_true p146
                                    replace q146 := eq_true q146
                                    go_wp2
                                    go_roundg kj28
                                    case measure => have := HJ3.out; have := HK2.out; have := HJ28.out; omega
                                    case rel => exact ⟨(wrap64 (x10_2 + 1)), (by first | rfl | (simp; done) | (simp [*]; done) | (simp; omega)), H', ⟨by have := HJ3.out; have := HK2.out; have := HJ28.out; omega⟩, ⟨by (with_reducible repeat (first | apply Kd.R_alloc | apply Kd.R_drewN | apply Kd.R_drew)); exact HO_7.out⟩, ⟨by (with_reducible repeat (first | apply Kd.R_alloc | apply Kd.R_drewN | apply Kd.R_drew)); exact HO_8.out⟩, ⟨by (with_reducible repeat (first | apply Kd.R_alloc | apply Kd.R_drewN | apply Kd.R_drew)); exact HO_9.out⟩, ⟨by repeat (first | (with_reducible first | exact HB.out | apply below_alloc | apply pw_below_drewN | apply below_drew1) | exact HB.out)⟩⟩
                                · rw [if_neg c35] at H
                                  exact absurd H (by simp)
                              · rw [if_neg c34] at H
                                exact absurd H (by simp)
                          · replace c31 := Bool.eq_false_iff.mpr c31
                            subst c31
                            have H1 : (if x10_2 ≥ (t141.length : Int) then (some false) else (if 0 ≤ x10_2 then (if x10_2 < (t141.length : Int) then (if ((rdOf false t141 x10_2) != (rdOf false t132 x10_2)) = true then (some false) else (signalmanlaw02_TapeTurns.l0 kj28 l0 t132 y138 t141 (wrap64 (x10_2 + 1)))) else (none)) else (none))) = some r := by rw [if_neg (show ¬ (false = true) by decide)] at H; exact H
                            clear H
                            have H := H1
                            clear H1
                            by_cases c39 : x10_2 ≥ (t141.length : Int)
                            · rw [if_pos c39] at H
                              have c39b0 : decide ((t141.length : Int) ≤ x10_2) = true := decide_eq_true c39
                              clear c39
                              obtain rfl := Option.some.inj H
                              obtain ⟨Ao40, co40, eo40⟩ := Kd.R_slice HO_9.out
                              subst eo40
                              go_wp2
                              go_ret
                              exact ⟨by first | rfl | (simp [errW_none, errW_some] <;> rfl) | (simp only [← hji17]; first | rfl | (simp [errW_none, errW_some] <;> rfl)) | (simp [*, errW_none, errW_some] <;> rfl), by repeat (first | (with_reducible first | exact HB.out | apply below_alloc | apply pw_below_drewN | apply below_drew1) | exact HB.out)⟩
                            · rw [if_neg c39] at H
                              have c39b0 : decide ((t141.length : Int) ≤ x10_2) = false := decide_eq_false c39
                              clear c39
                              by_cases c41 : 0 ≤ x10_2
                              · rw [if_pos c41] at H
                                have c41b0 : decide (0 ≤ x10_2) = true := decide_eq_true c41
                                clear c41
                                by_cases c42 : x10_2 < (t141.length : Int)
                                · rw [if_pos c42] at H
                                  have c42b0 : decide (x10_2 < (t141.length : Int)) = true := decide_eq_true c42
                                  clear c42
                                  by_cases c43 : ((rdOf false t141 x10_2) != (rdOf false t132 x10_2)) = true
                                  · rw [if_pos c43] at H
                                    have c43b0 : ((rdOf false t141 x10_2) != (rdOf false t132 x10_2)) = true := c43
                                    (try (have c43b1 : decide ((rdOf false t141 x10_2) = (rdOf false t132 x10_2)) = false := by simpa using c43))
                                    (try (have c43b2 : ((rdOf false t141 x10_2) == (rdOf false t132 x10_2)) = false := by simpa using c43))
                                    (try (have c43b3 : ¬ ((rdOf false t141 x10_2) = (rdOf false t132 x10_2)) := by simpa using c43))
                                    clear c43
                                    obtain rfl := Option.some.inj H
                                    obtain ⟨Ao44, co44, eo44⟩ := Kd.R_slice HO_9.out
                                    subst eo44
                                    have p147 : 0 ≤ (x10_2 : Int) := of_decide_eq_true (by first | (with_reducible assumption) | assumption)
                                    have q147 : x10_2 < (t141.length : Int) := of_decide_eq_true (by first | (with_reducible assumption) | assumption)
                                    obtain ⟨ad147, e147, hx147_0⟩ := Kd.at_bool (Kd.R_reads' HO_9.out).2.2 x10_2 p147 q147
                                    cases e147
                                    replace p147 := eq_true p147
                                    replace q147 := eq_true q147
                                    go_wp2
                                    go_ret
                                    exact ⟨by first | rfl | (simp [errW_none, errW_some] <;> rfl) | (simp only [← hji17]; first | rfl | (simp [errW_none, errW_some] <;> rfl)) | (simp [*, errW_none, errW_some] <;> rfl), by repeat (first | (with_reducible first | exact HB.out | apply below_alloc | apply pw_below_drewN | apply below_drew1) | exact HB.out)⟩
                                  · rw [if_neg c43] at H
                                    have c43b0 : ((rdOf false t141 x10_2) != (rdOf false t132 x10_2)) = false := by simpa using c43
                                    (try (have c43b1 : decide ((rdOf false t141 x10_2) = (rdOf false t132 x10_2)) = true := by simpa using c43))
                                    (try (have c43b2 : ((rdOf false t141 x10_2) == (rdOf false t132 x10_2)) = true := by simpa using c43))
                                    clear c43
                                    have H' := Aside0.mk H
                                    clear H
                                    obtain ⟨Ao45, co45, eo45⟩ := Kd.R_slice HO_9.out
                                    subst eo45
                                    have p147 : 0 ≤ (x10_2 : Int) := of_decide_eq_true (by first | (with_reducible assumption) | assumption)
                                    have q147 : x10_2 < (t141.length : Int) := of_decide_eq_true (by first | (with_reducible assumption) | assumption)
                                    obtain ⟨ad147, e147, hx147_0⟩ := Kd.at_bool (Kd.R_reads' HO_9.out).2.2 x10_2 p147 q147
                                    cases e147
                                    replace p147 := eq_true p147
                                    replace q147 := eq_true q147
                                    go_wp2
                                    go_roundg kj28
                                    case measure => have := HJ3.out; have := HK2.out; have := HJ28.out; omega
                                    case rel => exact ⟨(wrap64 (x10_2 + 1)), (by first | rfl | (simp; done) | (simp [*]; done) | (simp; omega)), H', ⟨by have := HJ3.out; have := HK2.out; have := HJ28.out; omega⟩, ⟨by (with_reducible repeat (first | apply Kd.R_alloc | apply Kd.R_drewN | apply Kd.R_drew)); exact HO_7.out⟩, ⟨by (with_reducible repeat (first | apply Kd.R_alloc | apply Kd.R_drewN | apply Kd.R_drew)); exact HO_8.out⟩, ⟨by (with_reducible repeat (first | apply Kd.R_alloc | apply Kd.R_drewN | apply Kd.R_drew)); exact HO_9.out⟩, ⟨by repeat (first | (with_reducible first | exact HB.out | apply below_alloc | apply pw_below_drewN | apply below_drew1) | exact HB.out)⟩⟩
                                · rw [if_neg c42] at H
                                  exact absurd H (by simp)
                              · rw [if_neg c41] at H
                                exact absurd H (by simp)
                    · rw [if_neg c28] at H
                      exact absurd H (by simp)
                  · rw [if_neg c27] at H
                    have c27b0 : decide (x10_2 < (t132.length : Int)) = false := decide_eq_false c27
                    clear c27
                    by_cases c46 : (t141.length : Int) = (t132.length : Int)
                    · rw [if_pos c46] at H
                      have c46b0 : ((t141.length : Int) == (t132.length : Int)) = true := beq_iff_eq.mpr c46
                      have c46b1 : ((t141.length : Int) != (t132.length : Int)) = false := bne_eq_false_iff_eq.mpr c46
                      have c46b2 : (t141.length == t132.length) = true := by first | simpa using c46 | (simp at c46 ⊢; omega)
                      clear c46
                      replace H := Option.bind_eq_some_iff.mp H
                      obtain ⟨t148, A470, H⟩ := H
                      replace H : ((tape_Same.f k2 t148 t132).bind fun t151 => (if t151 = true then ((signalmanref01_Bits.f k2 l0).bind fun t152 => ((signalmanref01_Same.f k2 t132 t152).bind fun t155 => (some t155))) else (some false))) = some r := H
                      have A47 := Aside0.mk A470
                      clear A470
                      replace H := Option.bind_eq_some_iff.mp H
                      obtain ⟨t151, A480, H⟩ := H
                      replace H : (if t151 = true then ((signalmanref01_Bits.f k2 l0).bind fun t152 => ((signalmanref01_Same.f k2 t132 t152).bind fun t155 => (some t155))) else (some false)) = some r := H
                      have A48 := Aside0.mk A480
                      clear A480
                      by_cases c49 : t151 = true
                      · subst c49
                        have H1 : ((signalmanref01_Bits.f k2 l0).bind fun t152 => ((signalmanref01_Same.f k2 t132 t152).bind fun t155 => (some t155))) = some r := by rw [if_pos rfl] at H; exact H
                        clear H
                        have H := H1
                        clear H1
                        replace H := Option.bind_eq_some_iff.mp H
                        obtain ⟨t152, A500, H⟩ := H
                        replace H : ((signalmanref01_Same.f k2 t132 t152).bind fun t155 => (some t155)) = some r := H
                        have A50 := Aside0.mk A500
                        clear A500
                        replace H := Option.bind_eq_some_iff.mp H
                        obtain ⟨t155, A510, H⟩ := H
                        replace H : (some t155) = some r := H
                        have A51 := Aside0.mk A510
                        clear A510
                        obtain rfl := Option.some.inj H
                        obtain ⟨Ao52, co52, eo52⟩ := Kd.R_slice HO_9.out
                        subst eo52
                        go_wp2_with (first | (go_at_call 20; (with_reducible refine (tape_Tape_Turn.calls _ _ t141 _ _ y138 t148 _ ?side1 ?side2 ?side3 ?side4 A47.out).mono ?_); (case side1 => repeat (first | exact (Kd.R_reads' HO_9.out).2.2 | (with_reducible refine Kd.C_alloc ?_ _) | (with_reducible refine Kd.C_drewN ?_ _) | (with_reducible refine Kd.C_drew ?_))); (case side2 => exact (Kd.R_reads' HO_9.out).2.1); (case side3 => repeat (first | exact (Kd.R_reads' HO_8.out).2.2 | (with_reducible refine Kd.C_alloc ?_ _) | (with_reducible refine Kd.C_drewN ?_ _) | (with_reducible refine Kd.C_drew ?_))); (case side4 => exact (Kd.R_reads' HO_8.out).2.1); rintro e w53 ⟨v149, rfl, ho0, hb⟩; have n0_ := Aside0.mk (Kd.R_elder' (by (with_reducible repeat (first | apply Kd.R_alloc | apply Kd.R_drewN | apply Kd.R_drew)); exact HO_7.out) (Kd.R_base ho0) hb); have n1_ := Aside0.mk (Kd.R_elder' (by (with_reducible repeat (first | apply Kd.R_alloc | apply Kd.R_drewN | apply Kd.R_drew)); exact HO_8.out) (Kd.R_base ho0) hb); have n2_ := Aside0.mk (Kd.R_elder' (by (with_reducible repeat (first | apply Kd.R_alloc | apply Kd.R_drewN | apply Kd.R_drew)); exact HO_9.out) (Kd.R_base ho0) hb); have n3_ := Aside0.mk (Kd.R_lower (Kd.R_new' (Kd.R_new' (Kd.R_new' ho0 (Kd.R_lt (by (with_reducible repeat (first | apply Kd.R_alloc | apply Kd.R_drewN | apply Kd.R_drew)); exact HO_7.out))) (Kd.R_lt (by (with_reducible repeat (first | apply Kd.R_alloc | apply Kd.R_drewN | apply Kd.R_drew)); exact HO_8.out))) (Kd.R_lt (by (with_reducible repeat (first | apply Kd.R_alloc | apply Kd.R_drewN | apply Kd.R_drew)); exact HO_9.out))) (below_size (by repeat (first | (with_reducible first | exact HB.out | apply below_alloc | apply pw_below_drewN | apply below_drew1) | exact HB.out)))); have n4_ := Aside0.mk (below_step (by repeat (first | (with_reducible first | exact HB.out | apply below_alloc | apply pw_below_drewN | apply below_drew1) | exact HB.out)) hb); clear HO_7; clear HO_8; clear HO_9; clear HB; have HO_7 := n0_; have HO_8 := n1_; have HO_9 := n2_; have HO150 := n3_; have HB := n4_; clear n0_ n1_ n2_ n3_ n4_; (try clear hb); (try clear hb2); (try clear hk); (try clear hi); (try clear ho0); obtain ⟨Ao54, co54, eo54⟩ := Kd.R_slice HO150.out; subst eo54) | (go_at_call 13; (with_reducible refine (tape_Same.calls k2 _ _ t148 _ _ t132 true _ ?side1 ?side2 ?side3 ?side4 A48.out).mono ?_); (case side1 => repeat (first | exact (Kd.R_reads' HO150.out).2.2 | (with_reducible refine Kd.C_alloc ?_ _) | (with_reducible refine Kd.C_drewN ?_ _) | (with_reducible refine Kd.C_drew ?_))); (case side2 => exact (Kd.R_reads' HO150.out).2.1); (case side3 => repeat (first | exact (Kd.R_reads' HO_7.out).2.2 | (with_reducible refine Kd.C_alloc ?_ _) | (with_reducible refine Kd.C_drewN ?_ _) | (with_reducible refine Kd.C_drew ?_))); (case side4 => exact (Kd.R_reads' HO_7.out).2.1); rintro e w' ⟨rfl, ⟨nd, rfl⟩⟩) | (go_at_call 12; (with_reducible refine (signalmanref01_Bits.calls k2 _ _ l0 t152 _ ?side1 ?side2 A50.out).mono ?_); (case side1 => repeat (first | exact (Kd.C_below HR0.out (by repeat (first | (with_reducible first | exact HB.out | apply below_alloc | apply pw_below_drewN | apply below_drew1) | exact HB.out))) | (with_reducible refine Kd.C_alloc ?_ _) | (with_reducible refine Kd.C_drewN ?_ _) | (with_reducible refine Kd.C_drew ?_))); (case side2 => exact HC0.out); rintro e w55 ⟨v153, rfl, ho0, hb⟩; have n0_ := Aside0.mk (Kd.R_elder' (by (with_reducible repeat (first | apply Kd.R_alloc | apply Kd.R_drewN | apply Kd.R_drew)); exact HO_7.out) (Kd.R_base ho0) hb); have n1_ := Aside0.mk (Kd.R_elder' (by (with_reducible repeat (first | apply Kd.R_alloc | apply Kd.R_drewN | apply Kd.R_drew)); exact HO_8.out) (Kd.R_base ho0) hb); have n2_ := Aside0.mk (Kd.R_elder' (by (with_reducible repeat (first | apply Kd.R_alloc | apply Kd.R_drewN | apply Kd.R_drew)); exact HO_9.out) (Kd.R_base ho0) hb); have n3_ := Aside0.mk (Kd.R_elder' (by (with_reducible repeat (first | apply Kd.R_alloc | apply Kd.R_drewN | apply Kd.R_drew)); exact HO150.out) (Kd.R_base ho0) hb); have n4_ := Aside0.mk (Kd.R_lower (Kd.R_new' (Kd.R_new' (Kd.R_new' (Kd.R_new' ho0 (Kd.R_lt (by (with_reducible repeat (first | apply Kd.R_alloc | apply Kd.R_drewN | apply Kd.R_drew)); exact HO_7.out))) (Kd.R_lt (by (with_reducible repeat (first | apply Kd.R_alloc | apply Kd.R_drewN | apply Kd.R_drew)); exact HO_8.out))) (Kd.R_lt (by (with_reducible repeat (first | apply Kd.R_alloc | apply Kd.R_drewN | apply Kd.R_drew)); exact HO_9.out))) (Kd.R_lt (by (with_reducible repeat (first | apply Kd.R_alloc | apply Kd.R_drewN | apply Kd.R_drew)); exact HO150.out))) (below_size (by repeat (first | (with_reducible first | exact HB.out | apply below_alloc | apply pw_below_drewN | apply below_drew1) | exact HB.out)))); have n5_ := Aside0.mk (below_step (by repeat (first | (with_reducible first | exact HB.out | apply below_alloc | apply pw_below_drewN | apply below_drew1) | exact HB.out)) hb); clear HO_7; clear HO_8; clear HO_9; clear HO150; clear HB; have HO_7 := n0_; have HO_8 := n1_; have HO_9 := n2_; have HO150 := n3_; have HO154 := n4_; have HB := n5_; clear n0_ n1_ n2_ n3_ n4_ n5_; (try clear hb); (try clear hb2); (try clear hk); (try clear hi); (try clear ho0); obtain ⟨Ao56, co56, eo56⟩ := Kd.R_slice HO154.out; subst eo56) | (go_at_call 11; (with_reducible refine (signalmanref01_Same.calls k2 _ _ t132 _ _ t152 t155 _ ?side1 ?side2 ?side3 ?side4 A51.out).mono ?_); (case side1 => repeat (first | exact (Kd.R_reads' HO_7.out).2.2 | (with_reducible refine Kd.C_alloc ?_ _) | (with_reducible refine Kd.C_drewN ?_ _) | (with_reducible refine Kd.C_drew ?_))); (case side2 => exact (Kd.R_reads' HO_7.out).2.1); (case side3 => repeat (first | exact (Kd.R_reads' HO154.out).2.2 | (with_reducible refine Kd.C_alloc ?_ _) | (with_reducible refine Kd.C_drewN ?_ _) | (with_reducible refine Kd.C_drew ?_))); (case side4 => exact (Kd.R_reads' HO154.out).2.1); rintro e w57 ⟨rfl, hb⟩; have n0_ := Aside0.mk (Kd.R_below (by (with_reducible repeat (first | apply Kd.R_alloc | apply Kd.R_drewN | apply Kd.R_drew)); exact HO_7.out) hb); have n1_ := Aside0.mk (Kd.R_below (by (with_reducible repeat (first | apply Kd.R_alloc | apply Kd.R_drewN | apply Kd.R_drew)); exact HO_8.out) hb); have n2_ := Aside0.mk (Kd.R_below (by (with_reducible repeat (first | apply Kd.R_alloc | apply Kd.R_drewN | apply Kd.R_drew)); exact HO_9.out) hb); have n3_ := Aside0.mk (Kd.R_below (by (with_reducible repeat (first | apply Kd.R_alloc | apply Kd.R_drewN | apply Kd.R_drew)); exact HO150.out) hb); have n4_ := Aside0.mk (Kd.R_below (by (with_reducible repeat (first | apply Kd.R_alloc | apply Kd.R_drewN | apply Kd.R_drew)); exact HO154.out) hb); have n5_ := Aside0.mk (below_step (by repeat (first | (with_reducible first | exact HB.out | apply below_alloc | apply pw_below_drewN | apply below_drew1) | exact HB.out)) hb); clear HO_7; clear HO_8; clear HO_9; clear HO150; clear HO154; clear HB; have HO_7 := n0_; have HO_8 := n1_; have HO_9 := n2_; have HO150 := n3_; have HO154 := n4_; have HB := n5_; clear n0_ n1_ n2_ n3_ n4_ n5_; (try clear hb); (try clear hb2); (try clear hk); (try clear hi)))
                        go_ret
                        exact ⟨by first | rfl | (simp [errW_none, errW_some] <;> rfl) | (simp only [← hji17]; first | rfl | (simp [errW_none, errW_some] <;> rfl)) | (simp [*, errW_none, errW_some] <;> rfl), by repeat (first | (with_reducible first | exact HB.out | apply below_alloc | apply pw_below_drewN | apply below_drew1) | exact HB.out)⟩
                      · replace c49 := Bool.eq_false_iff.mpr c49
                        subst c49
                        have H1 : (some false) = some r := by rw [if_neg (show ¬ (false = true) by decide)] at H; exact H
                        clear H
                        have H := H1
                        clear H1
                        obtain rfl := Option.some.inj H
                        obtain ⟨Ao58, co58, eo58⟩ := Kd.R_slice HO_9.out
                        subst eo58
                        go_wp2_with (first | (go_at_call 20; (with_reducible refine (tape_Tape_Turn.calls _ _ t141 _ _ y138 t148 _ ?side1 ?side2 ?side3 ?side4 A47.out).mono ?_); (case side1 => repeat (first | exact (Kd.R_reads' HO_9.out).2.2 | (with_reducible refine Kd.C_alloc ?_ _) | (with_reducible refine Kd.C_drewN ?_ _) | (with_reducible refine Kd.C_drew ?_))); (case side2 => exact (Kd.R_reads' HO_9.out).2.1); (case side3 => repeat (first | exact (Kd.R_reads' HO_8.out).2.2 | (with_reducible refine Kd.C_alloc ?_ _) | (with_reducible refine Kd.C_drewN ?_ _) | (with_reducible refine Kd.C_drew ?_))); (case side4 => exact (Kd.R_reads' HO_8.out).2.1); rintro e w59 ⟨v149, rfl, ho0, hb⟩; have n0_ := Aside0.mk (Kd.R_elder' (by (with_reducible repeat (first | apply Kd.R_alloc | apply Kd.R_drewN | apply Kd.R_drew)); exact HO_7.out) (Kd.R_base ho0) hb); have n1_ := Aside0.mk (Kd.R_elder' (by (with_reducible repeat (first | apply Kd.R_alloc | apply Kd.R_drewN | apply Kd.R_drew)); exact HO_8.out) (Kd.R_base ho0) hb); have n2_ := Aside0.mk (Kd.R_elder' (by (with_reducible repeat (first | apply Kd.R_alloc | apply Kd.R_drewN | apply Kd.R_drew)); exact HO_9.out) (Kd.R_base ho0) hb); have n3_ := Aside0.mk (Kd.R_lower (Kd.R_new' (Kd.R_new' (Kd.R_new' ho0 (Kd.R_lt (by (with_reducible repeat (first | apply Kd.R_alloc | apply Kd.R_drewN | apply Kd.R_drew)); exact HO_7.out))) (Kd.R_lt (by (with_reducible repeat (first | apply Kd.R_alloc | apply Kd.R_drewN | apply Kd.R_drew)); exact HO_8.out))) (Kd.R_lt (by (with_reducible repeat (first | apply Kd.R_alloc | apply Kd.R_drewN | apply Kd.R_drew)); exact HO_9.out))) (below_size (by repeat (first | (with_reducible first | exact HB.out | apply below_alloc | apply pw_below_drewN | apply below_drew1) | exact HB.out)))); have n4_ := Aside0.mk (below_step (by repeat (first | (with_reducible first | exact HB.out | apply below_alloc | apply pw_below_drewN | apply below_drew1) | exact HB.out)) hb); clear HO_7; clear HO_8; clear HO_9; clear HB; have HO_7 := n0_; have HO_8 := n1_; have HO_9 := n2_; have HO150 := n3_; have HB := n4_; clear n0_ n1_ n2_ n3_ n4_; (try clear hb); (try clear hb2); (try clear hk); (try clear hi); (try clear ho0); obtain ⟨Ao60, co60, eo60⟩ := Kd.R_slice HO150.out; subst eo60) | (go_at_call 13; (with_reducible refine (tape_Same.calls k2 _ _ t148 _ _ t132 false _ ?side1 ?side2 ?side3 ?side4 A48.out).mono ?_); (case side1 => repeat (first | exact (Kd.R_reads' HO150.out).2.2 | (with_reducible refine Kd.C_alloc ?_ _) | (with_reducible refine Kd.C_drewN ?_ _) | (with_reducible refine Kd.C_drew ?_))); (case side2 => exact (Kd.R_reads' HO150.out).2.1); (case side3 => repeat (first | exact (Kd.R_reads' HO_7.out).2.2 | (with_reducible refine Kd.C_alloc ?_ _) | (with_reducible refine Kd.C_drewN ?_ _) | (with_reducible refine Kd.C_drew ?_))); (case side4 => exact (Kd.R_reads' HO_7.out).2.1); rintro e w' ⟨rfl, ⟨nd, rfl⟩⟩))
                        go_ret
                        exact ⟨by first | rfl | (simp [errW_none, errW_some] <;> rfl) | (simp only [← hji17]; first | rfl | (simp [errW_none, errW_some] <;> rfl)) | (simp [*, errW_none, errW_some] <;> rfl), by repeat (first | (with_reducible first | exact HB.out | apply below_alloc | apply pw_below_drewN | apply below_drew1) | exact HB.out)⟩
                    · rw [if_neg c46] at H
                      have c46b0 : ((t141.length : Int) == (t132.length : Int)) = false := beq_eq_false_iff_ne.mpr c46
                      have c46b1 : ((t141.length : Int) != (t132.length : Int)) = true := bne_iff_ne.mpr c46
                      have c46b2 : (t141.length == t132.length) = false := by first | simpa using c46 | (simp at c46 ⊢; omega)
                      obtain rfl := Option.some.inj H
                      obtain ⟨Ao61, co61, eo61⟩ := Kd.R_slice HO_9.out
                      subst eo61
                      go_wp2
                      go_ret
                      exact ⟨by first | rfl | (simp [errW_none, errW_some] <;> rfl) | (simp only [← hji17]; first | rfl | (simp [errW_none, errW_some] <;> rfl)) | (simp [*, errW_none, errW_some] <;> rfl), by repeat (first | (with_reducible first | exact HB.out | apply below_alloc | apply pw_below_drewN | apply below_drew1) | exact HB.out)⟩
            · rw [if_neg c19] at H
              exact absurd H (by simp)
          · rw [if_neg c18] at H
            exact absurd H (by simp)

/-- THE ONE PURE STATEMENT of signalmanlaw02_TapeTurns: yours. -/
def signalmanlaw02_TapeTurns.Pure : Prop := ∀ (l0 : List Int) (l1 : List Int) (a2 : Int), l0.length ≤ maxLen → l0.length * 1 ≤ 140737488351232 → (∀ x ∈ l0, (Lit.int .u8 x).wf = true) → l1.length ≤ maxLen → l1.length * 1 ≤ 140737488351232 → (∀ x ∈ l1, (Lit.int .u8 x).wf = true) → (Lit.int .u8 a2).wf = true → ∃ k, signalmanlaw02_TapeTurns.f k l0 l1 a2 = some true
theorem signalmanlaw02_TapeTurns.walk (P : signalmanlaw02_TapeTurns.Pure) (a0 : Option Addr) (len0 cap0 : Nat) (z0 : List Int) (a1 : Option Addr) (len1 cap1 : Nat) (z1 : List Int) (a2 : Int) (w : World) (w0 : (a0 = none ∧ len0 = 0 ∧ cap0 = 0 ∧ z0 = []) ∨ ∃ x, a0 = some x ∧ len0 ≤ cap0 ∧ cap0 ≤ maxLen ∧ z0.length = cap0 ∧ (∀ i, i < z0.length → w.cell? (x.add i) = some (.int .u8 (z0.getD i 0))) ∧ ∀ n ∈ z0, (Lit.int .u8 n).wf = true) (y0 : len0 * 1 ≤ 140737488351232) (w1 : (a1 = none ∧ len1 = 0 ∧ cap1 = 0 ∧ z1 = []) ∨ ∃ x, a1 = some x ∧ len1 ≤ cap1 ∧ cap1 ≤ maxLen ∧ z1.length = cap1 ∧ (∀ i, i < z1.length → w.cell? (x.add i) = some (.int .u8 (z1.getD i 0))) ∧ ∀ n ∈ z1, (Lit.int .u8 n).wf = true) (y1 : len1 * 1 ≤ 140737488351232) (w2 : (Lit.int .u8 a2).wf = true) :
    Calls Try.prog 7 #[.slice a0 len0 cap0, .slice a1 len1 cap1, .int .u8 a2] w fun e w' => e = .returned (.bool true) ∧ Below w.heap.size w w' := by
  obtain ⟨l0, rfl, hr0, hm0, hw0, hc0⟩ := ReadsInt.ofRowC w0
  obtain ⟨l1, rfl, hr1, hm1, hw1, hc1⟩ := ReadsInt.ofRowC w1
  obtain ⟨k, h⟩ := P l0 l1 a2 hm0 y0 hw0 hm1 y1 hw1 w2
  refine (signalmanlaw02_TapeTurns.calls k _ _ l0 _ _ l1 a2 true w (Kd.C_of_reads (d := (0 : Int)) (h1 := fun _ => rfl) hr0) hc0 (Kd.C_of_reads (d := (0 : Int)) (h1 := fun _ => rfl) hr1) hc1 h).mono ?_
  rintro e w' ⟨rfl, hd⟩
  exact ⟨rfl, hd⟩

end Go.Proofs.Ytjaenbcboecdbaa.MTapeTurns
