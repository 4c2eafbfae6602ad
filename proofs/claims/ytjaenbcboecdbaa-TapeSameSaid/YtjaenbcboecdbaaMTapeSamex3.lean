/- A part of the proof of the given statement that each law names; no condition. Written by a program of this session's own (wip/tools/myprint.py, over the kit's print); Lean checks it. -/
import Derived.Test.YtjaenbcboecdbaaMTapeSamex0
import Derived.Test.YtjaenbcboecdbaaMTapeSamex1
import Derived.Test.YtjaenbcboecdbaaMTapeSamex2
namespace Go.Proofs.Ytjaenbcboecdbaa.MTapeSame
open Go.RowKit Go.Proofs.YtjaenbcboecdbaaW.PrintWords Go.Proofs.YtjaenbcboecdbaaW.PrintLast Go.Proofs.YtjaenbcboecdbaaW.PrintMore
attribute [local go_sem] max2_int min2_int max_two min_two max_three min_three max_four min_four   -- for this text's walks alone
set_option linter.unusedVariables false
set_option linter.unusedSimpArgs false

/-! ### signalmanlaw02_TapeSame: function 4 -/
mutual
def signalmanlaw02_TapeSame.j0 : Nat → List Int → List Int → Int → Bool → Option (Bool)
  | 0, _, _, _, _ => none
  | k + 1, x0, x1, x2, x22 => if x22 = true then ((signalmanlaw02_awake.f k).bind fun t131 => (some t131)) else ((signalmanref01_Bits.f k x0).bind fun t132 => ((signalmanref01_Bits.f k x1).bind fun t135 => (if (wrap64 ((t135.length : Int) + 1)) = 0 then (none) else (if 0 ≤ (wrap64 ((t135.length : Int) - (Int.tmod (wrap64 (x2)) (wrap64 ((t135.length : Int) + 1))))) then (if (wrap64 ((t135.length : Int) - (Int.tmod (wrap64 (x2)) (wrap64 ((t135.length : Int) + 1))))) ≤ (t135.length : Int) then (signalmanlaw02_TapeSame.l0 k t132 (t135.take ((wrap64 ((t135.length : Int) - (Int.tmod (wrap64 (x2)) (wrap64 ((t135.length : Int) + 1))))) : Int).toNat) 0 0) else (none)) else (none)))))
def signalmanlaw02_TapeSame.l0 : Nat → List Bool → List Bool → Int → Int → Option (Bool)
  | 0, _, _, _, _ => none
  | k + 1, x7, x8, x9, x10 => if x10 < (x8.length : Int) then (signalmanlaw02_TapeSame.j2 k x7 x8 x9 x10 (decide (x10 < 8))) else (signalmanlaw02_TapeSame.j2 k x7 x8 x9 x10 false)
def signalmanlaw02_TapeSame.j2 : Nat → List Bool → List Bool → Int → Int → Bool → Option (Bool)
  | 0, _, _, _, _, _ => none
  | k + 1, x7, x8, x9, x10, x46 => if x46 = true then (if 0 ≤ x10 then (if x10 < (x8.length : Int) then (if rdOf false x8 x10 = true then (signalmanlaw02_TapeSame.l0 k x7 x8 ((x9 + (shl .u8 1 x10)) % 256) (wrap64 (x10 + 1))) else (signalmanlaw02_TapeSame.l0 k x7 x8 x9 (wrap64 (x10 + 1)))) else (none)) else (none)) else ((tape_Same.f k x7 x8).bind fun t142 => ((signalmanref01_Same.f k x7 x8).bind fun t143 => (if (t142 == t143) = true then ((tape_Same.f k x7 x7).bind fun t144 => (if t144 = true then ((tape_Low.f k x8).bind fun t145 => (some (t145 == x9))) else (some false))) else (some false))))
end
def signalmanlaw02_TapeSame.f (k : Nat) (l0 : List Int) (l1 : List Int) (a2 : Int) : Option (Bool) := (signalmanlaw02_awake.f k).bind fun t130 => (if t130 = true then (if (l0.length : Int) > 100 then (signalmanlaw02_TapeSame.j0 k l0 l1 a2 true) else (signalmanlaw02_TapeSame.j0 k l0 l1 a2 (decide ((l1.length : Int) > 100)))) else (signalmanlaw02_TapeSame.j0 k l0 l1 a2 true))
theorem signalmanlaw02_TapeSame.mono_l : ∀ k, (∀ y0 y1 y2 y3, LeO (signalmanlaw02_TapeSame.j0 k y0 y1 y2 y3) (signalmanlaw02_TapeSame.j0 (k + 1) y0 y1 y2 y3)) ∧ (∀ y0 y1 y2 y3, LeO (signalmanlaw02_TapeSame.l0 k y0 y1 y2 y3) (signalmanlaw02_TapeSame.l0 (k + 1) y0 y1 y2 y3)) ∧ (∀ y0 y1 y2 y3 y4, LeO (signalmanlaw02_TapeSame.j2 k y0 y1 y2 y3 y4) (signalmanlaw02_TapeSame.j2 (k + 1) y0 y1 y2 y3 y4))
  | 0 => ⟨fun _ _ _ _ r h => by simp [signalmanlaw02_TapeSame.j0] at h, fun _ _ _ _ r h => by simp [signalmanlaw02_TapeSame.l0] at h, fun _ _ _ _ _ r h => by simp [signalmanlaw02_TapeSame.j2] at h⟩
  | k + 1 => by
    obtain ⟨ih0, ih1, ih2⟩ := signalmanlaw02_TapeSame.mono_l k
    refine ⟨?_, ?_, ?_⟩
    · intro y0 y1 y2 y3
      unfold signalmanlaw02_TapeSame.j0
      repeat' first
      | (with_reducible exact ih0 _ _ _ _)
      | (with_reducible exact ih1 _ _ _ _)
      | (with_reducible exact ih2 _ _ _ _ _)
      | (with_reducible exact signalmanlaw02_awake.mono _)
      | (with_reducible exact signalmanref01_Bits.mono _ _)
      | (with_reducible exact signalmanref01_Same.mono _ _ _)
      | (with_reducible exact tape_Low.mono _ _)
      | (with_reducible exact tape_Same.mono _ _ _)
      | (with_reducible exact LeO.refl _)
      | (with_reducible exact LeO.none _)
      | (with_reducible refine LeO.ite ?_ ?_)
      | (with_reducible refine LeO.bind ?_ (fun _ => ?_))
      | exact ih0 _ _ _ _
      | exact ih1 _ _ _ _
      | exact ih2 _ _ _ _ _
      | exact signalmanlaw02_awake.mono _
      | exact signalmanref01_Bits.mono _ _
      | exact signalmanref01_Same.mono _ _ _
      | exact tape_Low.mono _ _
      | exact tape_Same.mono _ _ _
      | exact LeO.none _
      | refine LeO.ite ?_ ?_
      | refine LeO.bind ?_ (fun _ => ?_)
    · intro y0 y1 y2 y3
      unfold signalmanlaw02_TapeSame.l0
      repeat' first
      | (with_reducible exact ih0 _ _ _ _)
      | (with_reducible exact ih1 _ _ _ _)
      | (with_reducible exact ih2 _ _ _ _ _)
      | (with_reducible exact signalmanlaw02_awake.mono _)
      | (with_reducible exact signalmanref01_Bits.mono _ _)
      | (with_reducible exact signalmanref01_Same.mono _ _ _)
      | (with_reducible exact tape_Low.mono _ _)
      | (with_reducible exact tape_Same.mono _ _ _)
      | (with_reducible exact LeO.refl _)
      | (with_reducible exact LeO.none _)
      | (with_reducible refine LeO.ite ?_ ?_)
      | (with_reducible refine LeO.bind ?_ (fun _ => ?_))
      | exact ih0 _ _ _ _
      | exact ih1 _ _ _ _
      | exact ih2 _ _ _ _ _
      | exact signalmanlaw02_awake.mono _
      | exact signalmanref01_Bits.mono _ _
      | exact signalmanref01_Same.mono _ _ _
      | exact tape_Low.mono _ _
      | exact tape_Same.mono _ _ _
      | exact LeO.none _
      | refine LeO.ite ?_ ?_
      | refine LeO.bind ?_ (fun _ => ?_)
    · intro y0 y1 y2 y3 y4
      unfold signalmanlaw02_TapeSame.j2
      repeat' first
      | (with_reducible exact ih0 _ _ _ _)
      | (with_reducible exact ih1 _ _ _ _)
      | (with_reducible exact ih2 _ _ _ _ _)
      | (with_reducible exact signalmanlaw02_awake.mono _)
      | (with_reducible exact signalmanref01_Bits.mono _ _)
      | (with_reducible exact signalmanref01_Same.mono _ _ _)
      | (with_reducible exact tape_Low.mono _ _)
      | (with_reducible exact tape_Same.mono _ _ _)
      | (with_reducible exact LeO.refl _)
      | (with_reducible exact LeO.none _)
      | (with_reducible refine LeO.ite ?_ ?_)
      | (with_reducible refine LeO.bind ?_ (fun _ => ?_))
      | exact ih0 _ _ _ _
      | exact ih1 _ _ _ _
      | exact ih2 _ _ _ _ _
      | exact signalmanlaw02_awake.mono _
      | exact signalmanref01_Bits.mono _ _
      | exact signalmanref01_Same.mono _ _ _
      | exact tape_Low.mono _ _
      | exact tape_Same.mono _ _ _
      | exact LeO.none _
      | refine LeO.ite ?_ ?_
      | refine LeO.bind ?_ (fun _ => ?_)
theorem signalmanlaw02_TapeSame.mono : ∀ a0 a1 a2 k, LeO (signalmanlaw02_TapeSame.f k a0 a1 a2) (signalmanlaw02_TapeSame.f (k + 1) a0 a1 a2) := by
  intro a0 a1 a2 k
  obtain ⟨ih0, ih1, ih2⟩ := signalmanlaw02_TapeSame.mono_l k
  unfold signalmanlaw02_TapeSame.f
  repeat' first
      | (with_reducible exact ih0 _ _ _ _)
      | (with_reducible exact ih1 _ _ _ _)
      | (with_reducible exact ih2 _ _ _ _ _)
      | (with_reducible exact signalmanlaw02_awake.mono _)
      | (with_reducible exact signalmanref01_Bits.mono _ _)
      | (with_reducible exact signalmanref01_Same.mono _ _ _)
      | (with_reducible exact tape_Low.mono _ _)
      | (with_reducible exact tape_Same.mono _ _ _)
      | (with_reducible exact LeO.refl _)
      | (with_reducible exact LeO.none _)
      | (with_reducible refine LeO.ite ?_ ?_)
      | (with_reducible refine LeO.bind ?_ (fun _ => ?_))
      | exact ih0 _ _ _ _
      | exact ih1 _ _ _ _
      | exact ih2 _ _ _ _ _
      | exact signalmanlaw02_awake.mono _
      | exact signalmanref01_Bits.mono _ _
      | exact signalmanref01_Same.mono _ _ _
      | exact tape_Low.mono _ _
      | exact tape_Same.mono _ _ _
      | exact LeO.none _
      | refine LeO.ite ?_ ?_
      | refine LeO.bind ?_ (fun _ => ?_)
set_option maxHeartbeats 8000000 in
set_option maxRecDepth 100000 in
theorem signalmanlaw02_TapeSame.calls (k : Nat) (A0 : Option Addr) (c0 : Nat) (l0 : List Int) (A1 : Option Addr) (c1 : Nat) (l1 : List Int) (a2 : Int) (r : Bool) (w : World) (hr0 : Kd.C (Kd.int .u8) w A0 l0.length l0) (hc0 : l0.length ≤ c0) (hr1 : Kd.C (Kd.int .u8) w A1 l1.length l1) (hc1 : l1.length ≤ c1) (h : signalmanlaw02_TapeSame.f k l0 l1 a2 = some r) :
    Calls Try.prog 4 #[.slice A0 l0.length c0, .slice A1 l1.length c1, .int .u8 a2] w fun e w' => e = .returned (.bool r) ∧ Below w.heap.size w w' := by
  have HR0 := Aside0.mk hr0
  have HC0 := Aside0.mk hc0
  clear hr0 hc0
  have HR1 := Aside0.mk hr1
  have HC1 := Aside0.mk hc1
  clear hr1 hc1
  have HB := Aside0.mk (Below.refl w.heap.size w)
  have H : ((signalmanlaw02_awake.f k).bind fun t130 => (if t130 = true then (if (l0.length : Int) > 100 then (signalmanlaw02_TapeSame.j0 k l0 l1 a2 true) else (signalmanlaw02_TapeSame.j0 k l0 l1 a2 (decide ((l1.length : Int) > 100)))) else (signalmanlaw02_TapeSame.j0 k l0 l1 a2 true))) = some r := h
  clear h
  have HC4 := Aside0.mk H
  clear H
  go_enter Try.func4, Try.ntmps4
  go_upto_region 1 with (fail)
  go_cut [22] (fun v22 wc => ∃ (kq : Nat) (x22_3 : Bool), v22 = .bool x22_3 ∧ Aside0 (signalmanlaw02_TapeSame.j0 kq l0 l1 a2 x22_3 = some r) ∧ Aside0 (kq ≤ k) ∧ Aside0 (Below w.heap.size w wc))
  case first =>
    have H := HC4.out
    clear HC4
    replace H := Option.bind_eq_some_iff.mp H
    obtain ⟨t130, A50, H⟩ := H
    replace H : (if t130 = true then (if (l0.length : Int) > 100 then (signalmanlaw02_TapeSame.j0 k l0 l1 a2 true) else (signalmanlaw02_TapeSame.j0 k l0 l1 a2 (decide ((l1.length : Int) > 100)))) else (signalmanlaw02_TapeSame.j0 k l0 l1 a2 true)) = some r := H
    have A5 := Aside0.mk A50
    clear A50
    by_cases c6 : t130 = true
    · subst c6
      have H1 : (if (l0.length : Int) > 100 then (signalmanlaw02_TapeSame.j0 k l0 l1 a2 true) else (signalmanlaw02_TapeSame.j0 k l0 l1 a2 (decide ((l1.length : Int) > 100)))) = some r := by rw [if_pos rfl] at H; exact H
      clear H
      have H := H1
      clear H1
      by_cases c7 : (l0.length : Int) > 100
      · rw [if_pos c7] at H
        have c7b0 : decide (100 < (l0.length : Int)) = true := decide_eq_true c7
        have c7b1 : decide (100 < l0.length) = true := decide_eq_true (by omega)
        clear c7
        (first | rw [c7b0] | (simp only [i64_w, i32_w]; rw [c7b0]) | skip)
        have H' := Aside0.mk H
        clear H
        go_wp2_with (first | ((with_reducible refine gate_callee (f := 8) rfl ?_); refine goesL_ (some 11) rfl rfl Try.func8 (by kernel_rfl) rfl #[] rfl (by (try simp only [List.map_toArray, List.map_cons, List.map_nil]); first | done | rfl | (simp only [List.length_drop, List.length_take]; rfl)) ?_; (with_reducible refine (signalmanlaw02_awake.calls k  true _ A5.out).mono ?_); rintro e w8 ⟨rfl, hb⟩; refine ⟨_, rfl, ?_⟩; have n0_ := Aside0.mk (below_step (by repeat (first | (with_reducible first | exact HB.out | apply below_alloc | apply pw_below_drewN | apply below_drew1) | exact HB.out)) hb); clear HB; have HB := n0_; clear n0_; (try clear hb); (try clear hb2); (try clear hk); (try clear hi)))
        go_meet
        case rel => exact ⟨_, (true), (by first | rfl | (simp; done) | (simp [*]; done)), H', ⟨by first | omega | exact Nat.le_refl _⟩, ⟨by repeat (first | (with_reducible first | exact HB.out | apply below_alloc | apply pw_below_drewN | apply below_drew1) | exact HB.out)⟩⟩
      · rw [if_neg c7] at H
        have c7b0 : decide (100 < (l0.length : Int)) = false := decide_eq_false c7
        have c7b1 : decide (100 < l0.length) = false := decide_eq_false (by omega)
        clear c7
        (first | rw [c7b0] | (simp only [i64_w, i32_w]; rw [c7b0]) | skip)
        have H' := Aside0.mk H
        clear H
        go_wp2_with (first | ((with_reducible refine gate_callee (f := 8) rfl ?_); refine goesL_ (some 11) rfl rfl Try.func8 (by kernel_rfl) rfl #[] rfl (by (try simp only [List.map_toArray, List.map_cons, List.map_nil]); first | done | rfl | (simp only [List.length_drop, List.length_take]; rfl)) ?_; (with_reducible refine (signalmanlaw02_awake.calls k  true _ A5.out).mono ?_); rintro e w9 ⟨rfl, hb⟩; refine ⟨_, rfl, ?_⟩; have n0_ := Aside0.mk (below_step (by repeat (first | (with_reducible first | exact HB.out | apply below_alloc | apply pw_below_drewN | apply below_drew1) | exact HB.out)) hb); clear HB; have HB := n0_; clear n0_; (try clear hb); (try clear hb2); (try clear hk); (try clear hi)))
        go_meet
        case rel => exact ⟨_, (decide ((l1.length : Int) > 100)), (by first | rfl | (simp; done) | (simp [*]; done)), H', ⟨by first | omega | exact Nat.le_refl _⟩, ⟨by repeat (first | (with_reducible first | exact HB.out | apply below_alloc | apply pw_below_drewN | apply below_drew1) | exact HB.out)⟩⟩
    · replace c6 := Bool.eq_false_iff.mpr c6
      subst c6
      have H1 : (signalmanlaw02_TapeSame.j0 k l0 l1 a2 true) = some r := by rw [if_neg (show ¬ (false = true) by decide)] at H; exact H
      clear H
      have H := H1
      clear H1
      have H' := Aside0.mk H
      clear H
      go_wp2_with (first | ((with_reducible refine gate_callee (f := 8) rfl ?_); refine goesL_ (some 11) rfl rfl Try.func8 (by kernel_rfl) rfl #[] rfl (by (try simp only [List.map_toArray, List.map_cons, List.map_nil]); first | done | rfl | (simp only [List.length_drop, List.length_take]; rfl)) ?_; (with_reducible refine (signalmanlaw02_awake.calls k  false _ A5.out).mono ?_); rintro e w10 ⟨rfl, hb⟩; refine ⟨_, rfl, ?_⟩; have n0_ := Aside0.mk (below_step (by repeat (first | (with_reducible first | exact HB.out | apply below_alloc | apply pw_below_drewN | apply below_drew1) | exact HB.out)) hb); clear HB; have HB := n0_; clear n0_; (try clear hb); (try clear hb2); (try clear hk); (try clear hi)))
      go_meet
      case rel => exact ⟨_, (true), (by first | rfl | (simp; done) | (simp [*]; done)), H', ⟨by first | omega | exact Nat.le_refl _⟩, ⟨by repeat (first | (with_reducible first | exact HB.out | apply below_alloc | apply pw_below_drewN | apply below_drew1) | exact HB.out)⟩⟩
  case rest =>
    clear HC4
    try clear c1
    try clear p2
    try clear c4
    try clear c6
    try clear c7
    try clear c7b0
    try clear c7b1
    try clear c8
    obtain ⟨kq, x22_3, rfl, HA, HJ3, HB⟩ := hcut
    cases kq with
    | zero => exact absurd HA.out (by simp [signalmanlaw02_TapeSame.j0])
    | succ kj3 =>
      have H := HA.out
      clear HA
      simp only [signalmanlaw02_TapeSame.j0] at H
      by_cases c11 : x22_3 = true
      · subst c11
        have H1 : ((signalmanlaw02_awake.f kj3).bind fun t131 => (some t131)) = some r := by rw [if_pos rfl] at H; exact H
        clear H
        have H := H1
        clear H1
        replace H := Option.bind_eq_some_iff.mp H
        obtain ⟨t131, A120, H⟩ := H
        replace H : (some t131) = some r := H
        have A12 := Aside0.mk A120
        clear A120
        obtain rfl := Option.some.inj H
        go_wp2_with (first | ((with_reducible refine gate_callee (f := 8) rfl ?_); refine goesL_ (some 23) rfl rfl Try.func8 (by kernel_rfl) rfl #[] rfl (by (try simp only [List.map_toArray, List.map_cons, List.map_nil]); first | done | rfl | (simp only [List.length_drop, List.length_take]; rfl)) ?_; (with_reducible refine (signalmanlaw02_awake.calls kj3  t131 _ A12.out).mono ?_); rintro e w13 ⟨rfl, hb⟩; refine ⟨_, rfl, ?_⟩; have n0_ := Aside0.mk (below_step (by repeat (first | (with_reducible first | exact HB.out | apply below_alloc | apply pw_below_drewN | apply below_drew1) | exact HB.out)) hb); clear HB; have HB := n0_; clear n0_; (try clear hb); (try clear hb2); (try clear hk); (try clear hi)))
        go_ret
        exact ⟨by first | rfl | (simp [errW_none, errW_some] <;> rfl) | (simp [*, errW_none, errW_some] <;> rfl), by repeat (first | (with_reducible first | exact HB.out | apply below_alloc | apply pw_below_drewN | apply below_drew1) | exact HB.out)⟩
      · replace c11 := Bool.eq_false_iff.mpr c11
        subst c11
        have H1 : ((signalmanref01_Bits.f kj3 l0).bind fun t132 => ((signalmanref01_Bits.f kj3 l1).bind fun t135 => (if (wrap64 ((t135.length : Int) + 1)) = 0 then (none) else (if 0 ≤ (wrap64 ((t135.length : Int) - (Int.tmod (wrap64 (a2)) (wrap64 ((t135.length : Int) + 1))))) then (if (wrap64 ((t135.length : Int) - (Int.tmod (wrap64 (a2)) (wrap64 ((t135.length : Int) + 1))))) ≤ (t135.length : Int) then (signalmanlaw02_TapeSame.l0 kj3 t132 (t135.take ((wrap64 ((t135.length : Int) - (Int.tmod (wrap64 (a2)) (wrap64 ((t135.length : Int) + 1))))) : Int).toNat) 0 0) else (none)) else (none))))) = some r := by rw [if_neg (show ¬ (false = true) by decide)] at H; exact H
        clear H
        have H := H1
        clear H1
        replace H := Option.bind_eq_some_iff.mp H
        obtain ⟨t132, A140, H⟩ := H
        replace H : ((signalmanref01_Bits.f kj3 l1).bind fun t135 => (if (wrap64 ((t135.length : Int) + 1)) = 0 then (none) else (if 0 ≤ (wrap64 ((t135.length : Int) - (Int.tmod (wrap64 (a2)) (wrap64 ((t135.length : Int) + 1))))) then (if (wrap64 ((t135.length : Int) - (Int.tmod (wrap64 (a2)) (wrap64 ((t135.length : Int) + 1))))) ≤ (t135.length : Int) then (signalmanlaw02_TapeSame.l0 kj3 t132 (t135.take ((wrap64 ((t135.length : Int) - (Int.tmod (wrap64 (a2)) (wrap64 ((t135.length : Int) + 1))))) : Int).toNat) 0 0) else (none)) else (none)))) = some r := H
        have A14 := Aside0.mk A140
        clear A140
        replace H := Option.bind_eq_some_iff.mp H
        obtain ⟨t135, A150, H⟩ := H
        replace H : (if (wrap64 ((t135.length : Int) + 1)) = 0 then (none) else (if 0 ≤ (wrap64 ((t135.length : Int) - (Int.tmod (wrap64 (a2)) (wrap64 ((t135.length : Int) + 1))))) then (if (wrap64 ((t135.length : Int) - (Int.tmod (wrap64 (a2)) (wrap64 ((t135.length : Int) + 1))))) ≤ (t135.length : Int) then (signalmanlaw02_TapeSame.l0 kj3 t132 (t135.take ((wrap64 ((t135.length : Int) - (Int.tmod (wrap64 (a2)) (wrap64 ((t135.length : Int) + 1))))) : Int).toNat) 0 0) else (none)) else (none))) = some r := H
        have A15 := Aside0.mk A150
        clear A150
        by_cases c16 : (wrap64 ((t135.length : Int) + 1)) = 0
        · rw [if_pos c16] at H
          exact absurd H (by simp)
        · rw [if_neg c16] at H
          have c16b0 : ((wrap64 ((t135.length : Int) + 1)) == 0) = false := beq_eq_false_iff_ne.mpr c16
          have c16b1 : ((wrap64 ((t135.length : Int) + 1)) != 0) = true := bne_iff_ne.mpr c16
          obtain ⟨ji17, hji17⟩ : ∃ j_ : Int, (wrap64 ((t135.length : Int) - (Int.tmod (wrap64 (a2)) (wrap64 ((t135.length : Int) + 1))))) = j_ := ⟨_, rfl⟩
          replace H : (if 0 ≤ (ji17) then (if (ji17) ≤ (t135.length : Int) then (signalmanlaw02_TapeSame.l0 kj3 t132 (t135.take ((ji17) : Int).toNat) 0 0) else (none)) else (none)) = some r := by first | (rw [hji17] at H; exact H) | (simp only [hji17] at H ⊢; exact H)
          (try rw [hji17] at A14)
          (try rw [hji17] at A15)
          have hji17w : (IntKind.i64.wrap ((t135.length : Int) - (Int.tmod (wrap64 (a2)) (wrap64 ((t135.length : Int) + 1))))) = ji17 := (i64_w _).trans hji17
          by_cases c18 : 0 ≤ (ji17)
          · rw [if_pos c18] at H
            have c18b0 := eq_true c18
            have c18b1 : decide (0 ≤ (ji17)) = true := decide_eq_true c18
            clear c18
            by_cases c19 : (ji17) ≤ (t135.length : Int)
            · rw [if_pos c19] at H
              have c19b0 := eq_true c19
              have c19b1 : decide ((ji17) ≤ (t135.length : Int)) = true := decide_eq_true c19
              clear c19
              obtain ⟨y138, hy138⟩ : ∃ y_ : List Bool, y_ = (t135.take ((ji17) : Int).toNat) := ⟨_, rfl⟩
              replace H : (signalmanlaw02_TapeSame.l0 kj3 t132 y138 0 0) = some r := by first | (rw [hy138]; with_reducible exact H) | (have H2_ := (Option.bind_some _ _).symm.trans H; rw [hy138]; with_reducible exact H2_) | (have H2_ := (Option.bind_some _ _).symm.trans H; with_reducible exact H2_) | with_reducible exact H | (rw [hy138]; exact H) | exact H
              have Ny138 := Aside0.mk hy138
              clear hy138
              have H' := Aside0.mk H
              clear H
              go_wp2_with (first | ((with_reducible refine gate_callee (f := 12) rfl ?_); refine goesL_ (some 25) rfl rfl Try.func12 (by kernel_rfl) rfl #[.slice A0 l0.length c0] rfl (by (try simp only [List.map_toArray, List.map_cons, List.map_nil]); first | done | rfl | (simp only [List.length_drop, List.length_take]; rfl)) ?_; (with_reducible refine (signalmanref01_Bits.calls kj3 _ _ l0 t132 _ ?side1 ?side2 A14.out).mono ?_); (case side1 => repeat (first | exact (Kd.C_below HR0.out HB.out) | (with_reducible refine Kd.C_alloc ?_ _) | (with_reducible refine Kd.C_drewN ?_ _) | (with_reducible refine Kd.C_drew ?_))); (case side2 => exact HC0.out); rintro e w20 ⟨v133, rfl, ho0, hb⟩; refine ⟨_, rfl, ?_⟩; have n0_ := Aside0.mk (Kd.R_lower ho0 (below_size (by repeat (first | (with_reducible first | exact HB.out | apply below_alloc | apply pw_below_drewN | apply below_drew1) | exact HB.out)))); have n1_ := Aside0.mk (below_step (by repeat (first | (with_reducible first | exact HB.out | apply below_alloc | apply pw_below_drewN | apply below_drew1) | exact HB.out)) hb); clear HB; have HO134 := n0_; have HB := n1_; clear n0_ n1_; (try clear hb); (try clear hb2); (try clear hk); (try clear hi); (try clear ho0)) | ((with_reducible refine gate_callee (f := 12) rfl ?_); refine goesL_ (some 27) rfl rfl Try.func12 (by kernel_rfl) rfl #[.slice A1 l1.length c1] rfl (by (try simp only [List.map_toArray, List.map_cons, List.map_nil]); first | done | rfl | (simp only [List.length_drop, List.length_take]; rfl)) ?_; (with_reducible refine (signalmanref01_Bits.calls kj3 _ _ l1 t135 _ ?side1 ?side2 A15.out).mono ?_); (case side1 => repeat (first | exact (Kd.C_below HR1.out HB.out) | (with_reducible refine Kd.C_alloc ?_ _) | (with_reducible refine Kd.C_drewN ?_ _) | (with_reducible refine Kd.C_drew ?_))); (case side2 => exact HC1.out); rintro e w21 ⟨v136, rfl, ho0, hb⟩; refine ⟨_, rfl, ?_⟩; have n0_ := Aside0.mk (Kd.R_elder' (by (with_reducible repeat (first | apply Kd.R_alloc | apply Kd.R_drewN | apply Kd.R_drew)); exact HO134.out) (Kd.R_base ho0) hb); have n1_ := Aside0.mk (Kd.R_lower (Kd.R_new' ho0 (Kd.R_lt (by (with_reducible repeat (first | apply Kd.R_alloc | apply Kd.R_drewN | apply Kd.R_drew)); exact HO134.out))) (below_size (by repeat (first | (with_reducible first | exact HB.out | apply below_alloc | apply pw_below_drewN | apply below_drew1) | exact HB.out)))); have n2_ := Aside0.mk (below_step (by repeat (first | (with_reducible first | exact HB.out | apply below_alloc | apply pw_below_drewN | apply below_drew1) | exact HB.out)) hb); clear HO134; clear HB; have HO134 := n0_; have HO137 := n1_; have HB := n2_; clear n0_ n1_ n2_; (try clear hb); (try clear hb2); (try clear hk); (try clear hi); (try clear ho0); obtain ⟨Ao22, co22, eo22⟩ := Kd.R_slice HO137.out; subst eo22; have q23 : ((ji17) : Int) ≤ ((t135.length : Int) : Int) := of_decide_eq_true (by first | (with_reducible assumption) | assumption); obtain ⟨i023, hi023, _, hsz23, _⟩ := info_parts info4; have hcut23 := cut_to (P := Try.prog) 24 4 .i64 Try.underlying24 hi023 Ao22 t135.length co22 (ji17) (of_decide_eq_true (by first | (with_reducible assumption) | assumption)) q23 (Kd.R_reads' HO137.out).2.1; have hr23 := Kd.R_take (m := ((ji17) : Int).toNat) HO137.out (by omega); have hy23 : y138.length = ((ji17) : Int).toNat := (by rw [Ny138.out, List.length_take]; omega); rw [← Ny138.out] at hr23; rw [← hy23] at hr23 hcut23; clear hy23 hi023 hsz23 HO137; have HO140 := Aside0.mk hr23; clear hr23; replace q23 := eq_true q23))
              go_loopg [9, 10] kj3 (fun kq v9 v10 w' => ∃ (x9_2 : Int) (x10_2 : Int), v9 = .int .u8 x9_2 ∧ v10 = .int .i64 x10_2 ∧ Aside0 (signalmanlaw02_TapeSame.l0 kq t132 y138 x9_2 x10_2 = some r) ∧ Aside0 (kq ≤ kj3) ∧ Aside0 (Kd.R Kd.bool 4 w' w.heap.size (fun k_ => some k_ ≠ ((.slice Ao22 y138.length co22) : Value).ownBlock) v133 t132) ∧ Aside0 (Kd.R Kd.bool 4 w' w.heap.size (fun k_ => some k_ ≠ (v133 : Value).ownBlock) (.slice Ao22 y138.length co22) y138) ∧ Aside0 (Below w.heap.size w w'))
              case atStart => exact ⟨(0), (0), (by first | rfl | (simp; done) | (simp [*]; done)), (by first | rfl | (simp; done) | (simp [*]; done)), H', ⟨Nat.le_refl _⟩, ⟨by (with_reducible repeat (first | apply Kd.R_alloc | apply Kd.R_drewN | apply Kd.R_drew)); exact Kd.R_mono HO134.out (fun _ hk => (by first | exact hk.2 | exact fun e_ => hk.2 (e_.trans (own_len _ _ _ _))))⟩, ⟨by (with_reducible repeat (first | apply Kd.R_alloc | apply Kd.R_drewN | apply Kd.R_drew)); exact Kd.R_mono HO140.out (fun _ hk => (by first | exact hk.2 | exact fun e_ => hk.2 (e_.trans (own_len _ _ _ _))))⟩, ⟨by repeat (first | (with_reducible first | exact HB.out | apply below_alloc | apply pw_below_drewN | apply below_drew1) | exact HB.out)⟩⟩
              case round =>
                clear H'
                try clear c1
                try clear p2
                try clear q2
                try clear c4
                try clear c6
                try clear p6
                try clear c7
                try clear c7b0
                try clear c7b1
                try clear c8
                try clear c11
                try clear c12
                try clear c16
                try clear c16b0
                try clear c16b1
                try clear c18
                try clear c18b0
                try clear c18b1
                try clear c19
                try clear c19b0
                try clear c19b1
                try clear q23
                try clear p2
                try clear q23
                obtain ⟨x9_2, x10_2, rfl, rfl, HA, HK2, HO_7, HO_8, HB⟩ := hrel
                cases gk with
                | zero => exact absurd HA.out (by simp [signalmanlaw02_TapeSame.l0])
                | succ k2 =>
                  have H := HA.out
                  clear HA
                  simp only [signalmanlaw02_TapeSame.l0] at H
                  have HC24 := Aside0.mk H
                  clear H
                  go_upto_region 8 with (fail)
                  go_cut [46] (fun v46 wc => ∃ (kq : Nat) (x46_23 : Bool), v46 = .bool x46_23 ∧ Aside0 (signalmanlaw02_TapeSame.j2 kq t132 y138 x9_2 x10_2 x46_23 = some r) ∧ Aside0 (kq ≤ k2) ∧ Aside0 (Kd.R Kd.bool 4 wc w.heap.size (fun k_ => some k_ ≠ ((.slice Ao22 y138.length co22) : Value).ownBlock) v133 t132) ∧ Aside0 (Kd.R Kd.bool 4 wc w.heap.size (fun k_ => some k_ ≠ (v133 : Value).ownBlock) (.slice Ao22 y138.length co22) y138) ∧ Aside0 (Below w.heap.size w wc))
                  case first =>
                    have H := HC24.out
                    clear HC24
                    by_cases c25 : x10_2 < (y138.length : Int)
                    · rw [if_pos c25] at H
                      have c25b0 : decide (x10_2 < (y138.length : Int)) = true := decide_eq_true c25
                      clear c25
                      (first | rw [c25b0] | (simp only [i64_w, i32_w]; rw [c25b0]) | skip)
                      have H' := Aside0.mk H
                      clear H
                      go_wp2
                      go_meet
                      case rel => exact ⟨_, (decide (x10_2 < 8)), (by first | rfl | (simp; done) | (simp [*]; done)), H', ⟨by have := HJ3.out; have := HK2.out; first | omega | exact Nat.le_refl _⟩, ⟨by (with_reducible repeat (first | apply Kd.R_alloc | apply Kd.R_drewN | apply Kd.R_drew)); exact HO_7.out⟩, ⟨by (with_reducible repeat (first | apply Kd.R_alloc | apply Kd.R_drewN | apply Kd.R_drew)); exact HO_8.out⟩, ⟨by repeat (first | (with_reducible first | exact HB.out | apply below_alloc | apply pw_below_drewN | apply below_drew1) | exact HB.out)⟩⟩
                    · rw [if_neg c25] at H
                      have c25b0 : decide (x10_2 < (y138.length : Int)) = false := decide_eq_false c25
                      clear c25
                      (first | rw [c25b0] | (simp only [i64_w, i32_w]; rw [c25b0]) | skip)
                      have H' := Aside0.mk H
                      clear H
                      go_wp2
                      go_meet
                      case rel => exact ⟨_, (false), (by first | rfl | (simp; done) | (simp [*]; done)), H', ⟨by have := HJ3.out; have := HK2.out; first | omega | exact Nat.le_refl _⟩, ⟨by (with_reducible repeat (first | apply Kd.R_alloc | apply Kd.R_drewN | apply Kd.R_drew)); exact HO_7.out⟩, ⟨by (with_reducible repeat (first | apply Kd.R_alloc | apply Kd.R_drewN | apply Kd.R_drew)); exact HO_8.out⟩, ⟨by repeat (first | (with_reducible first | exact HB.out | apply below_alloc | apply pw_below_drewN | apply below_drew1) | exact HB.out)⟩⟩
                  case rest =>
                    clear HC24
                    try clear c1
                    try clear c2
                    try clear p2
                    try clear q2
                    try clear c4
                    try clear c6
                    try clear p6
                    try clear c7
                    try clear c7b0
                    try clear c7b1
                    try clear c8
                    try clear c11
                    try clear c12
                    try clear c16
                    try clear c16b0
                    try clear c16b1
                    try clear c18
                    try clear c18b0
                    try clear c18b1
                    try clear c19
                    try clear c19b0
                    try clear c19b1
                    try clear q23
                    try clear c25
                    try clear c25b0
                    try clear p2
                    try clear p6
                    try clear q2
                    try clear q23
                    obtain ⟨kq, x46_23, rfl, HA, HJ23, HO_7, HO_8, HB⟩ := hcut
                    cases kq with
                    | zero => exact absurd HA.out (by simp [signalmanlaw02_TapeSame.j2])
                    | succ kj23 =>
                      have H := HA.out
                      clear HA
                      simp only [signalmanlaw02_TapeSame.j2] at H
                      by_cases c26 : x46_23 = true
                      · subst c26
                        have H1 : (if 0 ≤ x10_2 then (if x10_2 < (y138.length : Int) then (if rdOf false y138 x10_2 = true then (signalmanlaw02_TapeSame.l0 kj23 t132 y138 ((x9_2 + (shl .u8 1 x10_2)) % 256) (wrap64 (x10_2 + 1))) else (signalmanlaw02_TapeSame.l0 kj23 t132 y138 x9_2 (wrap64 (x10_2 + 1)))) else (none)) else (none)) = some r := by rw [if_pos rfl] at H; exact H
                        clear H
                        have H := H1
                        clear H1
                        by_cases c27 : 0 ≤ x10_2
                        · rw [if_pos c27] at H
                          have c27b0 : decide (0 ≤ x10_2) = true := decide_eq_true c27
                          clear c27
                          by_cases c28 : x10_2 < (y138.length : Int)
                          · rw [if_pos c28] at H
                            have c28b0 : decide (x10_2 < (y138.length : Int)) = true := decide_eq_true c28
                            clear c28
                            obtain ⟨bq29, hbq29⟩ : ∃ b_ : Bool, b_ = (rdOf false y138 x10_2) := ⟨_, rfl⟩
                            replace H : (if bq29 = true then (signalmanlaw02_TapeSame.l0 kj23 t132 y138 ((x9_2 + (shl .u8 1 x10_2)) % 256) (wrap64 (x10_2 + 1))) else (signalmanlaw02_TapeSame.l0 kj23 t132 y138 x9_2 (wrap64 (x10_2 + 1)))) = some r := by rw [← hbq29] at H; exact H
                            have Nbq29 := Aside0.mk hbq29
                            clear hbq29
                            by_cases c30 : bq29 = true
                            · subst c30
                              have H1 : (signalmanlaw02_TapeSame.l0 kj23 t132 y138 ((x9_2 + (shl .u8 1 x10_2)) % 256) (wrap64 (x10_2 + 1))) = some r := by rw [if_pos rfl] at H; exact H
                              clear H
                              have H := H1
                              clear H1
                              have c31b0 := eq_true (of_decide_eq_true (by first | (with_reducible assumption) | assumption) : 0 ≤ x10_2)
                              obtain ⟨ji32, hji32⟩ : ∃ j_ : Int, (shl .u8 1 x10_2) = j_ := ⟨_, rfl⟩
                              replace H : (signalmanlaw02_TapeSame.l0 kj23 t132 y138 ((x9_2 + (ji32)) % 256) (wrap64 (x10_2 + 1))) = some r := by first | (rw [hji32] at H; exact H) | (simp only [hji32] at H ⊢; exact H)
                              have hji32_ : (IntKind.u8.wrap (1 * 2 ^ min x10_2.toNat 8)) = ji32 := hji32
                              have hji32z : x10_2 ≤ 8 → (IntKind.u8.wrap (1 * 2 ^ x10_2.toNat)) = ji32 := shl_small hji32
                              have hji32u : (IntKind.u8.wrap (2 ^ min x10_2.toNat 8)) = ji32 := by have h_ := hji32_; rw [Int.one_mul] at h_; exact h_
                              have hji32v : x10_2 ≤ 8 → (IntKind.u8.wrap (2 ^ x10_2.toNat)) = ji32 := fun hle_ => by have h_ := hji32z hle_; rw [Int.one_mul] at h_; exact h_
                              have H' := Aside0.mk H
                              clear H
                              have p141 : 0 ≤ (x10_2 : Int) := of_decide_eq_true (by first | (with_reducible assumption) | assumption)
                              have q141 : x10_2 < (y138.length : Int) := of_decide_eq_true (by first | (with_reducible assumption) | assumption)
                              obtain ⟨ad141, e141, hx141_0⟩ := Kd.at_bool (Kd.R_reads' HO_8.out).2.2 x10_2 p141 q141
                              (try rw [← Nbq29.out] at hx141_0)
                              cases e141
                              replace p141 := eq_true p141
                              replace q141 := eq_true q141
                              go_wp2
                              go_roundg kj23
                              case measure => have := HJ3.out; have := HK2.out; have := HJ23.out; omega
                              case rel => exact ⟨((x9_2 + (ji32)) % 256), (wrap64 (x10_2 + 1)), (by first | rfl | (simp; done) | (simp only [← hji32] <;> (first | rfl | simp)) | (simp [*]; done)), (by first | rfl | (simp; done) | (simp [*]; done)), H', ⟨by have := HJ3.out; have := HK2.out; have := HJ23.out; omega⟩, ⟨by (with_reducible repeat (first | apply Kd.R_alloc | apply Kd.R_drewN | apply Kd.R_drew)); exact HO_7.out⟩, ⟨by (with_reducible repeat (first | apply Kd.R_alloc | apply Kd.R_drewN | apply Kd.R_drew)); exact HO_8.out⟩, ⟨by repeat (first | (with_reducible first | exact HB.out | apply below_alloc | apply pw_below_drewN | apply below_drew1) | exact HB.out)⟩⟩
                            · replace c30 := Bool.eq_false_iff.mpr c30
                              subst c30
                              have H1 : (signalmanlaw02_TapeSame.l0 kj23 t132 y138 x9_2 (wrap64 (x10_2 + 1))) = some r := by rw [if_neg (show ¬ (false = true) by decide)] at H; exact H
                              clear H
                              have H := H1
                              clear H1
                              have H' := Aside0.mk H
                              clear H
                              have p141 : 0 ≤ (x10_2 : Int) := of_decide_eq_true (by first | (with_reducible assumption) | assumption)
                              have q141 : x10_2 < (y138.length : Int) := of_decide_eq_true (by first | (with_reducible assumption) | assumption)
                              obtain ⟨ad141, e141, hx141_0⟩ := Kd.at_bool (Kd.R_reads' HO_8.out).2.2 x10_2 p141 q141
                              (try rw [← Nbq29.out] at hx141_0)
                              cases e141
                              replace p141 := eq_true p141
                              replace q141 := eq_true q141
                              go_wp2
                              go_roundg kj23
                              case measure => have := HJ3.out; have := HK2.out; have := HJ23.out; omega
                              case rel => exact ⟨(x9_2), (wrap64 (x10_2 + 1)), (by first | rfl | (simp; done) | (simp [*]; done)), (by first | rfl | (simp; done) | (simp [*]; done)), H', ⟨by have := HJ3.out; have := HK2.out; have := HJ23.out; omega⟩, ⟨by (with_reducible repeat (first | apply Kd.R_alloc | apply Kd.R_drewN | apply Kd.R_drew)); exact HO_7.out⟩, ⟨by (with_reducible repeat (first | apply Kd.R_alloc | apply Kd.R_drewN | apply Kd.R_drew)); exact HO_8.out⟩, ⟨by repeat (first | (with_reducible first | exact HB.out | apply below_alloc | apply pw_below_drewN | apply below_drew1) | exact HB.out)⟩⟩
                          · rw [if_neg c28] at H
                            exact absurd H (by simp)
                        · rw [if_neg c27] at H
                          exact absurd H (by simp)
                      · replace c26 := Bool.eq_false_iff.mpr c26
                        subst c26
                        have H1 : ((tape_Same.f kj23 t132 y138).bind fun t142 => ((signalmanref01_Same.f kj23 t132 y138).bind fun t143 => (if (t142 == t143) = true then ((tape_Same.f kj23 t132 t132).bind fun t144 => (if t144 = true then ((tape_Low.f kj23 y138).bind fun t145 => (some (t145 == x9_2))) else (some false))) else (some false)))) = some r := by rw [if_neg (show ¬ (false = true) by decide)] at H; exact H
                        clear H
                        have H := H1
                        clear H1
                        replace H := Option.bind_eq_some_iff.mp H
                        obtain ⟨t142, A330, H⟩ := H
                        replace H : ((signalmanref01_Same.f kj23 t132 y138).bind fun t143 => (if (t142 == t143) = true then ((tape_Same.f kj23 t132 t132).bind fun t144 => (if t144 = true then ((tape_Low.f kj23 y138).bind fun t145 => (some (t145 == x9_2))) else (some false))) else (some false))) = some r := H
                        have A33 := Aside0.mk A330
                        clear A330
                        replace H := Option.bind_eq_some_iff.mp H
                        obtain ⟨t143, A340, H⟩ := H
                        replace H : (if (t142 == t143) = true then ((tape_Same.f kj23 t132 t132).bind fun t144 => (if t144 = true then ((tape_Low.f kj23 y138).bind fun t145 => (some (t145 == x9_2))) else (some false))) else (some false)) = some r := H
                        have A34 := Aside0.mk A340
                        clear A340
                        by_cases c35 : (t142 == t143) = true
                        · rw [if_pos c35] at H
                          have c35b0 : (t142 == t143) = true := c35
                          (try (have c35b1 : decide (t142 = t143) = true := by simpa using c35))
                          (try (have c35b2 : (t142 == t143) = true := by simpa using c35))
                          clear c35
                          replace H := Option.bind_eq_some_iff.mp H
                          obtain ⟨t144, A360, H⟩ := H
                          replace H : (if t144 = true then ((tape_Low.f kj23 y138).bind fun t145 => (some (t145 == x9_2))) else (some false)) = some r := H
                          have A36 := Aside0.mk A360
                          clear A360
                          by_cases c37 : t144 = true
                          · subst c37
                            have H1 : ((tape_Low.f kj23 y138).bind fun t145 => (some (t145 == x9_2))) = some r := by rw [if_pos rfl] at H; exact H
                            clear H
                            have H := H1
                            clear H1
                            replace H := Option.bind_eq_some_iff.mp H
                            obtain ⟨t145, A380, H⟩ := H
                            replace H : (some (t145 == x9_2)) = some r := H
                            have A38 := Aside0.mk A380
                            clear A380
                            obtain rfl := Option.some.inj H
                            obtain ⟨Ao39, co39, eo39⟩ := Kd.R_slice HO_7.out
                            subst eo39
                            go_wp2_with (first | ((with_reducible refine gate_callee (f := 13) rfl ?_); refine goesL_ (some 59) rfl rfl Try.func13 (by kernel_rfl) rfl #[.slice Ao39 t132.length co39, .slice Ao22 y138.length co22] rfl (by (try simp only [List.map_toArray, List.map_cons, List.map_nil]); first | done | rfl | (simp only [List.length_drop, List.length_take]; rfl)) ?_; (with_reducible refine (tape_Same.calls kj23 _ _ t132 _ _ y138 t142 _ ?side1 ?side2 ?side3 ?side4 A33.out).mono ?_); (case side1 => repeat (first | exact (Kd.R_reads' HO_7.out).2.2 | (with_reducible refine Kd.C_alloc ?_ _) | (with_reducible refine Kd.C_drewN ?_ _) | (with_reducible refine Kd.C_drew ?_))); (case side2 => exact (Kd.R_reads' HO_7.out).2.1); (case side3 => repeat (first | exact (Kd.R_reads' HO_8.out).2.2 | (with_reducible refine Kd.C_alloc ?_ _) | (with_reducible refine Kd.C_drewN ?_ _) | (with_reducible refine Kd.C_drew ?_))); (case side4 => exact (Kd.R_reads' HO_8.out).2.1); rintro e w' ⟨rfl, ⟨nd, rfl⟩⟩; refine ⟨_, rfl, ?_⟩) | ((with_reducible refine gate_callee (f := 11) rfl ?_); refine goesL_ (some 62) rfl rfl Try.func11 (by kernel_rfl) rfl #[.slice Ao39 t132.length co39, .slice Ao22 y138.length co22] rfl (by (try simp only [List.map_toArray, List.map_cons, List.map_nil]); first | done | rfl | (simp only [List.length_drop, List.length_take]; rfl)) ?_; (with_reducible refine (signalmanref01_Same.calls kj23 _ _ t132 _ _ y138 t143 _ ?side1 ?side2 ?side3 ?side4 A34.out).mono ?_); (case side1 => repeat (first | exact (Kd.R_reads' HO_7.out).2.2 | (with_reducible refine Kd.C_alloc ?_ _) | (with_reducible refine Kd.C_drewN ?_ _) | (with_reducible refine Kd.C_drew ?_))); (case side2 => exact (Kd.R_reads' HO_7.out).2.1); (case side3 => repeat (first | exact (Kd.R_reads' HO_8.out).2.2 | (with_reducible refine Kd.C_alloc ?_ _) | (with_reducible refine Kd.C_drewN ?_ _) | (with_reducible refine Kd.C_drew ?_))); (case side4 => exact (Kd.R_reads' HO_8.out).2.1); rintro e w40 ⟨rfl, hb⟩; refine ⟨_, rfl, ?_⟩; have n0_ := Aside0.mk (Kd.R_below (by (with_reducible repeat (first | apply Kd.R_alloc | apply Kd.R_drewN | apply Kd.R_drew)); exact HO_7.out) hb); have n1_ := Aside0.mk (Kd.R_below (by (with_reducible repeat (first | apply Kd.R_alloc | apply Kd.R_drewN | apply Kd.R_drew)); exact HO_8.out) hb); have n2_ := Aside0.mk (below_step (by repeat (first | (with_reducible first | exact HB.out | apply below_alloc | apply pw_below_drewN | apply below_drew1) | exact HB.out)) hb); clear HO_7; clear HO_8; clear HB; have HO_7 := n0_; have HO_8 := n1_; have HB := n2_; clear n0_ n1_ n2_; (try clear hb); (try clear hb2); (try clear hk); (try clear hi)) | (go_at_call 13; (with_reducible refine (tape_Same.calls kj23 _ _ t132 _ _ t132 true _ ?side1 ?side2 ?side3 ?side4 A36.out).mono ?_); (case side1 => repeat (first | exact (Kd.R_reads' HO_7.out).2.2 | (with_reducible refine Kd.C_alloc ?_ _) | (with_reducible refine Kd.C_drewN ?_ _) | (with_reducible refine Kd.C_drew ?_))); (case side2 => exact (Kd.R_reads' HO_7.out).2.1); (case side3 => repeat (first | exact (Kd.R_reads' HO_7.out).2.2 | (with_reducible refine Kd.C_alloc ?_ _) | (with_reducible refine Kd.C_drewN ?_ _) | (with_reducible refine Kd.C_drew ?_))); (case side4 => exact (Kd.R_reads' HO_7.out).2.1); rintro e w' ⟨rfl, ⟨nd, rfl⟩⟩) | (go_at_call 14; (with_reducible refine (tape_Low.calls kj23 _ _ y138 t145 _ ?side1 ?side2 A38.out).mono ?_); (case side1 => repeat (first | exact (Kd.R_reads' HO_8.out).2.2 | (with_reducible refine Kd.C_alloc ?_ _) | (with_reducible refine Kd.C_drewN ?_ _) | (with_reducible refine Kd.C_drew ?_))); (case side2 => exact (Kd.R_reads' HO_8.out).2.1); rintro e w' ⟨rfl, ⟨nd, rfl⟩⟩))
                            go_ret
                            exact ⟨by first | rfl | (simp [errW_none, errW_some] <;> rfl) | (simp only [← hji17]; first | rfl | (simp [errW_none, errW_some] <;> rfl)) | (simp [*, errW_none, errW_some] <;> rfl), by repeat (first | (with_reducible first | exact HB.out | apply below_alloc | apply pw_below_drewN | apply below_drew1) | exact HB.out)⟩
                          · replace c37 := Bool.eq_false_iff.mpr c37
                            subst c37
                            have H1 : (some false) = some r := by rw [if_neg (show ¬ (false = true) by decide)] at H; exact H
                            clear H
                            have H := H1
                            clear H1
                            obtain rfl := Option.some.inj H
                            obtain ⟨Ao41, co41, eo41⟩ := Kd.R_slice HO_7.out
                            subst eo41
                            go_wp2_with (first | ((with_reducible refine gate_callee (f := 13) rfl ?_); refine goesL_ (some 59) rfl rfl Try.func13 (by kernel_rfl) rfl #[.slice Ao41 t132.length co41, .slice Ao22 y138.length co22] rfl (by (try simp only [List.map_toArray, List.map_cons, List.map_nil]); first | done | rfl | (simp only [List.length_drop, List.length_take]; rfl)) ?_; (with_reducible refine (tape_Same.calls kj23 _ _ t132 _ _ y138 t142 _ ?side1 ?side2 ?side3 ?side4 A33.out).mono ?_); (case side1 => repeat (first | exact (Kd.R_reads' HO_7.out).2.2 | (with_reducible refine Kd.C_alloc ?_ _) | (with_reducible refine Kd.C_drewN ?_ _) | (with_reducible refine Kd.C_drew ?_))); (case side2 => exact (Kd.R_reads' HO_7.out).2.1); (case side3 => repeat (first | exact (Kd.R_reads' HO_8.out).2.2 | (with_reducible refine Kd.C_alloc ?_ _) | (with_reducible refine Kd.C_drewN ?_ _) | (with_reducible refine Kd.C_drew ?_))); (case side4 => exact (Kd.R_reads' HO_8.out).2.1); rintro e w' ⟨rfl, ⟨nd, rfl⟩⟩; refine ⟨_, rfl, ?_⟩) | ((with_reducible refine gate_callee (f := 11) rfl ?_); refine goesL_ (some 62) rfl rfl Try.func11 (by kernel_rfl) rfl #[.slice Ao41 t132.length co41, .slice Ao22 y138.length co22] rfl (by (try simp only [List.map_toArray, List.map_cons, List.map_nil]); first | done | rfl | (simp only [List.length_drop, List.length_take]; rfl)) ?_; (with_reducible refine (signalmanref01_Same.calls kj23 _ _ t132 _ _ y138 t143 _ ?side1 ?side2 ?side3 ?side4 A34.out).mono ?_); (case side1 => repeat (first | exact (Kd.R_reads' HO_7.out).2.2 | (with_reducible refine Kd.C_alloc ?_ _) | (with_reducible refine Kd.C_drewN ?_ _) | (with_reducible refine Kd.C_drew ?_))); (case side2 => exact (Kd.R_reads' HO_7.out).2.1); (case side3 => repeat (first | exact (Kd.R_reads' HO_8.out).2.2 | (with_reducible refine Kd.C_alloc ?_ _) | (with_reducible refine Kd.C_drewN ?_ _) | (with_reducible refine Kd.C_drew ?_))); (case side4 => exact (Kd.R_reads' HO_8.out).2.1); rintro e w42 ⟨rfl, hb⟩; refine ⟨_, rfl, ?_⟩; have n0_ := Aside0.mk (Kd.R_below (by (with_reducible repeat (first | apply Kd.R_alloc | apply Kd.R_drewN | apply Kd.R_drew)); exact HO_7.out) hb); have n1_ := Aside0.mk (Kd.R_below (by (with_reducible repeat (first | apply Kd.R_alloc | apply Kd.R_drewN | apply Kd.R_drew)); exact HO_8.out) hb); have n2_ := Aside0.mk (below_step (by repeat (first | (with_reducible first | exact HB.out | apply below_alloc | apply pw_below_drewN | apply below_drew1) | exact HB.out)) hb); clear HO_7; clear HO_8; clear HB; have HO_7 := n0_; have HO_8 := n1_; have HB := n2_; clear n0_ n1_ n2_; (try clear hb); (try clear hb2); (try clear hk); (try clear hi)) | (go_at_call 13; (with_reducible refine (tape_Same.calls kj23 _ _ t132 _ _ t132 false _ ?side1 ?side2 ?side3 ?side4 A36.out).mono ?_); (case side1 => repeat (first | exact (Kd.R_reads' HO_7.out).2.2 | (with_reducible refine Kd.C_alloc ?_ _) | (with_reducible refine Kd.C_drewN ?_ _) | (with_reducible refine Kd.C_drew ?_))); (case side2 => exact (Kd.R_reads' HO_7.out).2.1); (case side3 => repeat (first | exact (Kd.R_reads' HO_7.out).2.2 | (with_reducible refine Kd.C_alloc ?_ _) | (with_reducible refine Kd.C_drewN ?_ _) | (with_reducible refine Kd.C_drew ?_))); (case side4 => exact (Kd.R_reads' HO_7.out).2.1); rintro e w' ⟨rfl, ⟨nd, rfl⟩⟩))
                            go_ret
                            exact ⟨by first | rfl | (simp [errW_none, errW_some] <;> rfl) | (simp only [← hji17]; first | rfl | (simp [errW_none, errW_some] <;> rfl)) | (simp [*, errW_none, errW_some] <;> rfl), by repeat (first | (with_reducible first | exact HB.out | apply below_alloc | apply pw_below_drewN | apply below_drew1) | exact HB.out)⟩
                        · rw [if_neg c35] at H
                          have c35b0 : (t142 == t143) = false := by simpa using c35
                          (try (have c35b1 : decide (t142 = t143) = false := by simpa using c35))
                          (try (have c35b2 : (t142 == t143) = false := by simpa using c35))
                          (try (have c35b3 : ¬ (t142 = t143) := by simpa using c35))
                          clear c35
                          obtain rfl := Option.some.inj H
                          obtain ⟨Ao43, co43, eo43⟩ := Kd.R_slice HO_7.out
                          subst eo43
                          go_wp2_with (first | ((with_reducible refine gate_callee (f := 13) rfl ?_); refine goesL_ (some 59) rfl rfl Try.func13 (by kernel_rfl) rfl #[.slice Ao43 t132.length co43, .slice Ao22 y138.length co22] rfl (by (try simp only [List.map_toArray, List.map_cons, List.map_nil]); first | done | rfl | (simp only [List.length_drop, List.length_take]; rfl)) ?_; (with_reducible refine (tape_Same.calls kj23 _ _ t132 _ _ y138 t142 _ ?side1 ?side2 ?side3 ?side4 A33.out).mono ?_); (case side1 => repeat (first | exact (Kd.R_reads' HO_7.out).2.2 | (with_reducible refine Kd.C_alloc ?_ _) | (with_reducible refine Kd.C_drewN ?_ _) | (with_reducible refine Kd.C_drew ?_))); (case side2 => exact (Kd.R_reads' HO_7.out).2.1); (case side3 => repeat (first | exact (Kd.R_reads' HO_8.out).2.2 | (with_reducible refine Kd.C_alloc ?_ _) | (with_reducible refine Kd.C_drewN ?_ _) | (with_reducible refine Kd.C_drew ?_))); (case side4 => exact (Kd.R_reads' HO_8.out).2.1); rintro e w' ⟨rfl, ⟨nd, rfl⟩⟩; refine ⟨_, rfl, ?_⟩) | ((with_reducible refine gate_callee (f := 11) rfl ?_); refine goesL_ (some 62) rfl rfl Try.func11 (by kernel_rfl) rfl #[.slice Ao43 t132.length co43, .slice Ao22 y138.length co22] rfl (by (try simp only [List.map_toArray, List.map_cons, List.map_nil]); first | done | rfl | (simp only [List.length_drop, List.length_take]; rfl)) ?_; (with_reducible refine (signalmanref01_Same.calls kj23 _ _ t132 _ _ y138 t143 _ ?side1 ?side2 ?side3 ?side4 A34.out).mono ?_); (case side1 => repeat (first | exact (Kd.R_reads' HO_7.out).2.2 | (with_reducible refine Kd.C_alloc ?_ _) | (with_reducible refine Kd.C_drewN ?_ _) | (with_reducible refine Kd.C_drew ?_))); (case side2 => exact (Kd.R_reads' HO_7.out).2.1); (case side3 => repeat (first | exact (Kd.R_reads' HO_8.out).2.2 | (with_reducible refine Kd.C_alloc ?_ _) | (with_reducible refine Kd.C_drewN ?_ _) | (with_reducible refine Kd.C_drew ?_))); (case side4 => exact (Kd.R_reads' HO_8.out).2.1); rintro e w44 ⟨rfl, hb⟩; refine ⟨_, rfl, ?_⟩; have n0_ := Aside0.mk (Kd.R_below (by (with_reducible repeat (first | apply Kd.R_alloc | apply Kd.R_drewN | apply Kd.R_drew)); exact HO_7.out) hb); have n1_ := Aside0.mk (Kd.R_below (by (with_reducible repeat (first | apply Kd.R_alloc | apply Kd.R_drewN | apply Kd.R_drew)); exact HO_8.out) hb); have n2_ := Aside0.mk (below_step (by repeat (first | (with_reducible first | exact HB.out | apply below_alloc | apply pw_below_drewN | apply below_drew1) | exact HB.out)) hb); clear HO_7; clear HO_8; clear HB; have HO_7 := n0_; have HO_8 := n1_; have HB := n2_; clear n0_ n1_ n2_; (try clear hb); (try clear hb2); (try clear hk); (try clear hi)))
                          go_ret
                          exact ⟨by first | rfl | (simp [errW_none, errW_some] <;> rfl) | (simp only [← hji17]; first | rfl | (simp [errW_none, errW_some] <;> rfl)) | (simp [*, errW_none, errW_some] <;> rfl), by repeat (first | (with_reducible first | exact HB.out | apply below_alloc | apply pw_below_drewN | apply below_drew1) | exact HB.out)⟩
            · rw [if_neg c19] at H
              exact absurd H (by simp)
          · rw [if_neg c18] at H
            exact absurd H (by simp)

/-- THE ONE PURE STATEMENT of signalmanlaw02_TapeSame: yours. -/
def signalmanlaw02_TapeSame.Pure : Prop := ∀ (l0 : List Int) (l1 : List Int) (a2 : Int), l0.length ≤ maxLen → l0.length * 1 ≤ 140737488351232 → (∀ x ∈ l0, (Lit.int .u8 x).wf = true) → l1.length ≤ maxLen → l1.length * 1 ≤ 140737488351232 → (∀ x ∈ l1, (Lit.int .u8 x).wf = true) → (Lit.int .u8 a2).wf = true → ∃ k, signalmanlaw02_TapeSame.f k l0 l1 a2 = some true
theorem signalmanlaw02_TapeSame.walk (P : signalmanlaw02_TapeSame.Pure) (a0 : Option Addr) (len0 cap0 : Nat) (z0 : List Int) (a1 : Option Addr) (len1 cap1 : Nat) (z1 : List Int) (a2 : Int) (w : World) (w0 : (a0 = none ∧ len0 = 0 ∧ cap0 = 0 ∧ z0 = []) ∨ ∃ x, a0 = some x ∧ len0 ≤ cap0 ∧ cap0 ≤ maxLen ∧ z0.length = cap0 ∧ (∀ i, i < z0.length → w.cell? (x.add i) = some (.int .u8 (z0.getD i 0))) ∧ ∀ n ∈ z0, (Lit.int .u8 n).wf = true) (y0 : len0 * 1 ≤ 140737488351232) (w1 : (a1 = none ∧ len1 = 0 ∧ cap1 = 0 ∧ z1 = []) ∨ ∃ x, a1 = some x ∧ len1 ≤ cap1 ∧ cap1 ≤ maxLen ∧ z1.length = cap1 ∧ (∀ i, i < z1.length → w.cell? (x.add i) = some (.int .u8 (z1.getD i 0))) ∧ ∀ n ∈ z1, (Lit.int .u8 n).wf = true) (y1 : len1 * 1 ≤ 140737488351232) (w2 : (Lit.int .u8 a2).wf = true) :
    Calls Try.prog 4 #[.slice a0 len0 cap0, .slice a1 len1 cap1, .int .u8 a2] w fun e w' => e = .returned (.bool true) ∧ Below w.heap.size w w' := by
  obtain ⟨l0, rfl, hr0, hm0, hw0, hc0⟩ := ReadsInt.ofRowC w0
  obtain ⟨l1, rfl, hr1, hm1, hw1, hc1⟩ := ReadsInt.ofRowC w1
  obtain ⟨k, h⟩ := P l0 l1 a2 hm0 y0 hw0 hm1 y1 hw1 w2
  refine (signalmanlaw02_TapeSame.calls k _ _ l0 _ _ l1 a2 true w (Kd.C_of_reads (d := (0 : Int)) (h1 := fun _ => rfl) hr0) hc0 (Kd.C_of_reads (d := (0 : Int)) (h1 := fun _ => rfl) hr1) hc1 h).mono ?_
  rintro e w' ⟨rfl, hd⟩
  exact ⟨rfl, hd⟩

end Go.Proofs.Ytjaenbcboecdbaa.MTapeSame
