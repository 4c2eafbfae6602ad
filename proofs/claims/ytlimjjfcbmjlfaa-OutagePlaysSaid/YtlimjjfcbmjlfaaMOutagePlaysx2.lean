/- A part of the proof of the given statement that each law names; no condition. Written by a program of this session's own (wip/tools/myprint.py, over the kit's print); Lean checks it. -/
import Derived.Test.YtlimjjfcbmjlfaaMOutagePlaysx0
import Derived.Test.YtlimjjfcbmjlfaaMOutagePlaysx1
namespace Go.Proofs.Ytlimjjfcbmjlfaa.MOutagePlays
open Go.RowKit Go.Proofs.YtlimjjfcbmjlfaaW.PrintWords Go.Proofs.YtlimjjfcbmjlfaaW.PrintLast Go.Proofs.YtlimjjfcbmjlfaaW.PrintMore
attribute [local go_sem] max2_int min2_int max_two min_two max_three min_three max_four min_four   -- for this text's walks alone
set_option linter.unusedVariables false
set_option linter.unusedSimpArgs false

/-! ### signalmanlaw15_OutagePlays: function 4 -/
mutual
def signalmanlaw15_OutagePlays.j0 : Nat → List Int → Bool → Option (Bool)
  | 0, _, _ => none
  | k + 1, x0, x16 => if x16 = true then ((signalmanlaw15_awake.f).bind fun t119 => (some t119)) else (signalmanlaw15_OutagePlays.l0 k x0 false false false 0 false false false)
def signalmanlaw15_OutagePlays.l0 : Nat → List Int → Bool → Bool → Bool → Int → Bool → Bool → Bool → Option (Bool)
  | 0, _, _, _, _, _, _, _, _ => none
  | k + 1, x0, x4, x5, x6, x7, x121000, x121001, x121002 => if x7 < (x0.length : Int) then (if 0 ≤ x7 then (if (Int.tmod (rd x0 x7) 5) = 0 then (signalmanlaw15_OutagePlays.j2 k x0 x4 x5 x6 x7 (Int.tmod (rd x0 x7) 5) ((Int.tmod (rd x0 x7) 5) == 0) x121000 x121001 x121002) else (signalmanlaw15_OutagePlays.j2 k x0 x4 x5 x6 x7 (Int.tmod (rd x0 x7) 5) ((Int.tmod (rd x0 x7) 5) == 1) x121000 x121001 x121002)) else (none)) else (some true)
def signalmanlaw15_OutagePlays.j2 : Nat → List Int → Bool → Bool → Bool → Int → Int → Bool → Bool → Bool → Bool → Option (Bool)
  | 0, _, _, _, _, _, _, _, _, _, _ => none
  | k + 1, x0, x4, x5, x6, x7, x29, x45, x121000, x121001, x121002 => if x45 = true then (if 0 ≤ x7 then (if x7 < (x0.length : Int) then ((outage_Outage_Local.f x121000 x121001 x121002 ((Int.tmod (rd x0 x7) 5) == 0)).bind fun bt123 => ((outage_Outage_Is.f bt123.1 bt123.2.1 bt123.2.2).bind fun t126 => (if (Int.tmod (rd x0 x7) 5) = 0 then (if (t126 != true) = true then (some false) else (signalmanlaw15_OutagePlays.l0 k x0 ((Int.tmod (rd x0 x7) 5) == 0) x5 x6 (wrap64 (x7 + 1)) bt123.1 bt123.2.1 bt123.2.2)) else (if x5 = true then (if (t126 != true) = true then (some false) else (signalmanlaw15_OutagePlays.l0 k x0 ((Int.tmod (rd x0 x7) 5) == 0) x5 x6 (wrap64 (x7 + 1)) bt123.1 bt123.2.1 bt123.2.2)) else (if (t126 != x6) = true then (some false) else (signalmanlaw15_OutagePlays.l0 k x0 ((Int.tmod (rd x0 x7) 5) == 0) x5 x6 (wrap64 (x7 + 1)) bt123.1 bt123.2.1 bt123.2.2)))))) else (none)) else (none)) else (if x29 = 2 then (signalmanlaw15_OutagePlays.j3 k x0 x4 x5 x6 x7 (x29 == 2) x121000 x121001 x121002) else (signalmanlaw15_OutagePlays.j3 k x0 x4 x5 x6 x7 (x29 == 3) x121000 x121001 x121002))
def signalmanlaw15_OutagePlays.j3 : Nat → List Int → Bool → Bool → Bool → Int → Bool → Bool → Bool → Bool → Option (Bool)
  | 0, _, _, _, _, _, _, _, _, _ => none
  | k + 1, x0, x4, x5, x6, x7, x57, x121000, x121001, x121002 => if x57 = true then (if 0 ≤ x7 then (if x7 < (x0.length : Int) then (if x6 = true then (signalmanlaw15_OutagePlays.j4 k x0 x4 ((Int.tmod (rd x0 x7) 5) == 2) true x7 x121000 x121001 x121002) else (signalmanlaw15_OutagePlays.j4 k x0 x4 ((Int.tmod (rd x0 x7) 5) == 2) ((Int.tmod (rd x0 x7) 5) == 2) x7 x121000 x121001 x121002)) else (none)) else (none)) else ((outage_Outage_Continue.f x121000 x121001 x121002).bind fun bt133 => (if x4 = true then (signalmanlaw15_OutagePlays.j5 k x0 x4 x5 x6 x7 bt133.2.2.2 (bt133.2.2.2 != false) bt133.1 bt133.2.1 bt133.2.2.1) else (signalmanlaw15_OutagePlays.j5 k x0 x4 x5 x6 x7 bt133.2.2.2 (bt133.2.2.2 != (!x5)) bt133.1 bt133.2.1 bt133.2.2.1)))
def signalmanlaw15_OutagePlays.j4 : Nat → List Int → Bool → Bool → Bool → Int → Bool → Bool → Bool → Option (Bool)
  | 0, _, _, _, _, _, _, _, _ => none
  | k + 1, x0, x4, x5, x6, x7, x121000, x121001, x121002 => (outage_Outage_Remote.f x121000 x121001 x121002 x5).bind fun bt128 => ((outage_Outage_Is.f bt128.1 bt128.2.1 bt128.2.2.1).bind fun t132 => (if x4 = true then (if (t132 != true) = true then (some false) else (signalmanlaw15_OutagePlays.l0 k x0 x4 x5 x6 (wrap64 (x7 + 1)) bt128.1 bt128.2.1 bt128.2.2.1)) else (if x5 = true then (if (t132 != true) = true then (some false) else (signalmanlaw15_OutagePlays.l0 k x0 x4 x5 x6 (wrap64 (x7 + 1)) bt128.1 bt128.2.1 bt128.2.2.1)) else (if (t132 != x6) = true then (some false) else (signalmanlaw15_OutagePlays.l0 k x0 x4 x5 x6 (wrap64 (x7 + 1)) bt128.1 bt128.2.1 bt128.2.2.1)))))
def signalmanlaw15_OutagePlays.j5 : Nat → List Int → Bool → Bool → Bool → Int → Bool → Bool → Bool → Bool → Bool → Option (Bool)
  | 0, _, _, _, _, _, _, _, _, _, _ => none
  | k + 1, x0, x4, x5, x6, x7, x9, x42, x138000, x138001, x138002 => if x42 = true then (some false) else (if x9 = true then ((outage_Outage_Is.f x138000 x138001 x138002).bind fun t138 => (if x4 = true then (if (t138 != true) = true then (some false) else (signalmanlaw15_OutagePlays.l0 k x0 x4 x5 false (wrap64 (x7 + 1)) x138000 x138001 x138002)) else (if x5 = true then (if (t138 != true) = true then (some false) else (signalmanlaw15_OutagePlays.l0 k x0 x4 x5 false (wrap64 (x7 + 1)) x138000 x138001 x138002)) else (if (t138 != false) = true then (some false) else (signalmanlaw15_OutagePlays.l0 k x0 x4 x5 false (wrap64 (x7 + 1)) x138000 x138001 x138002))))) else ((outage_Outage_Is.f x138000 x138001 x138002).bind fun t139 => (if x4 = true then (if (t139 != true) = true then (some false) else (signalmanlaw15_OutagePlays.l0 k x0 x4 x5 x6 (wrap64 (x7 + 1)) x138000 x138001 x138002)) else (if x5 = true then (if (t139 != true) = true then (some false) else (signalmanlaw15_OutagePlays.l0 k x0 x4 x5 x6 (wrap64 (x7 + 1)) x138000 x138001 x138002)) else (if (t139 != x6) = true then (some false) else (signalmanlaw15_OutagePlays.l0 k x0 x4 x5 x6 (wrap64 (x7 + 1)) x138000 x138001 x138002))))))
end
def signalmanlaw15_OutagePlays.f (k : Nat) (l0 : List Int) : Option (Bool) := (signalmanlaw15_awake.f).bind fun t118 => (if t118 = true then (signalmanlaw15_OutagePlays.j0 k l0 (decide ((l0.length : Int) > 100))) else (signalmanlaw15_OutagePlays.j0 k l0 true))
theorem signalmanlaw15_OutagePlays.mono_l : ∀ k, (∀ y0 y1, LeO (signalmanlaw15_OutagePlays.j0 k y0 y1) (signalmanlaw15_OutagePlays.j0 (k + 1) y0 y1)) ∧ (∀ y0 y1 y2 y3 y4 y5 y6 y7, LeO (signalmanlaw15_OutagePlays.l0 k y0 y1 y2 y3 y4 y5 y6 y7) (signalmanlaw15_OutagePlays.l0 (k + 1) y0 y1 y2 y3 y4 y5 y6 y7)) ∧ (∀ y0 y1 y2 y3 y4 y5 y6 y7 y8 y9, LeO (signalmanlaw15_OutagePlays.j2 k y0 y1 y2 y3 y4 y5 y6 y7 y8 y9) (signalmanlaw15_OutagePlays.j2 (k + 1) y0 y1 y2 y3 y4 y5 y6 y7 y8 y9)) ∧ (∀ y0 y1 y2 y3 y4 y5 y6 y7 y8, LeO (signalmanlaw15_OutagePlays.j3 k y0 y1 y2 y3 y4 y5 y6 y7 y8) (signalmanlaw15_OutagePlays.j3 (k + 1) y0 y1 y2 y3 y4 y5 y6 y7 y8)) ∧ (∀ y0 y1 y2 y3 y4 y5 y6 y7, LeO (signalmanlaw15_OutagePlays.j4 k y0 y1 y2 y3 y4 y5 y6 y7) (signalmanlaw15_OutagePlays.j4 (k + 1) y0 y1 y2 y3 y4 y5 y6 y7)) ∧ (∀ y0 y1 y2 y3 y4 y5 y6 y7 y8 y9, LeO (signalmanlaw15_OutagePlays.j5 k y0 y1 y2 y3 y4 y5 y6 y7 y8 y9) (signalmanlaw15_OutagePlays.j5 (k + 1) y0 y1 y2 y3 y4 y5 y6 y7 y8 y9))
  | 0 => ⟨fun _ _ r h => by simp [signalmanlaw15_OutagePlays.j0] at h, fun _ _ _ _ _ _ _ _ r h => by simp [signalmanlaw15_OutagePlays.l0] at h, fun _ _ _ _ _ _ _ _ _ _ r h => by simp [signalmanlaw15_OutagePlays.j2] at h, fun _ _ _ _ _ _ _ _ _ r h => by simp [signalmanlaw15_OutagePlays.j3] at h, fun _ _ _ _ _ _ _ _ r h => by simp [signalmanlaw15_OutagePlays.j4] at h, fun _ _ _ _ _ _ _ _ _ _ r h => by simp [signalmanlaw15_OutagePlays.j5] at h⟩
  | k + 1 => by
    obtain ⟨ih0, ih1, ih2, ih3, ih4, ih5⟩ := signalmanlaw15_OutagePlays.mono_l k
    refine ⟨?_, ?_, ?_, ?_, ?_, ?_⟩
    · intro y0 y1
      unfold signalmanlaw15_OutagePlays.j0
      repeat' first
      | (with_reducible exact ih0 _ _)
      | (with_reducible exact ih1 _ _ _ _ _ _ _ _)
      | (with_reducible exact ih2 _ _ _ _ _ _ _ _ _ _)
      | (with_reducible exact ih3 _ _ _ _ _ _ _ _ _)
      | (with_reducible exact ih4 _ _ _ _ _ _ _ _)
      | (with_reducible exact ih5 _ _ _ _ _ _ _ _ _ _)
      | (with_reducible exact LeO.refl _)
      | (with_reducible exact LeO.none _)
      | (with_reducible refine LeO.ite ?_ ?_)
      | (with_reducible refine LeO.bind ?_ (fun _ => ?_))
      | exact ih0 _ _
      | exact ih1 _ _ _ _ _ _ _ _
      | exact ih2 _ _ _ _ _ _ _ _ _ _
      | exact ih3 _ _ _ _ _ _ _ _ _
      | exact ih4 _ _ _ _ _ _ _ _
      | exact ih5 _ _ _ _ _ _ _ _ _ _
      | exact LeO.none _
      | refine LeO.ite ?_ ?_
      | refine LeO.bind ?_ (fun _ => ?_)
    · intro y0 y1 y2 y3 y4 y5 y6 y7
      unfold signalmanlaw15_OutagePlays.l0
      repeat' first
      | (with_reducible exact ih0 _ _)
      | (with_reducible exact ih1 _ _ _ _ _ _ _ _)
      | (with_reducible exact ih2 _ _ _ _ _ _ _ _ _ _)
      | (with_reducible exact ih3 _ _ _ _ _ _ _ _ _)
      | (with_reducible exact ih4 _ _ _ _ _ _ _ _)
      | (with_reducible exact ih5 _ _ _ _ _ _ _ _ _ _)
      | (with_reducible exact LeO.refl _)
      | (with_reducible exact LeO.none _)
      | (with_reducible refine LeO.ite ?_ ?_)
      | (with_reducible refine LeO.bind ?_ (fun _ => ?_))
      | exact ih0 _ _
      | exact ih1 _ _ _ _ _ _ _ _
      | exact ih2 _ _ _ _ _ _ _ _ _ _
      | exact ih3 _ _ _ _ _ _ _ _ _
      | exact ih4 _ _ _ _ _ _ _ _
      | exact ih5 _ _ _ _ _ _ _ _ _ _
      | exact LeO.none _
      | refine LeO.ite ?_ ?_
      | refine LeO.bind ?_ (fun _ => ?_)
    · intro y0 y1 y2 y3 y4 y5 y6 y7 y8 y9
      unfold signalmanlaw15_OutagePlays.j2
      repeat' first
      | (with_reducible exact ih0 _ _)
      | (with_reducible exact ih1 _ _ _ _ _ _ _ _)
      | (with_reducible exact ih2 _ _ _ _ _ _ _ _ _ _)
      | (with_reducible exact ih3 _ _ _ _ _ _ _ _ _)
      | (with_reducible exact ih4 _ _ _ _ _ _ _ _)
      | (with_reducible exact ih5 _ _ _ _ _ _ _ _ _ _)
      | (with_reducible exact LeO.refl _)
      | (with_reducible exact LeO.none _)
      | (with_reducible refine LeO.ite ?_ ?_)
      | (with_reducible refine LeO.bind ?_ (fun _ => ?_))
      | exact ih0 _ _
      | exact ih1 _ _ _ _ _ _ _ _
      | exact ih2 _ _ _ _ _ _ _ _ _ _
      | exact ih3 _ _ _ _ _ _ _ _ _
      | exact ih4 _ _ _ _ _ _ _ _
      | exact ih5 _ _ _ _ _ _ _ _ _ _
      | exact LeO.none _
      | refine LeO.ite ?_ ?_
      | refine LeO.bind ?_ (fun _ => ?_)
    · intro y0 y1 y2 y3 y4 y5 y6 y7 y8
      unfold signalmanlaw15_OutagePlays.j3
      repeat' first
      | (with_reducible exact ih0 _ _)
      | (with_reducible exact ih1 _ _ _ _ _ _ _ _)
      | (with_reducible exact ih2 _ _ _ _ _ _ _ _ _ _)
      | (with_reducible exact ih3 _ _ _ _ _ _ _ _ _)
      | (with_reducible exact ih4 _ _ _ _ _ _ _ _)
      | (with_reducible exact ih5 _ _ _ _ _ _ _ _ _ _)
      | (with_reducible exact LeO.refl _)
      | (with_reducible exact LeO.none _)
      | (with_reducible refine LeO.ite ?_ ?_)
      | (with_reducible refine LeO.bind ?_ (fun _ => ?_))
      | exact ih0 _ _
      | exact ih1 _ _ _ _ _ _ _ _
      | exact ih2 _ _ _ _ _ _ _ _ _ _
      | exact ih3 _ _ _ _ _ _ _ _ _
      | exact ih4 _ _ _ _ _ _ _ _
      | exact ih5 _ _ _ _ _ _ _ _ _ _
      | exact LeO.none _
      | refine LeO.ite ?_ ?_
      | refine LeO.bind ?_ (fun _ => ?_)
    · intro y0 y1 y2 y3 y4 y5 y6 y7
      unfold signalmanlaw15_OutagePlays.j4
      repeat' first
      | (with_reducible exact ih0 _ _)
      | (with_reducible exact ih1 _ _ _ _ _ _ _ _)
      | (with_reducible exact ih2 _ _ _ _ _ _ _ _ _ _)
      | (with_reducible exact ih3 _ _ _ _ _ _ _ _ _)
      | (with_reducible exact ih4 _ _ _ _ _ _ _ _)
      | (with_reducible exact ih5 _ _ _ _ _ _ _ _ _ _)
      | (with_reducible exact LeO.refl _)
      | (with_reducible exact LeO.none _)
      | (with_reducible refine LeO.ite ?_ ?_)
      | (with_reducible refine LeO.bind ?_ (fun _ => ?_))
      | exact ih0 _ _
      | exact ih1 _ _ _ _ _ _ _ _
      | exact ih2 _ _ _ _ _ _ _ _ _ _
      | exact ih3 _ _ _ _ _ _ _ _ _
      | exact ih4 _ _ _ _ _ _ _ _
      | exact ih5 _ _ _ _ _ _ _ _ _ _
      | exact LeO.none _
      | refine LeO.ite ?_ ?_
      | refine LeO.bind ?_ (fun _ => ?_)
    · intro y0 y1 y2 y3 y4 y5 y6 y7 y8 y9
      unfold signalmanlaw15_OutagePlays.j5
      repeat' first
      | (with_reducible exact ih0 _ _)
      | (with_reducible exact ih1 _ _ _ _ _ _ _ _)
      | (with_reducible exact ih2 _ _ _ _ _ _ _ _ _ _)
      | (with_reducible exact ih3 _ _ _ _ _ _ _ _ _)
      | (with_reducible exact ih4 _ _ _ _ _ _ _ _)
      | (with_reducible exact ih5 _ _ _ _ _ _ _ _ _ _)
      | (with_reducible exact LeO.refl _)
      | (with_reducible exact LeO.none _)
      | (with_reducible refine LeO.ite ?_ ?_)
      | (with_reducible refine LeO.bind ?_ (fun _ => ?_))
      | exact ih0 _ _
      | exact ih1 _ _ _ _ _ _ _ _
      | exact ih2 _ _ _ _ _ _ _ _ _ _
      | exact ih3 _ _ _ _ _ _ _ _ _
      | exact ih4 _ _ _ _ _ _ _ _
      | exact ih5 _ _ _ _ _ _ _ _ _ _
      | exact LeO.none _
      | refine LeO.ite ?_ ?_
      | refine LeO.bind ?_ (fun _ => ?_)
theorem signalmanlaw15_OutagePlays.mono : ∀ a0 k, LeO (signalmanlaw15_OutagePlays.f k a0) (signalmanlaw15_OutagePlays.f (k + 1) a0) := by
  intro a0 k
  obtain ⟨ih0, ih1, ih2, ih3, ih4, ih5⟩ := signalmanlaw15_OutagePlays.mono_l k
  unfold signalmanlaw15_OutagePlays.f
  repeat' first
      | (with_reducible exact ih0 _ _)
      | (with_reducible exact ih1 _ _ _ _ _ _ _ _)
      | (with_reducible exact ih2 _ _ _ _ _ _ _ _ _ _)
      | (with_reducible exact ih3 _ _ _ _ _ _ _ _ _)
      | (with_reducible exact ih4 _ _ _ _ _ _ _ _)
      | (with_reducible exact ih5 _ _ _ _ _ _ _ _ _ _)
      | (with_reducible exact LeO.refl _)
      | (with_reducible exact LeO.none _)
      | (with_reducible refine LeO.ite ?_ ?_)
      | (with_reducible refine LeO.bind ?_ (fun _ => ?_))
      | exact ih0 _ _
      | exact ih1 _ _ _ _ _ _ _ _
      | exact ih2 _ _ _ _ _ _ _ _ _ _
      | exact ih3 _ _ _ _ _ _ _ _ _
      | exact ih4 _ _ _ _ _ _ _ _
      | exact ih5 _ _ _ _ _ _ _ _ _ _
      | exact LeO.none _
      | refine LeO.ite ?_ ?_
      | refine LeO.bind ?_ (fun _ => ?_)
set_option maxHeartbeats 8000000 in
set_option maxRecDepth 100000 in
theorem signalmanlaw15_OutagePlays.calls (k : Nat) (A0 : Option Addr) (c0 : Nat) (l0 : List Int) (r : Bool) (w : World) (hr0 : Kd.C (Kd.int .u8) w A0 l0.length l0) (hc0 : l0.length ≤ c0) (h : signalmanlaw15_OutagePlays.f k l0 = some r) :
    Calls Try.prog 4 #[.slice A0 l0.length c0] w fun e w' => e = .returned (.bool r) ∧ Below w.heap.size w w' := by
  have hu23 := Try.underlying23
  have HR0 := Aside0.mk hr0
  have HC0 := Aside0.mk hc0
  clear hr0 hc0
  have HB := Aside0.mk (Below.refl w.heap.size w)
  have H : ((signalmanlaw15_awake.f).bind fun t118 => (if t118 = true then (signalmanlaw15_OutagePlays.j0 k l0 (decide ((l0.length : Int) > 100))) else (signalmanlaw15_OutagePlays.j0 k l0 true))) = some r := h
  clear h
  have HC2 := Aside0.mk H
  clear H
  go_enter Try.func4, Try.ntmps4
  go_upto_region 1 with (fail)
  go_cut [16] (fun v16 wc => ∃ (kq : Nat) (x16_1 : Bool), v16 = .bool x16_1 ∧ Aside0 (signalmanlaw15_OutagePlays.j0 kq l0 x16_1 = some r) ∧ Aside0 (kq ≤ k) ∧ Aside0 (Below w.heap.size w wc))
  case first =>
    have H := HC2.out
    clear HC2
    replace H := Option.bind_eq_some_iff.mp H
    obtain ⟨t118, A30, H⟩ := H
    replace H : (if t118 = true then (signalmanlaw15_OutagePlays.j0 k l0 (decide ((l0.length : Int) > 100))) else (signalmanlaw15_OutagePlays.j0 k l0 true)) = some r := H
    have A3 := Aside0.mk A30
    clear A30
    by_cases c4 : t118 = true
    · subst c4
      have H1 : (signalmanlaw15_OutagePlays.j0 k l0 (decide ((l0.length : Int) > 100))) = some r := by rw [if_pos rfl] at H; exact H
      clear H
      have H := H1
      clear H1
      have H' := Aside0.mk H
      clear H
      go_wp2_with (first | ((with_reducible refine gate_callee (f := 9) rfl ?_); refine goesL_ (some 10) rfl rfl Try.func9 (by kernel_rfl) rfl #[] rfl (by (try simp only [List.map_toArray, List.map_cons, List.map_nil]); first | done | rfl | (simp only [List.length_drop, List.length_take]; rfl) | (simp [Act.eval, *]; done)) ?_; (with_reducible refine (signalmanlaw15_awake.calls  true _ A3.out).mono ?_); rintro e w5 ⟨rfl, hb⟩; refine ⟨_, rfl, ?_⟩; have n0_ := Aside0.mk (below_step (by repeat (first | (with_reducible first | exact HB.out | apply below_alloc | apply pw_below_drewN | apply below_drew1) | exact HB.out)) hb); clear HB; have HB := n0_; clear n0_; (try clear hb); (try clear hb2); (try clear hk); (try clear hi)))
      go_meet
      case rel => exact ⟨_, (decide ((l0.length : Int) > 100)), (by first | rfl | (simp; done) | (simp [*]; done)), H', ⟨by first | omega | exact Nat.le_refl _⟩, ⟨by repeat (first | (with_reducible first | exact HB.out | apply below_alloc | apply pw_below_drewN | apply below_drew1) | exact HB.out)⟩⟩
    · replace c4 := Bool.eq_false_iff.mpr c4
      subst c4
      have H1 : (signalmanlaw15_OutagePlays.j0 k l0 true) = some r := by rw [if_neg (show ¬ (false = true) by decide)] at H; exact H
      clear H
      have H := H1
      clear H1
      have H' := Aside0.mk H
      clear H
      go_wp2_with (first | ((with_reducible refine gate_callee (f := 9) rfl ?_); refine goesL_ (some 10) rfl rfl Try.func9 (by kernel_rfl) rfl #[] rfl (by (try simp only [List.map_toArray, List.map_cons, List.map_nil]); first | done | rfl | (simp only [List.length_drop, List.length_take]; rfl) | (simp [Act.eval, *]; done)) ?_; (with_reducible refine (signalmanlaw15_awake.calls  false _ A3.out).mono ?_); rintro e w6 ⟨rfl, hb⟩; refine ⟨_, rfl, ?_⟩; have n0_ := Aside0.mk (below_step (by repeat (first | (with_reducible first | exact HB.out | apply below_alloc | apply pw_below_drewN | apply below_drew1) | exact HB.out)) hb); clear HB; have HB := n0_; clear n0_; (try clear hb); (try clear hb2); (try clear hk); (try clear hi)))
      go_meet
      case rel => exact ⟨_, (true), (by first | rfl | (simp; done) | (simp [*]; done)), H', ⟨by first | omega | exact Nat.le_refl _⟩, ⟨by repeat (first | (with_reducible first | exact HB.out | apply below_alloc | apply pw_below_drewN | apply below_drew1) | exact HB.out)⟩⟩
  case rest =>
    clear HC2
    try clear p2
    try clear c4
    obtain ⟨kq, x16_1, rfl, HA, HJ1, HB⟩ := hcut
    cases kq with
    | zero => exact absurd HA.out (by simp [signalmanlaw15_OutagePlays.j0])
    | succ kj1 =>
      have H := HA.out
      clear HA
      simp only [signalmanlaw15_OutagePlays.j0] at H
      by_cases c7 : x16_1 = true
      · subst c7
        have H1 : ((signalmanlaw15_awake.f).bind fun t119 => (some t119)) = some r := by rw [if_pos rfl] at H; exact H
        clear H
        have H := H1
        clear H1
        replace H := Option.bind_eq_some_iff.mp H
        obtain ⟨t119, A80, H⟩ := H
        replace H : (some t119) = some r := H
        have A8 := Aside0.mk A80
        clear A80
        obtain rfl := Option.some.inj H
        go_wp2_with (first | ((with_reducible refine gate_callee (f := 9) rfl ?_); refine goesL_ (some 17) rfl rfl Try.func9 (by kernel_rfl) rfl #[] rfl (by (try simp only [List.map_toArray, List.map_cons, List.map_nil]); first | done | rfl | (simp only [List.length_drop, List.length_take]; rfl) | (simp [Act.eval, *]; done)) ?_; (with_reducible refine (signalmanlaw15_awake.calls  t119 _ A8.out).mono ?_); rintro e w9 ⟨rfl, hb⟩; refine ⟨_, rfl, ?_⟩; have n0_ := Aside0.mk (below_step (by repeat (first | (with_reducible first | exact HB.out | apply below_alloc | apply pw_below_drewN | apply below_drew1) | exact HB.out)) hb); clear HB; have HB := n0_; clear n0_; (try clear hb); (try clear hb2); (try clear hk); (try clear hi)))
        go_ret
        exact ⟨by first | rfl | (simp [errW_none, errW_some] <;> rfl) | (simp [*, errW_none, errW_some] <;> rfl), by repeat (first | (with_reducible first | exact HB.out | apply below_alloc | apply pw_below_drewN | apply below_drew1) | exact HB.out)⟩
      · replace c7 := Bool.eq_false_iff.mpr c7
        subst c7
        have H1 : (signalmanlaw15_OutagePlays.l0 kj1 l0 false false false 0 false false false) = some r := by rw [if_neg (show ¬ (false = true) by decide)] at H; exact H
        clear H
        have H := H1
        clear H1
        have H' := Aside0.mk H
        clear H
        go_wp2_with (first | ((with_reducible refine gate_dst (N := 3) rfl ?_); (try (refine gate_guard (by rfl) ?_; dsimp only)); refine box_event ?hg (N := 3) ?hd (cs := #[.bool false, .bool false, .bool false]) (t := 23) ?hr ?_; (case hd => rfl); (case hg => rfl); (case hr => first | (go_simp; done) | (go_simp; rfl)); intro gb120 hg w10 hbox hb; have n0_ := Aside0.mk (below_step (by repeat (first | (with_reducible first | exact HB.out | apply below_alloc | apply pw_below_drewN | apply below_drew1) | exact HB.out)) hb); have n1_ := Aside0.mk (hbox); have n2_ := Aside0.mk ((by rw [hg]; exact (below_size (by repeat (first | (with_reducible first | exact HB.out | apply below_alloc | apply pw_below_drewN | apply below_drew1) | exact HB.out))) : w.heap.size ≤ gb120)); have n3_ := Aside0.mk ((by rw [hg]; exact (below_size (by repeat (first | (with_reducible first | exact HB.out | apply below_alloc | apply pw_below_drewN | apply below_drew1) | exact HB.out))) : w.heap.size ≤ gb120)); clear HB; have HB := n0_; have BK120 := n1_; have GW120 := n2_; have GE120 := n3_; clear n0_ n1_ n2_ n3_; clear hb hbox hg; have hcz11_0 : w10.cell? ⟨gb120, 0, none⟩ = some (.bool false) := (blk_cell BK120.out 0).trans rfl; have hcz11_1 : w10.cell? ⟨gb120, 1, none⟩ = some (.bool false) := (blk_cell BK120.out 1).trans rfl; have hcz11_2 : w10.cell? ⟨gb120, 2, none⟩ = some (.bool false) := (blk_cell BK120.out 2).trans rfl; have hfz11_0 := blk_frozen BK120.out 0; have hfz11_1 := blk_frozen BK120.out 1; have hfz11_2 := blk_frozen BK120.out 2))
        go_loopg [4, 5, 6, 7] kj1 (fun kq v4 v5 v6 v7 w' => ∃ (x4_2 : Bool) (x5_2 : Bool) (x6_2 : Bool) (x7_2 : Int) (x121000_2 : Bool) (x121001_2 : Bool) (x121002_2 : Bool), v4 = .bool x4_2 ∧ v5 = .bool x5_2 ∧ v6 = .bool x6_2 ∧ v7 = .int .i64 x7_2 ∧ Aside0 (signalmanlaw15_OutagePlays.l0 kq l0 x4_2 x5_2 x6_2 x7_2 x121000_2 x121001_2 x121002_2 = some r) ∧ Aside0 (kq ≤ kj1) ∧ Aside0 (w'.heap[gb120]? = some (.cells #[.bool x121000_2, .bool x121001_2, .bool x121002_2] 23 (0, 0))) ∧ Aside0 (Below w.heap.size w w'))
        case atStart => exact ⟨(false), (false), (false), (0), (false), (false), (false), (by first | rfl | (simp; done) | (simp [*]; done)), (by first | rfl | (simp; done) | (simp [*]; done)), (by first | rfl | (simp; done) | (simp [*]; done)), (by first | rfl | (simp; done) | (simp [*]; done)), H', ⟨Nat.le_refl _⟩, ⟨by (with_reducible repeat (first | refine blk_drewN ?_ _ | refine blk_drew ?_ | refine blk_alloc ?_ _)); refine blk_put (cs := #[.bool false, .bool false, .bool false]) ?_ 2 _ rfl; (with_reducible repeat (first | refine blk_drewN ?_ _ | refine blk_drew ?_ | refine blk_alloc ?_ _)); refine blk_put (cs := #[.bool false, .bool false, .bool false]) ?_ 1 _ rfl; (with_reducible repeat (first | refine blk_drewN ?_ _ | refine blk_drew ?_ | refine blk_alloc ?_ _)); refine blk_put (cs := #[.bool false, .bool false, .bool false]) ?_ 0 _ rfl; (with_reducible repeat (first | refine blk_drewN ?_ _ | refine blk_drew ?_ | refine blk_alloc ?_ _)); exact BK120.out⟩, ⟨by repeat (first | (with_reducible first | exact HB.out | apply below_alloc | apply pw_below_drewN | apply below_drew1 | refine below_set ?_ GE120.out) | exact HB.out)⟩⟩
        case round =>
          clear H'
          try clear p2
          try clear c4
          try clear c7
          try clear c9
          try clear hcz11_0
          try clear hcz11_1
          try clear hcz11_2
          try clear hfz11_0
          try clear hfz11_1
          try clear hfz11_2
          try clear p2
          obtain ⟨x4_2, x5_2, x6_2, x7_2, x121000_2, x121001_2, x121002_2, rfl, rfl, rfl, rfl, HA, HK2, BK120, HB⟩ := hrel
          cases gk with
          | zero => exact absurd HA.out (by simp [signalmanlaw15_OutagePlays.l0])
          | succ k2 =>
            have H := HA.out
            clear HA
            simp only [signalmanlaw15_OutagePlays.l0] at H
            by_cases c12 : x7_2 < (l0.length : Int)
            · rw [if_pos c12] at H
              have c12b0 : decide (x7_2 < (l0.length : Int)) = true := decide_eq_true c12
              clear c12
              by_cases c13 : 0 ≤ x7_2
              · rw [if_pos c13] at H
                have c13b0 : decide (0 ≤ x7_2) = true := decide_eq_true c13
                clear c13
                have HC14 := Aside0.mk H
                clear H
                have p121 : 0 ≤ (x7_2 : Int) := of_decide_eq_true (by first | (with_reducible assumption) | assumption)
                have q121 : x7_2 < (l0.length : Int) := of_decide_eq_true (by first | (with_reducible assumption) | assumption)
                obtain ⟨ad121, e121, hx121_0⟩ := Kd.at_int HR0.out x7_2 p121 q121
                cases e121
                replace hx121_0 := (HB.out.cell (World.block_lt_of_cell? w _ hx121_0)).trans hx121_0
                replace p121 := eq_true p121
                replace q121 := eq_true q121
                go_upto_if 45 with (fail)
                go_cut [45] (fun v45 wc => ∃ (kq : Nat) (x45_13 : Bool), v45 = .bool x45_13 ∧ Aside0 (signalmanlaw15_OutagePlays.j2 kq l0 x4_2 x5_2 x6_2 x7_2 (Int.tmod (rd l0 x7_2) 5) x45_13 x121000_2 x121001_2 x121002_2 = some r) ∧ Aside0 (kq ≤ k2) ∧ Aside0 (wc.heap[gb120]? = some (.cells #[.bool x121000_2, .bool x121001_2, .bool x121002_2] 23 (0, 0))) ∧ Aside0 (Below w.heap.size w wc))
                case first =>
                  have H := HC14.out
                  clear HC14
                  by_cases c15 : (Int.tmod (rd l0 x7_2) 5) = 0
                  · rw [if_pos c15] at H
                    have c15b0 : ((Int.tmod (rd l0 x7_2) 5) == 0) = true := beq_iff_eq.mpr c15
                    have c15b1 : ((Int.tmod (rd l0 x7_2) 5) != 0) = false := bne_eq_false_iff_eq.mpr c15
                    clear c15
                    (first | rw [c15b0] | (simp only [i64_w, i32_w]; rw [c15b0]) | skip)
                    have H' := Aside0.mk H
                    clear H
                    go_wp2
                    go_meet
                    case rel => exact ⟨_, (((Int.tmod (rd l0 x7_2) 5) == 0)), (by first | rfl | (simp; done) | (simp [*]; done)), H', ⟨by have := HJ1.out; have := HK2.out; first | omega | exact Nat.le_refl _⟩, ⟨by (with_reducible repeat (first | refine blk_drewN ?_ _ | refine blk_drew ?_ | refine blk_alloc ?_ _)); exact BK120.out⟩, ⟨by repeat (first | (with_reducible first | exact HB.out | apply below_alloc | apply pw_below_drewN | apply below_drew1 | refine below_set ?_ GE120.out) | exact HB.out)⟩⟩
                  · rw [if_neg c15] at H
                    have c15b0 : ((Int.tmod (rd l0 x7_2) 5) == 0) = false := beq_eq_false_iff_ne.mpr c15
                    have c15b1 : ((Int.tmod (rd l0 x7_2) 5) != 0) = true := bne_iff_ne.mpr c15
                    (first | rw [c15b0] | (simp only [i64_w, i32_w]; rw [c15b0]) | skip)
                    have H' := Aside0.mk H
                    clear H
                    go_wp2
                    go_meet
                    case rel => exact ⟨_, (((Int.tmod (rd l0 x7_2) 5) == 1)), (by first | rfl | (simp; done) | (simp [*]; done)), H', ⟨by have := HJ1.out; have := HK2.out; first | omega | exact Nat.le_refl _⟩, ⟨by (with_reducible repeat (first | refine blk_drewN ?_ _ | refine blk_drew ?_ | refine blk_alloc ?_ _)); exact BK120.out⟩, ⟨by repeat (first | (with_reducible first | exact HB.out | apply below_alloc | apply pw_below_drewN | apply below_drew1 | refine below_set ?_ GE120.out) | exact HB.out)⟩⟩
                case rest =>
                  clear HC14
                  try clear c1
                  try clear p1
                  try clear q1
                  try clear hx1
                  try clear p2
                  try clear c4
                  try clear c7
                  try clear c9
                  try clear c12
                  try clear c12b0
                  try clear p12
                  try clear q12
                  try clear hx12
                  try clear c13
                  try clear c13b0
                  try clear c15
                  try clear c15b0
                  try clear c15b1
                  try clear hcz11_0
                  try clear hcz11_1
                  try clear hcz11_2
                  try clear hfz11_0
                  try clear hfz11_1
                  try clear hfz11_2
                  try clear hx121_0
                  try clear p121
                  try clear p2
                  try clear q121
                  obtain ⟨kq, x45_13, rfl, HA, HJ13, BK120, HB⟩ := hcut
                  cases kq with
                  | zero => exact absurd HA.out (by simp [signalmanlaw15_OutagePlays.j2])
                  | succ kj13 =>
                    have H := HA.out
                    clear HA
                    simp only [signalmanlaw15_OutagePlays.j2] at H
                    by_cases c16 : x45_13 = true
                    · subst c16
                      have H1 : (if 0 ≤ x7_2 then (if x7_2 < (l0.length : Int) then ((outage_Outage_Local.f x121000_2 x121001_2 x121002_2 ((Int.tmod (rd l0 x7_2) 5) == 0)).bind fun bt123 => ((outage_Outage_Is.f bt123.1 bt123.2.1 bt123.2.2).bind fun t126 => (if (Int.tmod (rd l0 x7_2) 5) = 0 then (if (t126 != true) = true then (some false) else (signalmanlaw15_OutagePlays.l0 kj13 l0 ((Int.tmod (rd l0 x7_2) 5) == 0) x5_2 x6_2 (wrap64 (x7_2 + 1)) bt123.1 bt123.2.1 bt123.2.2)) else (if x5_2 = true then (if (t126 != true) = true then (some false) else (signalmanlaw15_OutagePlays.l0 kj13 l0 ((Int.tmod (rd l0 x7_2) 5) == 0) x5_2 x6_2 (wrap64 (x7_2 + 1)) bt123.1 bt123.2.1 bt123.2.2)) else (if (t126 != x6_2) = true then (some false) else (signalmanlaw15_OutagePlays.l0 kj13 l0 ((Int.tmod (rd l0 x7_2) 5) == 0) x5_2 x6_2 (wrap64 (x7_2 + 1)) bt123.1 bt123.2.1 bt123.2.2)))))) else (none)) else (none)) = some r := by rw [if_pos rfl] at H; exact H
                      clear H
                      have H := H1
                      clear H1
                      by_cases c17 : 0 ≤ x7_2
                      · rw [if_pos c17] at H
                        have c17b0 : decide (0 ≤ x7_2) = true := decide_eq_true c17
                        clear c17
                        by_cases c18 : x7_2 < (l0.length : Int)
                        · rw [if_pos c18] at H
                          have c18b0 : decide (x7_2 < (l0.length : Int)) = true := decide_eq_true c18
                          clear c18
                          replace H := Option.bind_eq_some_iff.mp H
                          obtain ⟨⟨t123, t124, t125⟩, A190, H⟩ := H
                          replace H : ((outage_Outage_Is.f t123 t124 t125).bind fun t126 => (if (Int.tmod (rd l0 x7_2) 5) = 0 then (if (t126 != true) = true then (some false) else (signalmanlaw15_OutagePlays.l0 kj13 l0 ((Int.tmod (rd l0 x7_2) 5) == 0) x5_2 x6_2 (wrap64 (x7_2 + 1)) t123 t124 t125)) else (if x5_2 = true then (if (t126 != true) = true then (some false) else (signalmanlaw15_OutagePlays.l0 kj13 l0 ((Int.tmod (rd l0 x7_2) 5) == 0) x5_2 x6_2 (wrap64 (x7_2 + 1)) t123 t124 t125)) else (if (t126 != x6_2) = true then (some false) else (signalmanlaw15_OutagePlays.l0 kj13 l0 ((Int.tmod (rd l0 x7_2) 5) == 0) x5_2 x6_2 (wrap64 (x7_2 + 1)) t123 t124 t125))))) = some r := H
                          have A19 := Aside0.mk A190
                          clear A190
                          replace H := Option.bind_eq_some_iff.mp H
                          obtain ⟨t126, A200, H⟩ := H
                          replace H : (if (Int.tmod (rd l0 x7_2) 5) = 0 then (if (t126 != true) = true then (some false) else (signalmanlaw15_OutagePlays.l0 kj13 l0 ((Int.tmod (rd l0 x7_2) 5) == 0) x5_2 x6_2 (wrap64 (x7_2 + 1)) t123 t124 t125)) else (if x5_2 = true then (if (t126 != true) = true then (some false) else (signalmanlaw15_OutagePlays.l0 kj13 l0 ((Int.tmod (rd l0 x7_2) 5) == 0) x5_2 x6_2 (wrap64 (x7_2 + 1)) t123 t124 t125)) else (if (t126 != x6_2) = true then (some false) else (signalmanlaw15_OutagePlays.l0 kj13 l0 ((Int.tmod (rd l0 x7_2) 5) == 0) x5_2 x6_2 (wrap64 (x7_2 + 1)) t123 t124 t125)))) = some r := H
                          have A20 := Aside0.mk A200
                          clear A200
                          by_cases c21 : (Int.tmod (rd l0 x7_2) 5) = 0
                          · rw [if_pos c21] at H
                            have c21b0 : ((Int.tmod (rd l0 x7_2) 5) == 0) = true := beq_iff_eq.mpr c21
                            have c21b1 : ((Int.tmod (rd l0 x7_2) 5) != 0) = false := bne_eq_false_iff_eq.mpr c21
                            clear c21
                            by_cases c22 : (t126 != true) = true
                            · rw [if_pos c22] at H
                              have c22b0 : (t126 != true) = true := c22
                              (try (have c22b1 : decide (t126 = true) = false := by simpa using c22))
                              (try (have c22b2 : (t126 == true) = false := by simpa using c22))
                              (try (have c22b3 : ¬ (t126 = true) := by simpa using c22))
                              clear c22
                              obtain rfl := Option.some.inj H
                              have p122 : 0 ≤ (x7_2 : Int) := of_decide_eq_true (by first | (with_reducible assumption) | assumption)
                              have q122 : x7_2 < (l0.length : Int) := of_decide_eq_true (by first | (with_reducible assumption) | assumption)
                              obtain ⟨ad122, e122, hx122_0⟩ := Kd.at_int HR0.out x7_2 p122 q122
                              obtain rfl : ad121 = ad122 := (by injection e122)
                              replace hx122_0 := (HB.out.cell (World.block_lt_of_cell? w _ hx122_0)).trans hx122_0
                              replace p122 := eq_true p122
                              replace q122 := eq_true q122
                              have hcz23_0 : wc.cell? ⟨gb120, 0, none⟩ = some (.bool x121000_2) := (blk_cell BK120.out 0).trans rfl
                              have hcz23_1 : wc.cell? ⟨gb120, 1, none⟩ = some (.bool x121001_2) := (blk_cell BK120.out 1).trans rfl
                              have hcz23_2 : wc.cell? ⟨gb120, 2, none⟩ = some (.bool x121002_2) := (blk_cell BK120.out 2).trans rfl
                              have hfz23_0 := blk_frozen BK120.out 0
                              have hfz23_1 := blk_frozen BK120.out 1
                              have hfz23_2 := blk_frozen BK120.out 2
                              go_wp2_with (first | ((with_reducible refine gate_callee (f := 6) rfl ?_); refine goesL_ (some 56) rfl rfl Try.func6 (by kernel_rfl) rfl #[.agg #[.bool x121000_2, .bool x121001_2, .bool x121002_2], .bool ((Int.tmod (rd l0 x7_2) 5) == 0)] rfl (by (try simp only [List.map_toArray, List.map_cons, List.map_nil]); first | done | rfl | (simp only [List.length_drop, List.length_take]; rfl) | (simp [Act.eval, *]; done)) ?_; (with_reducible refine (outage_Outage_Local.calls x121000_2 x121001_2 x121002_2 ((Int.tmod (rd l0 x7_2) 5) == 0) t123 t124 t125 _ A19.out).mono ?_); rintro e w24 ⟨rfl, hb⟩; refine ⟨_, rfl, ?_⟩; have n0_ := Aside0.mk (blk_below (g := gb120) (o := .cells #[.bool x121000_2, .bool x121001_2, .bool x121002_2] 23 (0, 0)) (by (with_reducible repeat (first | refine blk_drewN ?_ _ | refine blk_drew ?_ | refine blk_alloc ?_ _)); exact BK120.out) hb); have n1_ := Aside0.mk (below_step (by repeat (first | (with_reducible first | exact HB.out | apply below_alloc | apply pw_below_drewN | apply below_drew1 | refine below_set ?_ GE120.out) | exact HB.out)) hb); clear BK120; clear HB; have BK120 := n0_; have HB := n1_; clear n0_ n1_; (try clear hb); (try clear hb2); (try clear hk); (try clear hi); have hcz25_0 : w24.cell? ⟨gb120, 0, none⟩ = some (.bool x121000_2) := (blk_cell BK120.out 0).trans rfl; have hcz25_1 : w24.cell? ⟨gb120, 1, none⟩ = some (.bool x121001_2) := (blk_cell BK120.out 1).trans rfl; have hcz25_2 : w24.cell? ⟨gb120, 2, none⟩ = some (.bool x121002_2) := (blk_cell BK120.out 2).trans rfl; have hfz25_0 := blk_frozen BK120.out 0; have hfz25_1 := blk_frozen BK120.out 1; have hfz25_2 := blk_frozen BK120.out 2) | ((with_reducible refine gate_callee (f := 10) rfl ?_); refine goesL_ (some 77) rfl rfl Try.func10 (by kernel_rfl) rfl #[.agg #[.bool t123, .bool t124, .bool t125]] rfl (by (try simp only [List.map_toArray, List.map_cons, List.map_nil]); first | done | rfl | (simp only [List.length_drop, List.length_take]; rfl) | (simp [Act.eval, *]; done)) ?_; (with_reducible refine (outage_Outage_Is.calls t123 t124 t125 t126 _ A20.out).mono ?_); rintro e w26 ⟨rfl, hb⟩; refine ⟨_, rfl, ?_⟩; have n0_ := Aside0.mk (blk_below (g := gb120) (o := .cells #[.bool t123, .bool t124, .bool t125] 23 (0, 0)) (by (with_reducible repeat (first | refine blk_drewN ?_ _ | refine blk_drew ?_ | refine blk_alloc ?_ _)); refine blk_put (cs := #[.bool t123, .bool t124, .bool x121002_2]) ?_ 2 _ rfl; (with_reducible repeat (first | refine blk_drewN ?_ _ | refine blk_drew ?_ | refine blk_alloc ?_ _)); refine blk_put (cs := #[.bool t123, .bool x121001_2, .bool x121002_2]) ?_ 1 _ rfl; (with_reducible repeat (first | refine blk_drewN ?_ _ | refine blk_drew ?_ | refine blk_alloc ?_ _)); refine blk_put (cs := #[.bool x121000_2, .bool x121001_2, .bool x121002_2]) ?_ 0 _ rfl; (with_reducible repeat (first | refine blk_drewN ?_ _ | refine blk_drew ?_ | refine blk_alloc ?_ _)); exact BK120.out) hb); have n1_ := Aside0.mk (below_step (by repeat (first | (with_reducible first | exact HB.out | apply below_alloc | apply pw_below_drewN | apply below_drew1 | refine below_set ?_ GE120.out) | exact HB.out)) hb); clear BK120; clear HB; have BK120 := n0_; have HB := n1_; clear n0_ n1_; (try clear hb); (try clear hb2); (try clear hk); (try clear hi)))
                              go_ret
                              exact ⟨by first | rfl | (simp [errW_none, errW_some] <;> rfl) | (simp [*, errW_none, errW_some] <;> rfl), by repeat (first | (with_reducible first | exact HB.out | apply below_alloc | apply pw_below_drewN | apply below_drew1 | refine below_set ?_ GE120.out) | exact HB.out)⟩
                            · rw [if_neg c22] at H
                              have c22b0 : (t126 != true) = false := by simpa using c22
                              (try (have c22b1 : decide (t126 = true) = true := by simpa using c22))
                              (try (have c22b2 : (t126 == true) = true := by simpa using c22))
                              clear c22
                              have H' := Aside0.mk H
                              clear H
                              have p122 : 0 ≤ (x7_2 : Int) := of_decide_eq_true (by first | (with_reducible assumption) | assumption)
                              have q122 : x7_2 < (l0.length : Int) := of_decide_eq_true (by first | (with_reducible assumption) | assumption)
                              obtain ⟨ad122, e122, hx122_0⟩ := Kd.at_int HR0.out x7_2 p122 q122
                              obtain rfl : ad121 = ad122 := (by injection e122)
                              replace hx122_0 := (HB.out.cell (World.block_lt_of_cell? w _ hx122_0)).trans hx122_0
                              replace p122 := eq_true p122
                              replace q122 := eq_true q122
                              have hcz27_0 : wc.cell? ⟨gb120, 0, none⟩ = some (.bool x121000_2) := (blk_cell BK120.out 0).trans rfl
                              have hcz27_1 : wc.cell? ⟨gb120, 1, none⟩ = some (.bool x121001_2) := (blk_cell BK120.out 1).trans rfl
                              have hcz27_2 : wc.cell? ⟨gb120, 2, none⟩ = some (.bool x121002_2) := (blk_cell BK120.out 2).trans rfl
                              have hfz27_0 := blk_frozen BK120.out 0
                              have hfz27_1 := blk_frozen BK120.out 1
                              have hfz27_2 := blk_frozen BK120.out 2
                              go_wp2_with (first | ((with_reducible refine gate_callee (f := 6) rfl ?_); refine goesL_ (some 56) rfl rfl Try.func6 (by kernel_rfl) rfl #[.agg #[.bool x121000_2, .bool x121001_2, .bool x121002_2], .bool ((Int.tmod (rd l0 x7_2) 5) == 0)] rfl (by (try simp only [List.map_toArray, List.map_cons, List.map_nil]); first | done | rfl | (simp only [List.length_drop, List.length_take]; rfl) | (simp [Act.eval, *]; done)) ?_; (with_reducible refine (outage_Outage_Local.calls x121000_2 x121001_2 x121002_2 ((Int.tmod (rd l0 x7_2) 5) == 0) t123 t124 t125 _ A19.out).mono ?_); rintro e w28 ⟨rfl, hb⟩; refine ⟨_, rfl, ?_⟩; have n0_ := Aside0.mk (blk_below (g := gb120) (o := .cells #[.bool x121000_2, .bool x121001_2, .bool x121002_2] 23 (0, 0)) (by (with_reducible repeat (first | refine blk_drewN ?_ _ | refine blk_drew ?_ | refine blk_alloc ?_ _)); exact BK120.out) hb); have n1_ := Aside0.mk (below_step (by repeat (first | (with_reducible first | exact HB.out | apply below_alloc | apply pw_below_drewN | apply below_drew1 | refine below_set ?_ GE120.out) | exact HB.out)) hb); clear BK120; clear HB; have BK120 := n0_; have HB := n1_; clear n0_ n1_; (try clear hb); (try clear hb2); (try clear hk); (try clear hi); have hcz29_0 : w28.cell? ⟨gb120, 0, none⟩ = some (.bool x121000_2) := (blk_cell BK120.out 0).trans rfl; have hcz29_1 : w28.cell? ⟨gb120, 1, none⟩ = some (.bool x121001_2) := (blk_cell BK120.out 1).trans rfl; have hcz29_2 : w28.cell? ⟨gb120, 2, none⟩ = some (.bool x121002_2) := (blk_cell BK120.out 2).trans rfl; have hfz29_0 := blk_frozen BK120.out 0; have hfz29_1 := blk_frozen BK120.out 1; have hfz29_2 := blk_frozen BK120.out 2) | ((with_reducible refine gate_callee (f := 10) rfl ?_); refine goesL_ (some 77) rfl rfl Try.func10 (by kernel_rfl) rfl #[.agg #[.bool t123, .bool t124, .bool t125]] rfl (by (try simp only [List.map_toArray, List.map_cons, List.map_nil]); first | done | rfl | (simp only [List.length_drop, List.length_take]; rfl) | (simp [Act.eval, *]; done)) ?_; (with_reducible refine (outage_Outage_Is.calls t123 t124 t125 t126 _ A20.out).mono ?_); rintro e w30 ⟨rfl, hb⟩; refine ⟨_, rfl, ?_⟩; have n0_ := Aside0.mk (blk_below (g := gb120) (o := .cells #[.bool t123, .bool t124, .bool t125] 23 (0, 0)) (by (with_reducible repeat (first | refine blk_drewN ?_ _ | refine blk_drew ?_ | refine blk_alloc ?_ _)); refine blk_put (cs := #[.bool t123, .bool t124, .bool x121002_2]) ?_ 2 _ rfl; (with_reducible repeat (first | refine blk_drewN ?_ _ | refine blk_drew ?_ | refine blk_alloc ?_ _)); refine blk_put (cs := #[.bool t123, .bool x121001_2, .bool x121002_2]) ?_ 1 _ rfl; (with_reducible repeat (first | refine blk_drewN ?_ _ | refine blk_drew ?_ | refine blk_alloc ?_ _)); refine blk_put (cs := #[.bool x121000_2, .bool x121001_2, .bool x121002_2]) ?_ 0 _ rfl; (with_reducible repeat (first | refine blk_drewN ?_ _ | refine blk_drew ?_ | refine blk_alloc ?_ _)); exact BK120.out) hb); have n1_ := Aside0.mk (below_step (by repeat (first | (with_reducible first | exact HB.out | apply below_alloc | apply pw_below_drewN | apply below_drew1 | refine below_set ?_ GE120.out) | exact HB.out)) hb); clear BK120; clear HB; have BK120 := n0_; have HB := n1_; clear n0_ n1_; (try clear hb); (try clear hb2); (try clear hk); (try clear hi)))
                              go_roundg kj13
                              case measure => have := HJ1.out; have := HK2.out; have := HJ13.out; omega
                              case rel => exact ⟨(((Int.tmod (rd l0 x7_2) 5) == 0)), (x5_2), (x6_2), (wrap64 (x7_2 + 1)), (t123), (t124), (t125), (by first | rfl | (simp; done) | (simp [*]; done)), (by first | rfl | (simp; done) | (simp [*]; done)), (by first | rfl | (simp; done) | (simp [*]; done)), (by first | rfl | (simp; done) | (simp [*]; done)), H', ⟨by have := HJ1.out; have := HK2.out; have := HJ13.out; omega⟩, ⟨by (with_reducible repeat (first | refine blk_drewN ?_ _ | refine blk_drew ?_ | refine blk_alloc ?_ _)); exact BK120.out⟩, ⟨by repeat (first | (with_reducible first | exact HB.out | apply below_alloc | apply pw_below_drewN | apply below_drew1 | refine below_set ?_ GE120.out) | exact HB.out)⟩⟩
                          · rw [if_neg c21] at H
                            have c21b0 : ((Int.tmod (rd l0 x7_2) 5) == 0) = false := beq_eq_false_iff_ne.mpr c21
                            have c21b1 : ((Int.tmod (rd l0 x7_2) 5) != 0) = true := bne_iff_ne.mpr c21
                            by_cases c31 : x5_2 = true
                            · subst c31
                              have H1 : (if (t126 != true) = true then (some false) else (signalmanlaw15_OutagePlays.l0 kj13 l0 ((Int.tmod (rd l0 x7_2) 5) == 0) true x6_2 (wrap64 (x7_2 + 1)) t123 t124 t125)) = some r := by rw [if_pos rfl] at H; exact H
                              clear H
                              have H := H1
                              clear H1
                              by_cases c32 : (t126 != true) = true
                              · rw [if_pos c32] at H
                                have c32b0 : (t126 != true) = true := c32
                                (try (have c32b1 : decide (t126 = true) = false := by simpa using c32))
                                (try (have c32b2 : (t126 == true) = false := by simpa using c32))
                                (try (have c32b3 : ¬ (t126 = true) := by simpa using c32))
                                clear c32
                                obtain rfl := Option.some.inj H
                                have p122 : 0 ≤ (x7_2 : Int) := of_decide_eq_true (by first | (with_reducible assumption) | assumption)
                                have q122 : x7_2 < (l0.length : Int) := of_decide_eq_true (by first | (with_reducible assumption) | assumption)
                                obtain ⟨ad122, e122, hx122_0⟩ := Kd.at_int HR0.out x7_2 p122 q122
                                obtain rfl : ad121 = ad122 := (by injection e122)
                                replace hx122_0 := (HB.out.cell (World.block_lt_of_cell? w _ hx122_0)).trans hx122_0
                                replace p122 := eq_true p122
                                replace q122 := eq_true q122
                                have hcz33_0 : wc.cell? ⟨gb120, 0, none⟩ = some (.bool x121000_2) := (blk_cell BK120.out 0).trans rfl
                                have hcz33_1 : wc.cell? ⟨gb120, 1, none⟩ = some (.bool x121001_2) := (blk_cell BK120.out 1).trans rfl
                                have hcz33_2 : wc.cell? ⟨gb120, 2, none⟩ = some (.bool x121002_2) := (blk_cell BK120.out 2).trans rfl
                                have hfz33_0 := blk_frozen BK120.out 0
                                have hfz33_1 := blk_frozen BK120.out 1
                                have hfz33_2 := blk_frozen BK120.out 2
                                go_wp2_with (first | ((with_reducible refine gate_callee (f := 6) rfl ?_); refine goesL_ (some 56) rfl rfl Try.func6 (by kernel_rfl) rfl #[.agg #[.bool x121000_2, .bool x121001_2, .bool x121002_2], .bool ((Int.tmod (rd l0 x7_2) 5) == 0)] rfl (by (try simp only [List.map_toArray, List.map_cons, List.map_nil]); first | done | rfl | (simp only [List.length_drop, List.length_take]; rfl) | (simp [Act.eval, *]; done)) ?_; (with_reducible refine (outage_Outage_Local.calls x121000_2 x121001_2 x121002_2 ((Int.tmod (rd l0 x7_2) 5) == 0) t123 t124 t125 _ A19.out).mono ?_); rintro e w34 ⟨rfl, hb⟩; refine ⟨_, rfl, ?_⟩; have n0_ := Aside0.mk (blk_below (g := gb120) (o := .cells #[.bool x121000_2, .bool x121001_2, .bool x121002_2] 23 (0, 0)) (by (with_reducible repeat (first | refine blk_drewN ?_ _ | refine blk_drew ?_ | refine blk_alloc ?_ _)); exact BK120.out) hb); have n1_ := Aside0.mk (below_step (by repeat (first | (with_reducible first | exact HB.out | apply below_alloc | apply pw_below_drewN | apply below_drew1 | refine below_set ?_ GE120.out) | exact HB.out)) hb); clear BK120; clear HB; have BK120 := n0_; have HB := n1_; clear n0_ n1_; (try clear hb); (try clear hb2); (try clear hk); (try clear hi); have hcz35_0 : w34.cell? ⟨gb120, 0, none⟩ = some (.bool x121000_2) := (blk_cell BK120.out 0).trans rfl; have hcz35_1 : w34.cell? ⟨gb120, 1, none⟩ = some (.bool x121001_2) := (blk_cell BK120.out 1).trans rfl; have hcz35_2 : w34.cell? ⟨gb120, 2, none⟩ = some (.bool x121002_2) := (blk_cell BK120.out 2).trans rfl; have hfz35_0 := blk_frozen BK120.out 0; have hfz35_1 := blk_frozen BK120.out 1; have hfz35_2 := blk_frozen BK120.out 2) | ((with_reducible refine gate_callee (f := 10) rfl ?_); refine goesL_ (some 77) rfl rfl Try.func10 (by kernel_rfl) rfl #[.agg #[.bool t123, .bool t124, .bool t125]] rfl (by (try simp only [List.map_toArray, List.map_cons, List.map_nil]); first | done | rfl | (simp only [List.length_drop, List.length_take]; rfl) | (simp [Act.eval, *]; done)) ?_; (with_reducible refine (outage_Outage_Is.calls t123 t124 t125 t126 _ A20.out).mono ?_); rintro e w36 ⟨rfl, hb⟩; refine ⟨_, rfl, ?_⟩; have n0_ := Aside0.mk (blk_below (g := gb120) (o := .cells #[.bool t123, .bool t124, .bool t125] 23 (0, 0)) (by (with_reducible repeat (first | refine blk_drewN ?_ _ | refine blk_drew ?_ | refine blk_alloc ?_ _)); refine blk_put (cs := #[.bool t123, .bool t124, .bool x121002_2]) ?_ 2 _ rfl; (with_reducible repeat (first | refine blk_drewN ?_ _ | refine blk_drew ?_ | refine blk_alloc ?_ _)); refine blk_put (cs := #[.bool t123, .bool x121001_2, .bool x121002_2]) ?_ 1 _ rfl; (with_reducible repeat (first | refine blk_drewN ?_ _ | refine blk_drew ?_ | refine blk_alloc ?_ _)); refine blk_put (cs := #[.bool x121000_2, .bool x121001_2, .bool x121002_2]) ?_ 0 _ rfl; (with_reducible repeat (first | refine blk_drewN ?_ _ | refine blk_drew ?_ | refine blk_alloc ?_ _)); exact BK120.out) hb); have n1_ := Aside0.mk (below_step (by repeat (first | (with_reducible first | exact HB.out | apply below_alloc | apply pw_below_drewN | apply below_drew1 | refine below_set ?_ GE120.out) | exact HB.out)) hb); clear BK120; clear HB; have BK120 := n0_; have HB := n1_; clear n0_ n1_; (try clear hb); (try clear hb2); (try clear hk); (try clear hi)))
                                go_ret
                                exact ⟨by first | rfl | (simp [errW_none, errW_some] <;> rfl) | (simp [*, errW_none, errW_some] <;> rfl), by repeat (first | (with_reducible first | exact HB.out | apply below_alloc | apply pw_below_drewN | apply below_drew1 | refine below_set ?_ GE120.out) | exact HB.out)⟩
                              · rw [if_neg c32] at H
                                have c32b0 : (t126 != true) = false := by simpa using c32
                                (try (have c32b1 : decide (t126 = true) = true := by simpa using c32))
                                (try (have c32b2 : (t126 == true) = true := by simpa using c32))
                                clear c32
                                have H' := Aside0.mk H
                                clear H
                                have p122 : 0 ≤ (x7_2 : Int) := of_decide_eq_true (by first | (with_reducible assumption) | assumption)
                                have q122 : x7_2 < (l0.length : Int) := of_decide_eq_true (by first | (with_reducible assumption) | assumption)
                                obtain ⟨ad122, e122, hx122_0⟩ := Kd.at_int HR0.out x7_2 p122 q122
                                obtain rfl : ad121 = ad122 := (by injection e122)
                                replace hx122_0 := (HB.out.cell (World.block_lt_of_cell? w _ hx122_0)).trans hx122_0
                                replace p122 := eq_true p122
                                replace q122 := eq_true q122
                                have hcz37_0 : wc.cell? ⟨gb120, 0, none⟩ = some (.bool x121000_2) := (blk_cell BK120.out 0).trans rfl
                                have hcz37_1 : wc.cell? ⟨gb120, 1, none⟩ = some (.bool x121001_2) := (blk_cell BK120.out 1).trans rfl
                                have hcz37_2 : wc.cell? ⟨gb120, 2, none⟩ = some (.bool x121002_2) := (blk_cell BK120.out 2).trans rfl
                                have hfz37_0 := blk_frozen BK120.out 0
                                have hfz37_1 := blk_frozen BK120.out 1
                                have hfz37_2 := blk_frozen BK120.out 2
                                go_wp2_with (first | ((with_reducible refine gate_callee (f := 6) rfl ?_); refine goesL_ (some 56) rfl rfl Try.func6 (by kernel_rfl) rfl #[.agg #[.bool x121000_2, .bool x121001_2, .bool x121002_2], .bool ((Int.tmod (rd l0 x7_2) 5) == 0)] rfl (by (try simp only [List.map_toArray, List.map_cons, List.map_nil]); first | done | rfl | (simp only [List.length_drop, List.length_take]; rfl) | (simp [Act.eval, *]; done)) ?_; (with_reducible refine (outage_Outage_Local.calls x121000_2 x121001_2 x121002_2 ((Int.tmod (rd l0 x7_2) 5) == 0) t123 t124 t125 _ A19.out).mono ?_); rintro e w38 ⟨rfl, hb⟩; refine ⟨_, rfl, ?_⟩; have n0_ := Aside0.mk (blk_below (g := gb120) (o := .cells #[.bool x121000_2, .bool x121001_2, .bool x121002_2] 23 (0, 0)) (by (with_reducible repeat (first | refine blk_drewN ?_ _ | refine blk_drew ?_ | refine blk_alloc ?_ _)); exact BK120.out) hb); have n1_ := Aside0.mk (below_step (by repeat (first | (with_reducible first | exact HB.out | apply below_alloc | apply pw_below_drewN | apply below_drew1 | refine below_set ?_ GE120.out) | exact HB.out)) hb); clear BK120; clear HB; have BK120 := n0_; have HB := n1_; clear n0_ n1_; (try clear hb); (try clear hb2); (try clear hk); (try clear hi); have hcz39_0 : w38.cell? ⟨gb120, 0, none⟩ = some (.bool x121000_2) := (blk_cell BK120.out 0).trans rfl; have hcz39_1 : w38.cell? ⟨gb120, 1, none⟩ = some (.bool x121001_2) := (blk_cell BK120.out 1).trans rfl; have hcz39_2 : w38.cell? ⟨gb120, 2, none⟩ = some (.bool x121002_2) := (blk_cell BK120.out 2).trans rfl; have hfz39_0 := blk_frozen BK120.out 0; have hfz39_1 := blk_frozen BK120.out 1; have hfz39_2 := blk_frozen BK120.out 2) | ((with_reducible refine gate_callee (f := 10) rfl ?_); refine goesL_ (some 77) rfl rfl Try.func10 (by kernel_rfl) rfl #[.agg #[.bool t123, .bool t124, .bool t125]] rfl (by (try simp only [List.map_toArray, List.map_cons, List.map_nil]); first | done | rfl | (simp only [List.length_drop, List.length_take]; rfl) | (simp [Act.eval, *]; done)) ?_; (with_reducible refine (outage_Outage_Is.calls t123 t124 t125 t126 _ A20.out).mono ?_); rintro e w40 ⟨rfl, hb⟩; refine ⟨_, rfl, ?_⟩; have n0_ := Aside0.mk (blk_below (g := gb120) (o := .cells #[.bool t123, .bool t124, .bool t125] 23 (0, 0)) (by (with_reducible repeat (first | refine blk_drewN ?_ _ | refine blk_drew ?_ | refine blk_alloc ?_ _)); refine blk_put (cs := #[.bool t123, .bool t124, .bool x121002_2]) ?_ 2 _ rfl; (with_reducible repeat (first | refine blk_drewN ?_ _ | refine blk_drew ?_ | refine blk_alloc ?_ _)); refine blk_put (cs := #[.bool t123, .bool x121001_2, .bool x121002_2]) ?_ 1 _ rfl; (with_reducible repeat (first | refine blk_drewN ?_ _ | refine blk_drew ?_ | refine blk_alloc ?_ _)); refine blk_put (cs := #[.bool x121000_2, .bool x121001_2, .bool x121002_2]) ?_ 0 _ rfl; (with_reducible repeat (first | refine blk_drewN ?_ _ | refine blk_drew ?_ | refine blk_alloc ?_ _)); exact BK120.out) hb); have n1_ := Aside0.mk (below_step (by repeat (first | (with_reducible first | exact HB.out | apply below_alloc | apply pw_below_drewN | apply below_drew1 | refine below_set ?_ GE120.out) | exact HB.out)) hb); clear BK120; clear HB; have BK120 := n0_; have HB := n1_; clear n0_ n1_; (try clear hb); (try clear hb2); (try clear hk); (try clear hi)))
                                go_roundg kj13
                                case measure => have := HJ1.out; have := HK2.out; have := HJ13.out; omega
                                case rel => exact ⟨(((Int.tmod (rd l0 x7_2) 5) == 0)), (true), (x6_2), (wrap64 (x7_2 + 1)), (t123), (t124), (t125), (by first | rfl | (simp; done) | (simp [*]; done)), (by first | rfl | (simp; done) | (simp [*]; done)), (by first | rfl | (simp; done) | (simp [*]; done)), (by first | rfl | (simp; done) | (simp [*]; done)), H', ⟨by have := HJ1.out; have := HK2.out; have := HJ13.out; omega⟩, ⟨by (with_reducible repeat (first | refine blk_drewN ?_ _ | refine blk_drew ?_ | refine blk_alloc ?_ _)); exact BK120.out⟩, ⟨by repeat (first | (with_reducible first | exact HB.out | apply below_alloc | apply pw_below_drewN | apply below_drew1 | refine below_set ?_ GE120.out) | exact HB.out)⟩⟩
                            · replace c31 := Bool.eq_false_iff.mpr c31
                              subst c31
                              have H1 : (if (t126 != x6_2) = true then (some false) else (signalmanlaw15_OutagePlays.l0 kj13 l0 ((Int.tmod (rd l0 x7_2) 5) == 0) false x6_2 (wrap64 (x7_2 + 1)) t123 t124 t125)) = some r := by rw [if_neg (show ¬ (false = true) by decide)] at H; exact H
                              clear H
                              have H := H1
                              clear H1
                              by_cases c41 : (t126 != x6_2) = true
                              · rw [if_pos c41] at H
                                have c41b0 : (t126 != x6_2) = true := c41
                                (try (have c41b1 : decide (t126 = x6_2) = false := by simpa using c41))
                                (try (have c41b2 : (t126 == x6_2) = false := by simpa using c41))
                                (try (have c41b3 : ¬ (t126 = x6_2) := by simpa using c41))
                                clear c41
                                obtain rfl := Option.some.inj H
                                have p122 : 0 ≤ (x7_2 : Int) := of_decide_eq_true (by first | (with_reducible assumption) | assumption)
                                have q122 : x7_2 < (l0.length : Int) := of_decide_eq_true (by first | (with_reducible assumption) | assumption)
                                obtain ⟨ad122, e122, hx122_0⟩ := Kd.at_int HR0.out x7_2 p122 q122
                                obtain rfl : ad121 = ad122 := (by injection e122)
                                replace hx122_0 := (HB.out.cell (World.block_lt_of_cell? w _ hx122_0)).trans hx122_0
                                replace p122 := eq_true p122
                                replace q122 := eq_true q122
                                have hcz42_0 : wc.cell? ⟨gb120, 0, none⟩ = some (.bool x121000_2) := (blk_cell BK120.out 0).trans rfl
                                have hcz42_1 : wc.cell? ⟨gb120, 1, none⟩ = some (.bool x121001_2) := (blk_cell BK120.out 1).trans rfl
                                have hcz42_2 : wc.cell? ⟨gb120, 2, none⟩ = some (.bool x121002_2) := (blk_cell BK120.out 2).trans rfl
                                have hfz42_0 := blk_frozen BK120.out 0
                                have hfz42_1 := blk_frozen BK120.out 1
                                have hfz42_2 := blk_frozen BK120.out 2
                                go_wp2_with (first | ((with_reducible refine gate_callee (f := 6) rfl ?_); refine goesL_ (some 56) rfl rfl Try.func6 (by kernel_rfl) rfl #[.agg #[.bool x121000_2, .bool x121001_2, .bool x121002_2], .bool ((Int.tmod (rd l0 x7_2) 5) == 0)] rfl (by (try simp only [List.map_toArray, List.map_cons, List.map_nil]); first | done | rfl | (simp only [List.length_drop, List.length_take]; rfl) | (simp [Act.eval, *]; done)) ?_; (with_reducible refine (outage_Outage_Local.calls x121000_2 x121001_2 x121002_2 ((Int.tmod (rd l0 x7_2) 5) == 0) t123 t124 t125 _ A19.out).mono ?_); rintro e w43 ⟨rfl, hb⟩; refine ⟨_, rfl, ?_⟩; have n0_ := Aside0.mk (blk_below (g := gb120) (o := .cells #[.bool x121000_2, .bool x121001_2, .bool x121002_2] 23 (0, 0)) (by (with_reducible repeat (first | refine blk_drewN ?_ _ | refine blk_drew ?_ | refine blk_alloc ?_ _)); exact BK120.out) hb); have n1_ := Aside0.mk (below_step (by repeat (first | (with_reducible first | exact HB.out | apply below_alloc | apply pw_below_drewN | apply below_drew1 | refine below_set ?_ GE120.out) | exact HB.out)) hb); clear BK120; clear HB; have BK120 := n0_; have HB := n1_; clear n0_ n1_; (try clear hb); (try clear hb2); (try clear hk); (try clear hi); have hcz44_0 : w43.cell? ⟨gb120, 0, none⟩ = some (.bool x121000_2) := (blk_cell BK120.out 0).trans rfl; have hcz44_1 : w43.cell? ⟨gb120, 1, none⟩ = some (.bool x121001_2) := (blk_cell BK120.out 1).trans rfl; have hcz44_2 : w43.cell? ⟨gb120, 2, none⟩ = some (.bool x121002_2) := (blk_cell BK120.out 2).trans rfl; have hfz44_0 := blk_frozen BK120.out 0; have hfz44_1 := blk_frozen BK120.out 1; have hfz44_2 := blk_frozen BK120.out 2) | ((with_reducible refine gate_callee (f := 10) rfl ?_); refine goesL_ (some 77) rfl rfl Try.func10 (by kernel_rfl) rfl #[.agg #[.bool t123, .bool t124, .bool t125]] rfl (by (try simp only [List.map_toArray, List.map_cons, List.map_nil]); first | done | rfl | (simp only [List.length_drop, List.length_take]; rfl) | (simp [Act.eval, *]; done)) ?_; (with_reducible refine (outage_Outage_Is.calls t123 t124 t125 t126 _ A20.out).mono ?_); rintro e w45 ⟨rfl, hb⟩; refine ⟨_, rfl, ?_⟩; have n0_ := Aside0.mk (blk_below (g := gb120) (o := .cells #[.bool t123, .bool t124, .bool t125] 23 (0, 0)) (by (with_reducible repeat (first | refine blk_drewN ?_ _ | refine blk_drew ?_ | refine blk_alloc ?_ _)); refine blk_put (cs := #[.bool t123, .bool t124, .bool x121002_2]) ?_ 2 _ rfl; (with_reducible repeat (first | refine blk_drewN ?_ _ | refine blk_drew ?_ | refine blk_alloc ?_ _)); refine blk_put (cs := #[.bool t123, .bool x121001_2, .bool x121002_2]) ?_ 1 _ rfl; (with_reducible repeat (first | refine blk_drewN ?_ _ | refine blk_drew ?_ | refine blk_alloc ?_ _)); refine blk_put (cs := #[.bool x121000_2, .bool x121001_2, .bool x121002_2]) ?_ 0 _ rfl; (with_reducible repeat (first | refine blk_drewN ?_ _ | refine blk_drew ?_ | refine blk_alloc ?_ _)); exact BK120.out) hb); have n1_ := Aside0.mk (below_step (by repeat (first | (with_reducible first | exact HB.out | apply below_alloc | apply pw_below_drewN | apply below_drew1 | refine below_set ?_ GE120.out) | exact HB.out)) hb); clear BK120; clear HB; have BK120 := n0_; have HB := n1_; clear n0_ n1_; (try clear hb); (try clear hb2); (try clear hk); (try clear hi)))
                                go_ret
                                exact ⟨by first | rfl | (simp [errW_none, errW_some] <;> rfl) | (simp [*, errW_none, errW_some] <;> rfl), by repeat (first | (with_reducible first | exact HB.out | apply below_alloc | apply pw_below_drewN | apply below_drew1 | refine below_set ?_ GE120.out) | exact HB.out)⟩
                              · rw [if_neg c41] at H
                                have c41b0 : (t126 != x6_2) = false := by simpa using c41
                                (try (have c41b1 : decide (t126 = x6_2) = true := by simpa using c41))
                                (try (have c41b2 : (t126 == x6_2) = true := by simpa using c41))
                                clear c41
                                have H' := Aside0.mk H
                                clear H
                                have p122 : 0 ≤ (x7_2 : Int) := of_decide_eq_true (by first | (with_reducible assumption) | assumption)
                                have q122 : x7_2 < (l0.length : Int) := of_decide_eq_true (by first | (with_reducible assumption) | assumption)
                                obtain ⟨ad122, e122, hx122_0⟩ := Kd.at_int HR0.out x7_2 p122 q122
                                obtain rfl : ad121 = ad122 := (by injection e122)
                                replace hx122_0 := (HB.out.cell (World.block_lt_of_cell? w _ hx122_0)).trans hx122_0
                                replace p122 := eq_true p122
                                replace q122 := eq_true q122
                                have hcz46_0 : wc.cell? ⟨gb120, 0, none⟩ = some (.bool x121000_2) := (blk_cell BK120.out 0).trans rfl
                                have hcz46_1 : wc.cell? ⟨gb120, 1, none⟩ = some (.bool x121001_2) := (blk_cell BK120.out 1).trans rfl
                                have hcz46_2 : wc.cell? ⟨gb120, 2, none⟩ = some (.bool x121002_2) := (blk_cell BK120.out 2).trans rfl
                                have hfz46_0 := blk_frozen BK120.out 0
                                have hfz46_1 := blk_frozen BK120.out 1
                                have hfz46_2 := blk_frozen BK120.out 2
                                go_wp2_with (first | ((with_reducible refine gate_callee (f := 6) rfl ?_); refine goesL_ (some 56) rfl rfl Try.func6 (by kernel_rfl) rfl #[.agg #[.bool x121000_2, .bool x121001_2, .bool x121002_2], .bool ((Int.tmod (rd l0 x7_2) 5) == 0)] rfl (by (try simp only [List.map_toArray, List.map_cons, List.map_nil]); first | done | rfl | (simp only [List.length_drop, List.length_take]; rfl) | (simp [Act.eval, *]; done)) ?_; (with_reducible refine (outage_Outage_Local.calls x121000_2 x121001_2 x121002_2 ((Int.tmod (rd l0 x7_2) 5) == 0) t123 t124 t125 _ A19.out).mono ?_); rintro e w47 ⟨rfl, hb⟩; refine ⟨_, rfl, ?_⟩; have n0_ := Aside0.mk (blk_below (g := gb120) (o := .cells #[.bool x121000_2, .bool x121001_2, .bool x121002_2] 23 (0, 0)) (by (with_reducible repeat (first | refine blk_drewN ?_ _ | refine blk_drew ?_ | refine blk_alloc ?_ _)); exact BK120.out) hb); have n1_ := Aside0.mk (below_step (by repeat (first | (with_reducible first | exact HB.out | apply below_alloc | apply pw_below_drewN | apply below_drew1 | refine below_set ?_ GE120.out) | exact HB.out)) hb); clear BK120; clear HB; have BK120 := n0_; have HB := n1_; clear n0_ n1_; (try clear hb); (try clear hb2); (try clear hk); (try clear hi); have hcz48_0 : w47.cell? ⟨gb120, 0, none⟩ = some (.bool x121000_2) := (blk_cell BK120.out 0).trans rfl; have hcz48_1 : w47.cell? ⟨gb120, 1, none⟩ = some (.bool x121001_2) := (blk_cell BK120.out 1).trans rfl; have hcz48_2 : w47.cell? ⟨gb120, 2, none⟩ = some (.bool x121002_2) := (blk_cell BK120.out 2).trans rfl; have hfz48_0 := blk_frozen BK120.out 0; have hfz48_1 := blk_frozen BK120.out 1; have hfz48_2 := blk_frozen BK120.out 2) | ((with_reducible refine gate_callee (f := 10) rfl ?_); refine goesL_ (some 77) rfl rfl Try.func10 (by kernel_rfl) rfl #[.agg #[.bool t123, .bool t124, .bool t125]] rfl (by (try simp only [List.map_toArray, List.map_cons, List.map_nil]); first | done | rfl | (simp only [List.length_drop, List.length_take]; rfl) | (simp [Act.eval, *]; done)) ?_; (with_reducible refine (outage_Outage_Is.calls t123 t124 t125 t126 _ A20.out).mono ?_); rintro e w49 ⟨rfl, hb⟩; refine ⟨_, rfl, ?_⟩; have n0_ := Aside0.mk (blk_below (g := gb120) (o := .cells #[.bool t123, .bool t124, .bool t125] 23 (0, 0)) (by (with_reducible repeat (first | refine blk_drewN ?_ _ | refine blk_drew ?_ | refine blk_alloc ?_ _)); refine blk_put (cs := #[.bool t123, .bool t124, .bool x121002_2]) ?_ 2 _ rfl; (with_reducible repeat (first | refine blk_drewN ?_ _ | refine blk_drew ?_ | refine blk_alloc ?_ _)); refine blk_put (cs := #[.bool t123, .bool x121001_2, .bool x121002_2]) ?_ 1 _ rfl; (with_reducible repeat (first | refine blk_drewN ?_ _ | refine blk_drew ?_ | refine blk_alloc ?_ _)); refine blk_put (cs := #[.bool x121000_2, .bool x121001_2, .bool x121002_2]) ?_ 0 _ rfl; (with_reducible repeat (first | refine blk_drewN ?_ _ | refine blk_drew ?_ | refine blk_alloc ?_ _)); exact BK120.out) hb); have n1_ := Aside0.mk (below_step (by repeat (first | (with_reducible first | exact HB.out | apply below_alloc | apply pw_below_drewN | apply below_drew1 | refine below_set ?_ GE120.out) | exact HB.out)) hb); clear BK120; clear HB; have BK120 := n0_; have HB := n1_; clear n0_ n1_; (try clear hb); (try clear hb2); (try clear hk); (try clear hi)))
                                go_roundg kj13
                                case measure => have := HJ1.out; have := HK2.out; have := HJ13.out; omega
                                case rel => exact ⟨(((Int.tmod (rd l0 x7_2) 5) == 0)), (false), (x6_2), (wrap64 (x7_2 + 1)), (t123), (t124), (t125), (by first | rfl | (simp; done) | (simp [*]; done)), (by first | rfl | (simp; done) | (simp [*]; done)), (by first | rfl | (simp; done) | (simp [*]; done)), (by first | rfl | (simp; done) | (simp [*]; done)), H', ⟨by have := HJ1.out; have := HK2.out; have := HJ13.out; omega⟩, ⟨by (with_reducible repeat (first | refine blk_drewN ?_ _ | refine blk_drew ?_ | refine blk_alloc ?_ _)); exact BK120.out⟩, ⟨by repeat (first | (with_reducible first | exact HB.out | apply below_alloc | apply pw_below_drewN | apply below_drew1 | refine below_set ?_ GE120.out) | exact HB.out)⟩⟩
                        · rw [if_neg c18] at H
                          exact absurd H (by simp)
                      · rw [if_neg c17] at H
                        exact absurd H (by simp)
                    · replace c16 := Bool.eq_false_iff.mpr c16
                      subst c16
                      have H1 : (if (Int.tmod (rd l0 x7_2) 5) = 2 then (signalmanlaw15_OutagePlays.j3 kj13 l0 x4_2 x5_2 x6_2 x7_2 ((Int.tmod (rd l0 x7_2) 5) == 2) x121000_2 x121001_2 x121002_2) else (signalmanlaw15_OutagePlays.j3 kj13 l0 x4_2 x5_2 x6_2 x7_2 ((Int.tmod (rd l0 x7_2) 5) == 3) x121000_2 x121001_2 x121002_2)) = some r := by rw [if_neg (show ¬ (false = true) by decide)] at H; exact H
                      clear H
                      have H := H1
                      clear H1
                      have HC50 := Aside0.mk H
                      clear H
                      go_upto_if 57 with (fail)
                      go_cut [57] (fun v57 wc => ∃ (kq : Nat) (x57_49 : Bool), v57 = .bool x57_49 ∧ Aside0 (signalmanlaw15_OutagePlays.j3 kq l0 x4_2 x5_2 x6_2 x7_2 x57_49 x121000_2 x121001_2 x121002_2 = some r) ∧ Aside0 (kq ≤ kj13) ∧ Aside0 (wc.heap[gb120]? = some (.cells #[.bool x121000_2, .bool x121001_2, .bool x121002_2] 23 (0, 0))) ∧ Aside0 (Below w.heap.size w wc))
                      case first =>
                        have H := HC50.out
                        clear HC50
                        by_cases c51 : (Int.tmod (rd l0 x7_2) 5) = 2
                        · rw [if_pos c51] at H
                          have c51b0 : ((Int.tmod (rd l0 x7_2) 5) == 2) = true := beq_iff_eq.mpr c51
                          have c51b1 : ((Int.tmod (rd l0 x7_2) 5) != 2) = false := bne_eq_false_iff_eq.mpr c51
                          clear c51
                          (first | rw [c51b0] | (simp only [i64_w, i32_w]; rw [c51b0]) | skip)
                          have H' := Aside0.mk H
                          clear H
                          go_wp2
                          go_meet
                          case rel => exact ⟨_, (((Int.tmod (rd l0 x7_2) 5) == 2)), (by first | rfl | (simp; done) | (simp [*]; done)), H', ⟨by have := HJ1.out; have := HK2.out; have := HJ13.out; first | omega | exact Nat.le_refl _⟩, ⟨by (with_reducible repeat (first | refine blk_drewN ?_ _ | refine blk_drew ?_ | refine blk_alloc ?_ _)); exact BK120.out⟩, ⟨by repeat (first | (with_reducible first | exact HB.out | apply below_alloc | apply pw_below_drewN | apply below_drew1 | refine below_set ?_ GE120.out) | exact HB.out)⟩⟩
                        · rw [if_neg c51] at H
                          have c51b0 : ((Int.tmod (rd l0 x7_2) 5) == 2) = false := beq_eq_false_iff_ne.mpr c51
                          have c51b1 : ((Int.tmod (rd l0 x7_2) 5) != 2) = true := bne_iff_ne.mpr c51
                          (first | rw [c51b0] | (simp only [i64_w, i32_w]; rw [c51b0]) | skip)
                          have H' := Aside0.mk H
                          clear H
                          go_wp2
                          go_meet
                          case rel => exact ⟨_, (((Int.tmod (rd l0 x7_2) 5) == 3)), (by first | rfl | (simp; done) | (simp [*]; done)), H', ⟨by have := HJ1.out; have := HK2.out; have := HJ13.out; first | omega | exact Nat.le_refl _⟩, ⟨by (with_reducible repeat (first | refine blk_drewN ?_ _ | refine blk_drew ?_ | refine blk_alloc ?_ _)); exact BK120.out⟩, ⟨by repeat (first | (with_reducible first | exact HB.out | apply below_alloc | apply pw_below_drewN | apply below_drew1 | refine below_set ?_ GE120.out) | exact HB.out)⟩⟩
                      case rest =>
                        clear HC50
                        try clear c1
                        try clear p1
                        try clear q1
                        try clear hx1
                        try clear c2
                        try clear p2
                        try clear c3
                        try clear c4
                        try clear c5
                        try clear c6
                        try clear p6
                        try clear c7
                        try clear c9
                        try clear c10
                        try clear c12
                        try clear c12b0
                        try clear p12
                        try clear q12
                        try clear hx12
                        try clear c13
                        try clear c13b0
                        try clear c15
                        try clear c15b0
                        try clear c15b1
                        try clear c16
                        try clear c17
                        try clear c17b0
                        try clear c18
                        try clear c18b0
                        try clear c21
                        try clear c21b0
                        try clear c21b1
                        try clear c22
                        try clear c22b0
                        try clear c22b1
                        try clear c22b2
                        try clear c31
                        try clear c32
                        try clear c32b0
                        try clear c32b1
                        try clear c32b2
                        try clear c41
                        try clear c41b0
                        try clear c41b1
                        try clear c41b2
                        try clear c51
                        try clear c51b0
                        try clear c51b1
                        try clear hcz11_0
                        try clear hcz11_1
                        try clear hcz11_2
                        try clear hcz23_0
                        try clear hcz23_1
                        try clear hcz23_2
                        try clear hcz25_0
                        try clear hcz25_1
                        try clear hcz25_2
                        try clear hcz27_0
                        try clear hcz27_1
                        try clear hcz27_2
                        try clear hcz29_0
                        try clear hcz29_1
                        try clear hcz29_2
                        try clear hcz33_0
                        try clear hcz33_1
                        try clear hcz33_2
                        try clear hcz35_0
                        try clear hcz35_1
                        try clear hcz35_2
                        try clear hcz37_0
                        try clear hcz37_1
                        try clear hcz37_2
                        try clear hcz39_0
                        try clear hcz39_1
                        try clear hcz39_2
                        try clear hcz42_0
                        try clear hcz42_1
                        try clear hcz42_2
                        try clear hcz44_0
                        try clear hcz44_1
                        try clear hcz44_2
                        try clear hcz46_0
                        try clear hcz46_1
                        try clear hcz46_2
                        try clear hcz48_0
                        try clear hcz48_1
                        try clear hcz48_2
                        try clear hfz11_0
                        try clear hfz11_1
                        try clear hfz11_2
                        try clear hfz23_0
                        try clear hfz23_1
                        try clear hfz23_2
                        try clear hfz25_0
                        try clear hfz25_1
                        try clear hfz25_2
                        try clear hfz27_0
                        try clear hfz27_1
                        try clear hfz27_2
                        try clear hfz29_0
                        try clear hfz29_1
                        try clear hfz29_2
                        try clear hfz33_0
                        try clear hfz33_1
                        try clear hfz33_2
                        try clear hfz35_0
                        try clear hfz35_1
                        try clear hfz35_2
                        try clear hfz37_0
                        try clear hfz37_1
                        try clear hfz37_2
                        try clear hfz39_0
                        try clear hfz39_1
                        try clear hfz39_2
                        try clear hfz42_0
                        try clear hfz42_1
                        try clear hfz42_2
                        try clear hfz44_0
                        try clear hfz44_1
                        try clear hfz44_2
                        try clear hfz46_0
                        try clear hfz46_1
                        try clear hfz46_2
                        try clear hfz48_0
                        try clear hfz48_1
                        try clear hfz48_2
                        try clear hx121_0
                        try clear hx122_0
                        try clear p1
                        try clear p12
                        try clear p121
                        try clear p122
                        try clear p2
                        try clear q1
                        try clear q12
                        try clear q121
                        try clear q122
                        obtain ⟨kq, x57_49, rfl, HA, HJ49, BK120, HB⟩ := hcut
                        cases kq with
                        | zero => exact absurd HA.out (by simp [signalmanlaw15_OutagePlays.j3])
                        | succ kj49 =>
                          have H := HA.out
                          clear HA
                          simp only [signalmanlaw15_OutagePlays.j3] at H
                          by_cases c52 : x57_49 = true
                          · subst c52
                            have H1 : (if 0 ≤ x7_2 then (if x7_2 < (l0.length : Int) then (if x6_2 = true then (signalmanlaw15_OutagePlays.j4 kj49 l0 x4_2 ((Int.tmod (rd l0 x7_2) 5) == 2) true x7_2 x121000_2 x121001_2 x121002_2) else (signalmanlaw15_OutagePlays.j4 kj49 l0 x4_2 ((Int.tmod (rd l0 x7_2) 5) == 2) ((Int.tmod (rd l0 x7_2) 5) == 2) x7_2 x121000_2 x121001_2 x121002_2)) else (none)) else (none)) = some r := by rw [if_pos rfl] at H; exact H
                            clear H
                            have H := H1
                            clear H1
                            by_cases c53 : 0 ≤ x7_2
                            · rw [if_pos c53] at H
                              have c53b0 : decide (0 ≤ x7_2) = true := decide_eq_true c53
                              clear c53
                              by_cases c54 : x7_2 < (l0.length : Int)
                              · rw [if_pos c54] at H
                                have c54b0 : decide (x7_2 < (l0.length : Int)) = true := decide_eq_true c54
                                clear c54
                                have HC55 := Aside0.mk H
                                clear H
                                have p127 : 0 ≤ (x7_2 : Int) := of_decide_eq_true (by first | (with_reducible assumption) | assumption)
                                have q127 : x7_2 < (l0.length : Int) := of_decide_eq_true (by first | (with_reducible assumption) | assumption)
                                obtain ⟨ad127, e127, hx127_0⟩ := Kd.at_int HR0.out x7_2 p127 q127
                                obtain rfl : ad121 = ad127 := (by injection e127)
                                replace hx127_0 := (HB.out.cell (World.block_lt_of_cell? w _ hx127_0)).trans hx127_0
                                replace p127 := eq_true p127
                                replace q127 := eq_true q127
                                go_upto_region 24 with (fail)
                                go_cut [6] (fun v6 wc => ∃ (kq : Nat) (x6_54 : Bool), v6 = .bool x6_54 ∧ Aside0 (signalmanlaw15_OutagePlays.j4 kq l0 x4_2 ((Int.tmod (rd l0 x7_2) 5) == 2) x6_54 x7_2 x121000_2 x121001_2 x121002_2 = some r) ∧ Aside0 (kq ≤ kj49) ∧ Aside0 (wc.heap[gb120]? = some (.cells #[.bool x121000_2, .bool x121001_2, .bool x121002_2] 23 (0, 0))) ∧ Aside0 (Below w.heap.size w wc))
                                case first =>
                                  have H := HC55.out
                                  clear HC55
                                  by_cases c56 : x6_2 = true
                                  · subst c56
                                    have H1 : (signalmanlaw15_OutagePlays.j4 kj49 l0 x4_2 ((Int.tmod (rd l0 x7_2) 5) == 2) true x7_2 x121000_2 x121001_2 x121002_2) = some r := by rw [if_pos rfl] at H; exact H
                                    clear H
                                    have H := H1
                                    clear H1
                                    have H' := Aside0.mk H
                                    clear H
                                    go_wp2
                                    go_meet
                                    case rel => exact ⟨_, (true), (by first | rfl | (simp; done) | (simp [*]; done)), H', ⟨by have := HJ1.out; have := HK2.out; have := HJ13.out; have := HJ49.out; first | omega | exact Nat.le_refl _⟩, ⟨by (with_reducible repeat (first | refine blk_drewN ?_ _ | refine blk_drew ?_ | refine blk_alloc ?_ _)); exact BK120.out⟩, ⟨by repeat (first | (with_reducible first | exact HB.out | apply below_alloc | apply pw_below_drewN | apply below_drew1 | refine below_set ?_ GE120.out) | exact HB.out)⟩⟩
                                  · replace c56 := Bool.eq_false_iff.mpr c56
                                    subst c56
                                    have H1 : (signalmanlaw15_OutagePlays.j4 kj49 l0 x4_2 ((Int.tmod (rd l0 x7_2) 5) == 2) ((Int.tmod (rd l0 x7_2) 5) == 2) x7_2 x121000_2 x121001_2 x121002_2) = some r := by rw [if_neg (show ¬ (false = true) by decide)] at H; exact H
                                    clear H
                                    have H := H1
                                    clear H1
                                    have H' := Aside0.mk H
                                    clear H
                                    go_wp2
                                    go_meet
                                    case rel => exact ⟨_, (((Int.tmod (rd l0 x7_2) 5) == 2)), (by first | rfl | (simp; done) | (simp [*]; done)), H', ⟨by have := HJ1.out; have := HK2.out; have := HJ13.out; have := HJ49.out; first | omega | exact Nat.le_refl _⟩, ⟨by (with_reducible repeat (first | refine blk_drewN ?_ _ | refine blk_drew ?_ | refine blk_alloc ?_ _)); exact BK120.out⟩, ⟨by repeat (first | (with_reducible first | exact HB.out | apply below_alloc | apply pw_below_drewN | apply below_drew1 | refine below_set ?_ GE120.out) | exact HB.out)⟩⟩
                                case rest =>
                                  clear HC55
                                  try clear c1
                                  try clear p1
                                  try clear q1
                                  try clear hx1
                                  try clear c2
                                  try clear p2
                                  try clear c3
                                  try clear c4
                                  try clear c5
                                  try clear c6
                                  try clear p6
                                  try clear c7
                                  try clear c9
                                  try clear c10
                                  try clear c12
                                  try clear c12b0
                                  try clear p12
                                  try clear q12
                                  try clear hx12
                                  try clear c13
                                  try clear c13b0
                                  try clear c15
                                  try clear c15b0
                                  try clear c15b1
                                  try clear c16
                                  try clear c17
                                  try clear c17b0
                                  try clear c18
                                  try clear c18b0
                                  try clear c21
                                  try clear c21b0
                                  try clear c21b1
                                  try clear c22
                                  try clear c22b0
                                  try clear c22b1
                                  try clear c22b2
                                  try clear c31
                                  try clear c32
                                  try clear c32b0
                                  try clear c32b1
                                  try clear c32b2
                                  try clear c41
                                  try clear c41b0
                                  try clear c41b1
                                  try clear c41b2
                                  try clear c51
                                  try clear c51b0
                                  try clear c51b1
                                  try clear c52
                                  try clear c53
                                  try clear c53b0
                                  try clear c54
                                  try clear c54b0
                                  try clear c56
                                  try clear hcz11_0
                                  try clear hcz11_1
                                  try clear hcz11_2
                                  try clear hcz23_0
                                  try clear hcz23_1
                                  try clear hcz23_2
                                  try clear hcz25_0
                                  try clear hcz25_1
                                  try clear hcz25_2
                                  try clear hcz27_0
                                  try clear hcz27_1
                                  try clear hcz27_2
                                  try clear hcz29_0
                                  try clear hcz29_1
                                  try clear hcz29_2
                                  try clear hcz33_0
                                  try clear hcz33_1
                                  try clear hcz33_2
                                  try clear hcz35_0
                                  try clear hcz35_1
                                  try clear hcz35_2
                                  try clear hcz37_0
                                  try clear hcz37_1
                                  try clear hcz37_2
                                  try clear hcz39_0
                                  try clear hcz39_1
                                  try clear hcz39_2
                                  try clear hcz42_0
                                  try clear hcz42_1
                                  try clear hcz42_2
                                  try clear hcz44_0
                                  try clear hcz44_1
                                  try clear hcz44_2
                                  try clear hcz46_0
                                  try clear hcz46_1
                                  try clear hcz46_2
                                  try clear hcz48_0
                                  try clear hcz48_1
                                  try clear hcz48_2
                                  try clear hfz11_0
                                  try clear hfz11_1
                                  try clear hfz11_2
                                  try clear hfz23_0
                                  try clear hfz23_1
                                  try clear hfz23_2
                                  try clear hfz25_0
                                  try clear hfz25_1
                                  try clear hfz25_2
                                  try clear hfz27_0
                                  try clear hfz27_1
                                  try clear hfz27_2
                                  try clear hfz29_0
                                  try clear hfz29_1
                                  try clear hfz29_2
                                  try clear hfz33_0
                                  try clear hfz33_1
                                  try clear hfz33_2
                                  try clear hfz35_0
                                  try clear hfz35_1
                                  try clear hfz35_2
                                  try clear hfz37_0
                                  try clear hfz37_1
                                  try clear hfz37_2
                                  try clear hfz39_0
                                  try clear hfz39_1
                                  try clear hfz39_2
                                  try clear hfz42_0
                                  try clear hfz42_1
                                  try clear hfz42_2
                                  try clear hfz44_0
                                  try clear hfz44_1
                                  try clear hfz44_2
                                  try clear hfz46_0
                                  try clear hfz46_1
                                  try clear hfz46_2
                                  try clear hfz48_0
                                  try clear hfz48_1
                                  try clear hfz48_2
                                  try clear hx121_0
                                  try clear hx122_0
                                  try clear hx127_0
                                  try clear p1
                                  try clear p12
                                  try clear p121
                                  try clear p122
                                  try clear p127
                                  try clear p2
                                  try clear p6
                                  try clear q1
                                  try clear q12
                                  try clear q121
                                  try clear q122
                                  try clear q127
                                  obtain ⟨kq, x6_54, rfl, HA, HJ54, BK120, HB⟩ := hcut
                                  cases kq with
                                  | zero => exact absurd HA.out (by simp [signalmanlaw15_OutagePlays.j4])
                                  | succ kj54 =>
                                    have H := HA.out
                                    clear HA
                                    simp only [signalmanlaw15_OutagePlays.j4] at H
                                    replace H := Option.bind_eq_some_iff.mp H
                                    obtain ⟨⟨t128, t129, t130, t131⟩, A570, H⟩ := H
                                    replace H : ((outage_Outage_Is.f t128 t129 t130).bind fun t132 => (if x4_2 = true then (if (t132 != true) = true then (some false) else (signalmanlaw15_OutagePlays.l0 kj54 l0 x4_2 ((Int.tmod (rd l0 x7_2) 5) == 2) x6_54 (wrap64 (x7_2 + 1)) t128 t129 t130)) else (if ((Int.tmod (rd l0 x7_2) 5) == 2) = true then (if (t132 != true) = true then (some false) else (signalmanlaw15_OutagePlays.l0 kj54 l0 x4_2 ((Int.tmod (rd l0 x7_2) 5) == 2) x6_54 (wrap64 (x7_2 + 1)) t128 t129 t130)) else (if (t132 != x6_54) = true then (some false) else (signalmanlaw15_OutagePlays.l0 kj54 l0 x4_2 ((Int.tmod (rd l0 x7_2) 5) == 2) x6_54 (wrap64 (x7_2 + 1)) t128 t129 t130))))) = some r := H
                                    have A57 := Aside0.mk A570
                                    clear A570
                                    replace H := Option.bind_eq_some_iff.mp H
                                    obtain ⟨t132, A580, H⟩ := H
                                    replace H : (if x4_2 = true then (if (t132 != true) = true then (some false) else (signalmanlaw15_OutagePlays.l0 kj54 l0 x4_2 ((Int.tmod (rd l0 x7_2) 5) == 2) x6_54 (wrap64 (x7_2 + 1)) t128 t129 t130)) else (if ((Int.tmod (rd l0 x7_2) 5) == 2) = true then (if (t132 != true) = true then (some false) else (signalmanlaw15_OutagePlays.l0 kj54 l0 x4_2 ((Int.tmod (rd l0 x7_2) 5) == 2) x6_54 (wrap64 (x7_2 + 1)) t128 t129 t130)) else (if (t132 != x6_54) = true then (some false) else (signalmanlaw15_OutagePlays.l0 kj54 l0 x4_2 ((Int.tmod (rd l0 x7_2) 5) == 2) x6_54 (wrap64 (x7_2 + 1)) t128 t129 t130)))) = some r := H
                                    have A58 := Aside0.mk A580
                                    clear A580
                                    by_cases c59 : x4_2 = true
                                    · subst c59
                                      have H1 : (if (t132 != true) = true then (some false) else (signalmanlaw15_OutagePlays.l0 kj54 l0 true ((Int.tmod (rd l0 x7_2) 5) == 2) x6_54 (wrap64 (x7_2 + 1)) t128 t129 t130)) = some r := by rw [if_pos rfl] at H; exact H
                                      clear H
                                      have H := H1
                                      clear H1
                                      by_cases c60 : (t132 != true) = true
                                      · rw [if_pos c60] at H
                                        have c60b0 : (t132 != true) = true := c60
                                        (try (have c60b1 : decide (t132 = true) = false := by simpa using c60))
                                        (try (have c60b2 : (t132 == true) = false := by simpa using c60))
                                        (try (have c60b3 : ¬ (t132 = true) := by simpa using c60))
                                        clear c60
                                        obtain rfl := Option.some.inj H
                                        have hcz61_0 : wc.cell? ⟨gb120, 0, none⟩ = some (.bool x121000_2) := (blk_cell BK120.out 0).trans rfl
                                        have hcz61_1 : wc.cell? ⟨gb120, 1, none⟩ = some (.bool x121001_2) := (blk_cell BK120.out 1).trans rfl
                                        have hcz61_2 : wc.cell? ⟨gb120, 2, none⟩ = some (.bool x121002_2) := (blk_cell BK120.out 2).trans rfl
                                        have hfz61_0 := blk_frozen BK120.out 0
                                        have hfz61_1 := blk_frozen BK120.out 1
                                        have hfz61_2 := blk_frozen BK120.out 2
                                        go_wp2_with (first | ((with_reducible refine gate_callee (f := 7) rfl ?_); refine goesL_ (some 73) rfl rfl Try.func7 (by kernel_rfl) rfl #[.agg #[.bool x121000_2, .bool x121001_2, .bool x121002_2], .bool ((Int.tmod (rd l0 x7_2) 5) == 2)] rfl (by (try simp only [List.map_toArray, List.map_cons, List.map_nil]); first | done | rfl | (simp only [List.length_drop, List.length_take]; rfl) | (simp [Act.eval, *]; done)) ?_; (with_reducible refine (outage_Outage_Remote.calls x121000_2 x121001_2 x121002_2 ((Int.tmod (rd l0 x7_2) 5) == 2) t128 t129 t130 t131 _ A57.out).mono ?_); rintro e w62 ⟨rfl, hb⟩; refine ⟨_, rfl, ?_⟩; have n0_ := Aside0.mk (blk_below (g := gb120) (o := .cells #[.bool x121000_2, .bool x121001_2, .bool x121002_2] 23 (0, 0)) (by (with_reducible repeat (first | refine blk_drewN ?_ _ | refine blk_drew ?_ | refine blk_alloc ?_ _)); exact BK120.out) hb); have n1_ := Aside0.mk (below_step (by repeat (first | (with_reducible first | exact HB.out | apply below_alloc | apply pw_below_drewN | apply below_drew1 | refine below_set ?_ GE120.out) | exact HB.out)) hb); clear BK120; clear HB; have BK120 := n0_; have HB := n1_; clear n0_ n1_; (try clear hb); (try clear hb2); (try clear hk); (try clear hi); have hcz63_0 : w62.cell? ⟨gb120, 0, none⟩ = some (.bool x121000_2) := (blk_cell BK120.out 0).trans rfl; have hcz63_1 : w62.cell? ⟨gb120, 1, none⟩ = some (.bool x121001_2) := (blk_cell BK120.out 1).trans rfl; have hcz63_2 : w62.cell? ⟨gb120, 2, none⟩ = some (.bool x121002_2) := (blk_cell BK120.out 2).trans rfl; have hfz63_0 := blk_frozen BK120.out 0; have hfz63_1 := blk_frozen BK120.out 1; have hfz63_2 := blk_frozen BK120.out 2) | ((with_reducible refine gate_callee (f := 10) rfl ?_); refine goesL_ (some 77) rfl rfl Try.func10 (by kernel_rfl) rfl #[.agg #[.bool t128, .bool t129, .bool t130]] rfl (by (try simp only [List.map_toArray, List.map_cons, List.map_nil]); first | done | rfl | (simp only [List.length_drop, List.length_take]; rfl) | (simp [Act.eval, *]; done)) ?_; (with_reducible refine (outage_Outage_Is.calls t128 t129 t130 t132 _ A58.out).mono ?_); rintro e w64 ⟨rfl, hb⟩; refine ⟨_, rfl, ?_⟩; have n0_ := Aside0.mk (blk_below (g := gb120) (o := .cells #[.bool t128, .bool t129, .bool t130] 23 (0, 0)) (by (with_reducible repeat (first | refine blk_drewN ?_ _ | refine blk_drew ?_ | refine blk_alloc ?_ _)); refine blk_put (cs := #[.bool t128, .bool t129, .bool x121002_2]) ?_ 2 _ rfl; (with_reducible repeat (first | refine blk_drewN ?_ _ | refine blk_drew ?_ | refine blk_alloc ?_ _)); refine blk_put (cs := #[.bool t128, .bool x121001_2, .bool x121002_2]) ?_ 1 _ rfl; (with_reducible repeat (first | refine blk_drewN ?_ _ | refine blk_drew ?_ | refine blk_alloc ?_ _)); refine blk_put (cs := #[.bool x121000_2, .bool x121001_2, .bool x121002_2]) ?_ 0 _ rfl; (with_reducible repeat (first | refine blk_drewN ?_ _ | refine blk_drew ?_ | refine blk_alloc ?_ _)); exact BK120.out) hb); have n1_ := Aside0.mk (below_step (by repeat (first | (with_reducible first | exact HB.out | apply below_alloc | apply pw_below_drewN | apply below_drew1 | refine below_set ?_ GE120.out) | exact HB.out)) hb); clear BK120; clear HB; have BK120 := n0_; have HB := n1_; clear n0_ n1_; (try clear hb); (try clear hb2); (try clear hk); (try clear hi)))
                                        go_ret
                                        exact ⟨by first | rfl | (simp [errW_none, errW_some] <;> rfl) | (simp [*, errW_none, errW_some] <;> rfl), by repeat (first | (with_reducible first | exact HB.out | apply below_alloc | apply pw_below_drewN | apply below_drew1 | refine below_set ?_ GE120.out) | exact HB.out)⟩
                                      · rw [if_neg c60] at H
                                        have c60b0 : (t132 != true) = false := by simpa using c60
                                        (try (have c60b1 : decide (t132 = true) = true := by simpa using c60))
                                        (try (have c60b2 : (t132 == true) = true := by simpa using c60))
                                        clear c60
                                        have H' := Aside0.mk H
                                        clear H
                                        have hcz65_0 : wc.cell? ⟨gb120, 0, none⟩ = some (.bool x121000_2) := (blk_cell BK120.out 0).trans rfl
                                        have hcz65_1 : wc.cell? ⟨gb120, 1, none⟩ = some (.bool x121001_2) := (blk_cell BK120.out 1).trans rfl
                                        have hcz65_2 : wc.cell? ⟨gb120, 2, none⟩ = some (.bool x121002_2) := (blk_cell BK120.out 2).trans rfl
                                        have hfz65_0 := blk_frozen BK120.out 0
                                        have hfz65_1 := blk_frozen BK120.out 1
                                        have hfz65_2 := blk_frozen BK120.out 2
                                        go_wp2_with (first | ((with_reducible refine gate_callee (f := 7) rfl ?_); refine goesL_ (some 73) rfl rfl Try.func7 (by kernel_rfl) rfl #[.agg #[.bool x121000_2, .bool x121001_2, .bool x121002_2], .bool ((Int.tmod (rd l0 x7_2) 5) == 2)] rfl (by (try simp only [List.map_toArray, List.map_cons, List.map_nil]); first | done | rfl | (simp only [List.length_drop, List.length_take]; rfl) | (simp [Act.eval, *]; done)) ?_; (with_reducible refine (outage_Outage_Remote.calls x121000_2 x121001_2 x121002_2 ((Int.tmod (rd l0 x7_2) 5) == 2) t128 t129 t130 t131 _ A57.out).mono ?_); rintro e w66 ⟨rfl, hb⟩; refine ⟨_, rfl, ?_⟩; have n0_ := Aside0.mk (blk_below (g := gb120) (o := .cells #[.bool x121000_2, .bool x121001_2, .bool x121002_2] 23 (0, 0)) (by (with_reducible repeat (first | refine blk_drewN ?_ _ | refine blk_drew ?_ | refine blk_alloc ?_ _)); exact BK120.out) hb); have n1_ := Aside0.mk (below_step (by repeat (first | (with_reducible first | exact HB.out | apply below_alloc | apply pw_below_drewN | apply below_drew1 | refine below_set ?_ GE120.out) | exact HB.out)) hb); clear BK120; clear HB; have BK120 := n0_; have HB := n1_; clear n0_ n1_; (try clear hb); (try clear hb2); (try clear hk); (try clear hi); have hcz67_0 : w66.cell? ⟨gb120, 0, none⟩ = some (.bool x121000_2) := (blk_cell BK120.out 0).trans rfl; have hcz67_1 : w66.cell? ⟨gb120, 1, none⟩ = some (.bool x121001_2) := (blk_cell BK120.out 1).trans rfl; have hcz67_2 : w66.cell? ⟨gb120, 2, none⟩ = some (.bool x121002_2) := (blk_cell BK120.out 2).trans rfl; have hfz67_0 := blk_frozen BK120.out 0; have hfz67_1 := blk_frozen BK120.out 1; have hfz67_2 := blk_frozen BK120.out 2) | ((with_reducible refine gate_callee (f := 10) rfl ?_); refine goesL_ (some 77) rfl rfl Try.func10 (by kernel_rfl) rfl #[.agg #[.bool t128, .bool t129, .bool t130]] rfl (by (try simp only [List.map_toArray, List.map_cons, List.map_nil]); first | done | rfl | (simp only [List.length_drop, List.length_take]; rfl) | (simp [Act.eval, *]; done)) ?_; (with_reducible refine (outage_Outage_Is.calls t128 t129 t130 t132 _ A58.out).mono ?_); rintro e w68 ⟨rfl, hb⟩; refine ⟨_, rfl, ?_⟩; have n0_ := Aside0.mk (blk_below (g := gb120) (o := .cells #[.bool t128, .bool t129, .bool t130] 23 (0, 0)) (by (with_reducible repeat (first | refine blk_drewN ?_ _ | refine blk_drew ?_ | refine blk_alloc ?_ _)); refine blk_put (cs := #[.bool t128, .bool t129, .bool x121002_2]) ?_ 2 _ rfl; (with_reducible repeat (first | refine blk_drewN ?_ _ | refine blk_drew ?_ | refine blk_alloc ?_ _)); refine blk_put (cs := #[.bool t128, .bool x121001_2, .bool x121002_2]) ?_ 1 _ rfl; (with_reducible repeat (first | refine blk_drewN ?_ _ | refine blk_drew ?_ | refine blk_alloc ?_ _)); refine blk_put (cs := #[.bool x121000_2, .bool x121001_2, .bool x121002_2]) ?_ 0 _ rfl; (with_reducible repeat (first | refine blk_drewN ?_ _ | refine blk_drew ?_ | refine blk_alloc ?_ _)); exact BK120.out) hb); have n1_ := Aside0.mk (below_step (by repeat (first | (with_reducible first | exact HB.out | apply below_alloc | apply pw_below_drewN | apply below_drew1 | refine below_set ?_ GE120.out) | exact HB.out)) hb); clear BK120; clear HB; have BK120 := n0_; have HB := n1_; clear n0_ n1_; (try clear hb); (try clear hb2); (try clear hk); (try clear hi)))
                                        go_roundg kj54
                                        case measure => have := HJ1.out; have := HK2.out; have := HJ13.out; have := HJ49.out; have := HJ54.out; omega
                                        case rel => exact ⟨(true), (((Int.tmod (rd l0 x7_2) 5) == 2)), (x6_54), (wrap64 (x7_2 + 1)), (t128), (t129), (t130), (by first | rfl | (simp; done) | (simp [*]; done)), (by first | rfl | (simp; done) | (simp [*]; done)), (by first | rfl | (simp; done) | (simp [*]; done)), (by first | rfl | (simp; done) | (simp [*]; done)), H', ⟨by have := HJ1.out; have := HK2.out; have := HJ13.out; have := HJ49.out; have := HJ54.out; omega⟩, ⟨by (with_reducible repeat (first | refine blk_drewN ?_ _ | refine blk_drew ?_ | refine blk_alloc ?_ _)); exact BK120.out⟩, ⟨by repeat (first | (with_reducible first | exact HB.out | apply below_alloc | apply pw_below_drewN | apply below_drew1 | refine below_set ?_ GE120.out) | exact HB.out)⟩⟩
                                    · replace c59 := Bool.eq_false_iff.mpr c59
                                      subst c59
                                      have H1 : (if ((Int.tmod (rd l0 x7_2) 5) == 2) = true then (if (t132 != true) = true then (some false) else (signalmanlaw15_OutagePlays.l0 kj54 l0 false ((Int.tmod (rd l0 x7_2) 5) == 2) x6_54 (wrap64 (x7_2 + 1)) t128 t129 t130)) else (if (t132 != x6_54) = true then (some false) else (signalmanlaw15_OutagePlays.l0 kj54 l0 false ((Int.tmod (rd l0 x7_2) 5) == 2) x6_54 (wrap64 (x7_2 + 1)) t128 t129 t130))) = some r := by rw [if_neg (show ¬ (false = true) by decide)] at H; exact H
                                      clear H
                                      have H := H1
                                      clear H1
                                      by_cases c69 : ((Int.tmod (rd l0 x7_2) 5) == 2) = true
                                      · rw [if_pos c69] at H
                                        have c69b0 : ((Int.tmod (rd l0 x7_2) 5) == 2) = true := c69
                                        (try (have c69b1 : decide ((Int.tmod (rd l0 x7_2) 5) = 2) = true := by simpa using c69))
                                        (try (have c69b2 : ((Int.tmod (rd l0 x7_2) 5) == 2) = true := by simpa using c69))
                                        clear c69
                                        by_cases c70 : (t132 != true) = true
                                        · rw [if_pos c70] at H
                                          have c70b0 : (t132 != true) = true := c70
                                          (try (have c70b1 : decide (t132 = true) = false := by simpa using c70))
                                          (try (have c70b2 : (t132 == true) = false := by simpa using c70))
                                          (try (have c70b3 : ¬ (t132 = true) := by simpa using c70))
                                          clear c70
                                          obtain rfl := Option.some.inj H
                                          have hcz71_0 : wc.cell? ⟨gb120, 0, none⟩ = some (.bool x121000_2) := (blk_cell BK120.out 0).trans rfl
                                          have hcz71_1 : wc.cell? ⟨gb120, 1, none⟩ = some (.bool x121001_2) := (blk_cell BK120.out 1).trans rfl
                                          have hcz71_2 : wc.cell? ⟨gb120, 2, none⟩ = some (.bool x121002_2) := (blk_cell BK120.out 2).trans rfl
                                          have hfz71_0 := blk_frozen BK120.out 0
                                          have hfz71_1 := blk_frozen BK120.out 1
                                          have hfz71_2 := blk_frozen BK120.out 2
                                          go_wp2_with (first | ((with_reducible refine gate_callee (f := 7) rfl ?_); refine goesL_ (some 73) rfl rfl Try.func7 (by kernel_rfl) rfl #[.agg #[.bool x121000_2, .bool x121001_2, .bool x121002_2], .bool ((Int.tmod (rd l0 x7_2) 5) == 2)] rfl (by (try simp only [List.map_toArray, List.map_cons, List.map_nil]); first | done | rfl | (simp only [List.length_drop, List.length_take]; rfl) | (simp [Act.eval, *]; done)) ?_; (with_reducible refine (outage_Outage_Remote.calls x121000_2 x121001_2 x121002_2 ((Int.tmod (rd l0 x7_2) 5) == 2) t128 t129 t130 t131 _ A57.out).mono ?_); rintro e w72 ⟨rfl, hb⟩; refine ⟨_, rfl, ?_⟩; have n0_ := Aside0.mk (blk_below (g := gb120) (o := .cells #[.bool x121000_2, .bool x121001_2, .bool x121002_2] 23 (0, 0)) (by (with_reducible repeat (first | refine blk_drewN ?_ _ | refine blk_drew ?_ | refine blk_alloc ?_ _)); exact BK120.out) hb); have n1_ := Aside0.mk (below_step (by repeat (first | (with_reducible first | exact HB.out | apply below_alloc | apply pw_below_drewN | apply below_drew1 | refine below_set ?_ GE120.out) | exact HB.out)) hb); clear BK120; clear HB; have BK120 := n0_; have HB := n1_; clear n0_ n1_; (try clear hb); (try clear hb2); (try clear hk); (try clear hi); have hcz73_0 : w72.cell? ⟨gb120, 0, none⟩ = some (.bool x121000_2) := (blk_cell BK120.out 0).trans rfl; have hcz73_1 : w72.cell? ⟨gb120, 1, none⟩ = some (.bool x121001_2) := (blk_cell BK120.out 1).trans rfl; have hcz73_2 : w72.cell? ⟨gb120, 2, none⟩ = some (.bool x121002_2) := (blk_cell BK120.out 2).trans rfl; have hfz73_0 := blk_frozen BK120.out 0; have hfz73_1 := blk_frozen BK120.out 1; have hfz73_2 := blk_frozen BK120.out 2) | ((with_reducible refine gate_callee (f := 10) rfl ?_); refine goesL_ (some 77) rfl rfl Try.func10 (by kernel_rfl) rfl #[.agg #[.bool t128, .bool t129, .bool t130]] rfl (by (try simp only [List.map_toArray, List.map_cons, List.map_nil]); first | done | rfl | (simp only [List.length_drop, List.length_take]; rfl) | (simp [Act.eval, *]; done)) ?_; (with_reducible refine (outage_Outage_Is.calls t128 t129 t130 t132 _ A58.out).mono ?_); rintro e w74 ⟨rfl, hb⟩; refine ⟨_, rfl, ?_⟩; have n0_ := Aside0.mk (blk_below (g := gb120) (o := .cells #[.bool t128, .bool t129, .bool t130] 23 (0, 0)) (by (with_reducible repeat (first | refine blk_drewN ?_ _ | refine blk_drew ?_ | refine blk_alloc ?_ _)); refine blk_put (cs := #[.bool t128, .bool t129, .bool x121002_2]) ?_ 2 _ rfl; (with_reducible repeat (first | refine blk_drewN ?_ _ | refine blk_drew ?_ | refine blk_alloc ?_ _)); refine blk_put (cs := #[.bool t128, .bool x121001_2, .bool x121002_2]) ?_ 1 _ rfl; (with_reducible repeat (first | refine blk_drewN ?_ _ | refine blk_drew ?_ | refine blk_alloc ?_ _)); refine blk_put (cs := #[.bool x121000_2, .bool x121001_2, .bool x121002_2]) ?_ 0 _ rfl; (with_reducible repeat (first | refine blk_drewN ?_ _ | refine blk_drew ?_ | refine blk_alloc ?_ _)); exact BK120.out) hb); have n1_ := Aside0.mk (below_step (by repeat (first | (with_reducible first | exact HB.out | apply below_alloc | apply pw_below_drewN | apply below_drew1 | refine below_set ?_ GE120.out) | exact HB.out)) hb); clear BK120; clear HB; have BK120 := n0_; have HB := n1_; clear n0_ n1_; (try clear hb); (try clear hb2); (try clear hk); (try clear hi)))
                                          go_ret
                                          exact ⟨by first | rfl | (simp [errW_none, errW_some] <;> rfl) | (simp [*, errW_none, errW_some] <;> rfl), by repeat (first | (with_reducible first | exact HB.out | apply below_alloc | apply pw_below_drewN | apply below_drew1 | refine below_set ?_ GE120.out) | exact HB.out)⟩
                                        · rw [if_neg c70] at H
                                          have c70b0 : (t132 != true) = false := by simpa using c70
                                          (try (have c70b1 : decide (t132 = true) = true := by simpa using c70))
                                          (try (have c70b2 : (t132 == true) = true := by simpa using c70))
                                          clear c70
                                          have H' := Aside0.mk H
                                          clear H
                                          have hcz75_0 : wc.cell? ⟨gb120, 0, none⟩ = some (.bool x121000_2) := (blk_cell BK120.out 0).trans rfl
                                          have hcz75_1 : wc.cell? ⟨gb120, 1, none⟩ = some (.bool x121001_2) := (blk_cell BK120.out 1).trans rfl
                                          have hcz75_2 : wc.cell? ⟨gb120, 2, none⟩ = some (.bool x121002_2) := (blk_cell BK120.out 2).trans rfl
                                          have hfz75_0 := blk_frozen BK120.out 0
                                          have hfz75_1 := blk_frozen BK120.out 1
                                          have hfz75_2 := blk_frozen BK120.out 2
                                          go_wp2_with (first | ((with_reducible refine gate_callee (f := 7) rfl ?_); refine goesL_ (some 73) rfl rfl Try.func7 (by kernel_rfl) rfl #[.agg #[.bool x121000_2, .bool x121001_2, .bool x121002_2], .bool ((Int.tmod (rd l0 x7_2) 5) == 2)] rfl (by (try simp only [List.map_toArray, List.map_cons, List.map_nil]); first | done | rfl | (simp only [List.length_drop, List.length_take]; rfl) | (simp [Act.eval, *]; done)) ?_; (with_reducible refine (outage_Outage_Remote.calls x121000_2 x121001_2 x121002_2 ((Int.tmod (rd l0 x7_2) 5) == 2) t128 t129 t130 t131 _ A57.out).mono ?_); rintro e w76 ⟨rfl, hb⟩; refine ⟨_, rfl, ?_⟩; have n0_ := Aside0.mk (blk_below (g := gb120) (o := .cells #[.bool x121000_2, .bool x121001_2, .bool x121002_2] 23 (0, 0)) (by (with_reducible repeat (first | refine blk_drewN ?_ _ | refine blk_drew ?_ | refine blk_alloc ?_ _)); exact BK120.out) hb); have n1_ := Aside0.mk (below_step (by repeat (first | (with_reducible first | exact HB.out | apply below_alloc | apply pw_below_drewN | apply below_drew1 | refine below_set ?_ GE120.out) | exact HB.out)) hb); clear BK120; clear HB; have BK120 := n0_; have HB := n1_; clear n0_ n1_; (try clear hb); (try clear hb2); (try clear hk); (try clear hi); have hcz77_0 : w76.cell? ⟨gb120, 0, none⟩ = some (.bool x121000_2) := (blk_cell BK120.out 0).trans rfl; have hcz77_1 : w76.cell? ⟨gb120, 1, none⟩ = some (.bool x121001_2) := (blk_cell BK120.out 1).trans rfl; have hcz77_2 : w76.cell? ⟨gb120, 2, none⟩ = some (.bool x121002_2) := (blk_cell BK120.out 2).trans rfl; have hfz77_0 := blk_frozen BK120.out 0; have hfz77_1 := blk_frozen BK120.out 1; have hfz77_2 := blk_frozen BK120.out 2) | ((with_reducible refine gate_callee (f := 10) rfl ?_); refine goesL_ (some 77) rfl rfl Try.func10 (by kernel_rfl) rfl #[.agg #[.bool t128, .bool t129, .bool t130]] rfl (by (try simp only [List.map_toArray, List.map_cons, List.map_nil]); first | done | rfl | (simp only [List.length_drop, List.length_take]; rfl) | (simp [Act.eval, *]; done)) ?_; (with_reducible refine (outage_Outage_Is.calls t128 t129 t130 t132 _ A58.out).mono ?_); rintro e w78 ⟨rfl, hb⟩; refine ⟨_, rfl, ?_⟩; have n0_ := Aside0.mk (blk_below (g := gb120) (o := .cells #[.bool t128, .bool t129, .bool t130] 23 (0, 0)) (by (with_reducible repeat (first | refine blk_drewN ?_ _ | refine blk_drew ?_ | refine blk_alloc ?_ _)); refine blk_put (cs := #[.bool t128, .bool t129, .bool x121002_2]) ?_ 2 _ rfl; (with_reducible repeat (first | refine blk_drewN ?_ _ | refine blk_drew ?_ | refine blk_alloc ?_ _)); refine blk_put (cs := #[.bool t128, .bool x121001_2, .bool x121002_2]) ?_ 1 _ rfl; (with_reducible repeat (first | refine blk_drewN ?_ _ | refine blk_drew ?_ | refine blk_alloc ?_ _)); refine blk_put (cs := #[.bool x121000_2, .bool x121001_2, .bool x121002_2]) ?_ 0 _ rfl; (with_reducible repeat (first | refine blk_drewN ?_ _ | refine blk_drew ?_ | refine blk_alloc ?_ _)); exact BK120.out) hb); have n1_ := Aside0.mk (below_step (by repeat (first | (with_reducible first | exact HB.out | apply below_alloc | apply pw_below_drewN | apply below_drew1 | refine below_set ?_ GE120.out) | exact HB.out)) hb); clear BK120; clear HB; have BK120 := n0_; have HB := n1_; clear n0_ n1_; (try clear hb); (try clear hb2); (try clear hk); (try clear hi)))
                                          go_roundg kj54
                                          case measure => have := HJ1.out; have := HK2.out; have := HJ13.out; have := HJ49.out; have := HJ54.out; omega
                                          case rel => exact ⟨(false), (((Int.tmod (rd l0 x7_2) 5) == 2)), (x6_54), (wrap64 (x7_2 + 1)), (t128), (t129), (t130), (by first | rfl | (simp; done) | (simp [*]; done)), (by first | rfl | (simp; done) | (simp [*]; done)), (by first | rfl | (simp; done) | (simp [*]; done)), (by first | rfl | (simp; done) | (simp [*]; done)), H', ⟨by have := HJ1.out; have := HK2.out; have := HJ13.out; have := HJ49.out; have := HJ54.out; omega⟩, ⟨by (with_reducible repeat (first | refine blk_drewN ?_ _ | refine blk_drew ?_ | refine blk_alloc ?_ _)); exact BK120.out⟩, ⟨by repeat (first | (with_reducible first | exact HB.out | apply below_alloc | apply pw_below_drewN | apply below_drew1 | refine below_set ?_ GE120.out) | exact HB.out)⟩⟩
                                      · rw [if_neg c69] at H
                                        have c69b0 : ((Int.tmod (rd l0 x7_2) 5) == 2) = false := by simpa using c69
                                        (try (have c69b1 : decide ((Int.tmod (rd l0 x7_2) 5) = 2) = false := by simpa using c69))
                                        (try (have c69b2 : ((Int.tmod (rd l0 x7_2) 5) == 2) = false := by simpa using c69))
                                        (try (have c69b3 : ¬ ((Int.tmod (rd l0 x7_2) 5) = 2) := by simpa using c69))
                                        clear c69
                                        by_cases c79 : (t132 != x6_54) = true
                                        · rw [if_pos c79] at H
                                          have c79b0 : (t132 != x6_54) = true := c79
                                          (try (have c79b1 : decide (t132 = x6_54) = false := by simpa using c79))
                                          (try (have c79b2 : (t132 == x6_54) = false := by simpa using c79))
                                          (try (have c79b3 : ¬ (t132 = x6_54) := by simpa using c79))
                                          clear c79
                                          obtain rfl := Option.some.inj H
                                          have hcz80_0 : wc.cell? ⟨gb120, 0, none⟩ = some (.bool x121000_2) := (blk_cell BK120.out 0).trans rfl
                                          have hcz80_1 : wc.cell? ⟨gb120, 1, none⟩ = some (.bool x121001_2) := (blk_cell BK120.out 1).trans rfl
                                          have hcz80_2 : wc.cell? ⟨gb120, 2, none⟩ = some (.bool x121002_2) := (blk_cell BK120.out 2).trans rfl
                                          have hfz80_0 := blk_frozen BK120.out 0
                                          have hfz80_1 := blk_frozen BK120.out 1
                                          have hfz80_2 := blk_frozen BK120.out 2
                                          go_wp2_with (first | ((with_reducible refine gate_callee (f := 7) rfl ?_); refine goesL_ (some 73) rfl rfl Try.func7 (by kernel_rfl) rfl #[.agg #[.bool x121000_2, .bool x121001_2, .bool x121002_2], .bool ((Int.tmod (rd l0 x7_2) 5) == 2)] rfl (by (try simp only [List.map_toArray, List.map_cons, List.map_nil]); first | done | rfl | (simp only [List.length_drop, List.length_take]; rfl) | (simp [Act.eval, *]; done)) ?_; (with_reducible refine (outage_Outage_Remote.calls x121000_2 x121001_2 x121002_2 ((Int.tmod (rd l0 x7_2) 5) == 2) t128 t129 t130 t131 _ A57.out).mono ?_); rintro e w81 ⟨rfl, hb⟩; refine ⟨_, rfl, ?_⟩; have n0_ := Aside0.mk (blk_below (g := gb120) (o := .cells #[.bool x121000_2, .bool x121001_2, .bool x121002_2] 23 (0, 0)) (by (with_reducible repeat (first | refine blk_drewN ?_ _ | refine blk_drew ?_ | refine blk_alloc ?_ _)); exact BK120.out) hb); have n1_ := Aside0.mk (below_step (by repeat (first | (with_reducible first | exact HB.out | apply below_alloc | apply pw_below_drewN | apply below_drew1 | refine below_set ?_ GE120.out) | exact HB.out)) hb); clear BK120; clear HB; have BK120 := n0_; have HB := n1_; clear n0_ n1_; (try clear hb); (try clear hb2); (try clear hk); (try clear hi); have hcz82_0 : w81.cell? ⟨gb120, 0, none⟩ = some (.bool x121000_2) := (blk_cell BK120.out 0).trans rfl; have hcz82_1 : w81.cell? ⟨gb120, 1, none⟩ = some (.bool x121001_2) := (blk_cell BK120.out 1).trans rfl; have hcz82_2 : w81.cell? ⟨gb120, 2, none⟩ = some (.bool x121002_2) := (blk_cell BK120.out 2).trans rfl; have hfz82_0 := blk_frozen BK120.out 0; have hfz82_1 := blk_frozen BK120.out 1; have hfz82_2 := blk_frozen BK120.out 2) | ((with_reducible refine gate_callee (f := 10) rfl ?_); refine goesL_ (some 77) rfl rfl Try.func10 (by kernel_rfl) rfl #[.agg #[.bool t128, .bool t129, .bool t130]] rfl (by (try simp only [List.map_toArray, List.map_cons, List.map_nil]); first | done | rfl | (simp only [List.length_drop, List.length_take]; rfl) | (simp [Act.eval, *]; done)) ?_; (with_reducible refine (outage_Outage_Is.calls t128 t129 t130 t132 _ A58.out).mono ?_); rintro e w83 ⟨rfl, hb⟩; refine ⟨_, rfl, ?_⟩; have n0_ := Aside0.mk (blk_below (g := gb120) (o := .cells #[.bool t128, .bool t129, .bool t130] 23 (0, 0)) (by (with_reducible repeat (first | refine blk_drewN ?_ _ | refine blk_drew ?_ | refine blk_alloc ?_ _)); refine blk_put (cs := #[.bool t128, .bool t129, .bool x121002_2]) ?_ 2 _ rfl; (with_reducible repeat (first | refine blk_drewN ?_ _ | refine blk_drew ?_ | refine blk_alloc ?_ _)); refine blk_put (cs := #[.bool t128, .bool x121001_2, .bool x121002_2]) ?_ 1 _ rfl; (with_reducible repeat (first | refine blk_drewN ?_ _ | refine blk_drew ?_ | refine blk_alloc ?_ _)); refine blk_put (cs := #[.bool x121000_2, .bool x121001_2, .bool x121002_2]) ?_ 0 _ rfl; (with_reducible repeat (first | refine blk_drewN ?_ _ | refine blk_drew ?_ | refine blk_alloc ?_ _)); exact BK120.out) hb); have n1_ := Aside0.mk (below_step (by repeat (first | (with_reducible first | exact HB.out | apply below_alloc | apply pw_below_drewN | apply below_drew1 | refine below_set ?_ GE120.out) | exact HB.out)) hb); clear BK120; clear HB; have BK120 := n0_; have HB := n1_; clear n0_ n1_; (try clear hb); (try clear hb2); (try clear hk); (try clear hi)))
                                          go_ret
                                          exact ⟨by first | rfl | (simp [errW_none, errW_some] <;> rfl) | (simp [*, errW_none, errW_some] <;> rfl), by repeat (first | (with_reducible first | exact HB.out | apply below_alloc | apply pw_below_drewN | apply below_drew1 | refine below_set ?_ GE120.out) | exact HB.out)⟩
                                        · rw [if_neg c79] at H
                                          have c79b0 : (t132 != x6_54) = false := by simpa using c79
                                          (try (have c79b1 : decide (t132 = x6_54) = true := by simpa using c79))
                                          (try (have c79b2 : (t132 == x6_54) = true := by simpa using c79))
                                          clear c79
                                          have H' := Aside0.mk H
                                          clear H
                                          have hcz84_0 : wc.cell? ⟨gb120, 0, none⟩ = some (.bool x121000_2) := (blk_cell BK120.out 0).trans rfl
                                          have hcz84_1 : wc.cell? ⟨gb120, 1, none⟩ = some (.bool x121001_2) := (blk_cell BK120.out 1).trans rfl
                                          have hcz84_2 : wc.cell? ⟨gb120, 2, none⟩ = some (.bool x121002_2) := (blk_cell BK120.out 2).trans rfl
                                          have hfz84_0 := blk_frozen BK120.out 0
                                          have hfz84_1 := blk_frozen BK120.out 1
                                          have hfz84_2 := blk_frozen BK120.out 2
                                          go_wp2_with (first | ((with_reducible refine gate_callee (f := 7) rfl ?_); refine goesL_ (some 73) rfl rfl Try.func7 (by kernel_rfl) rfl #[.agg #[.bool x121000_2, .bool x121001_2, .bool x121002_2], .bool ((Int.tmod (rd l0 x7_2) 5) == 2)] rfl (by (try simp only [List.map_toArray, List.map_cons, List.map_nil]); first | done | rfl | (simp only [List.length_drop, List.length_take]; rfl) | (simp [Act.eval, *]; done)) ?_; (with_reducible refine (outage_Outage_Remote.calls x121000_2 x121001_2 x121002_2 ((Int.tmod (rd l0 x7_2) 5) == 2) t128 t129 t130 t131 _ A57.out).mono ?_); rintro e w85 ⟨rfl, hb⟩; refine ⟨_, rfl, ?_⟩; have n0_ := Aside0.mk (blk_below (g := gb120) (o := .cells #[.bool x121000_2, .bool x121001_2, .bool x121002_2] 23 (0, 0)) (by (with_reducible repeat (first | refine blk_drewN ?_ _ | refine blk_drew ?_ | refine blk_alloc ?_ _)); exact BK120.out) hb); have n1_ := Aside0.mk (below_step (by repeat (first | (with_reducible first | exact HB.out | apply below_alloc | apply pw_below_drewN | apply below_drew1 | refine below_set ?_ GE120.out) | exact HB.out)) hb); clear BK120; clear HB; have BK120 := n0_; have HB := n1_; clear n0_ n1_; (try clear hb); (try clear hb2); (try clear hk); (try clear hi); have hcz86_0 : w85.cell? ⟨gb120, 0, none⟩ = some (.bool x121000_2) := (blk_cell BK120.out 0).trans rfl; have hcz86_1 : w85.cell? ⟨gb120, 1, none⟩ = some (.bool x121001_2) := (blk_cell BK120.out 1).trans rfl; have hcz86_2 : w85.cell? ⟨gb120, 2, none⟩ = some (.bool x121002_2) := (blk_cell BK120.out 2).trans rfl; have hfz86_0 := blk_frozen BK120.out 0; have hfz86_1 := blk_frozen BK120.out 1; have hfz86_2 := blk_frozen BK120.out 2) | ((with_reducible refine gate_callee (f := 10) rfl ?_); refine goesL_ (some 77) rfl rfl Try.func10 (by kernel_rfl) rfl #[.agg #[.bool t128, .bool t129, .bool t130]] rfl (by (try simp only [List.map_toArray, List.map_cons, List.map_nil]); first | done | rfl | (simp only [List.length_drop, List.length_take]; rfl) | (simp [Act.eval, *]; done)) ?_; (with_reducible refine (outage_Outage_Is.calls t128 t129 t130 t132 _ A58.out).mono ?_); rintro e w87 ⟨rfl, hb⟩; refine ⟨_, rfl, ?_⟩; have n0_ := Aside0.mk (blk_below (g := gb120) (o := .cells #[.bool t128, .bool t129, .bool t130] 23 (0, 0)) (by (with_reducible repeat (first | refine blk_drewN ?_ _ | refine blk_drew ?_ | refine blk_alloc ?_ _)); refine blk_put (cs := #[.bool t128, .bool t129, .bool x121002_2]) ?_ 2 _ rfl; (with_reducible repeat (first | refine blk_drewN ?_ _ | refine blk_drew ?_ | refine blk_alloc ?_ _)); refine blk_put (cs := #[.bool t128, .bool x121001_2, .bool x121002_2]) ?_ 1 _ rfl; (with_reducible repeat (first | refine blk_drewN ?_ _ | refine blk_drew ?_ | refine blk_alloc ?_ _)); refine blk_put (cs := #[.bool x121000_2, .bool x121001_2, .bool x121002_2]) ?_ 0 _ rfl; (with_reducible repeat (first | refine blk_drewN ?_ _ | refine blk_drew ?_ | refine blk_alloc ?_ _)); exact BK120.out) hb); have n1_ := Aside0.mk (below_step (by repeat (first | (with_reducible first | exact HB.out | apply below_alloc | apply pw_below_drewN | apply below_drew1 | refine below_set ?_ GE120.out) | exact HB.out)) hb); clear BK120; clear HB; have BK120 := n0_; have HB := n1_; clear n0_ n1_; (try clear hb); (try clear hb2); (try clear hk); (try clear hi)))
                                          go_roundg kj54
                                          case measure => have := HJ1.out; have := HK2.out; have := HJ13.out; have := HJ49.out; have := HJ54.out; omega
                                          case rel => exact ⟨(false), (((Int.tmod (rd l0 x7_2) 5) == 2)), (x6_54), (wrap64 (x7_2 + 1)), (t128), (t129), (t130), (by first | rfl | (simp; done) | (simp [*]; done)), (by first | rfl | (simp; done) | (simp [*]; done)), (by first | rfl | (simp; done) | (simp [*]; done)), (by first | rfl | (simp; done) | (simp [*]; done)), H', ⟨by have := HJ1.out; have := HK2.out; have := HJ13.out; have := HJ49.out; have := HJ54.out; omega⟩, ⟨by (with_reducible repeat (first | refine blk_drewN ?_ _ | refine blk_drew ?_ | refine blk_alloc ?_ _)); exact BK120.out⟩, ⟨by repeat (first | (with_reducible first | exact HB.out | apply below_alloc | apply pw_below_drewN | apply below_drew1 | refine below_set ?_ GE120.out) | exact HB.out)⟩⟩
                              · rw [if_neg c54] at H
                                exact absurd H (by simp)
                            · rw [if_neg c53] at H
                              exact absurd H (by simp)
                          · replace c52 := Bool.eq_false_iff.mpr c52
                            subst c52
                            have H1 : ((outage_Outage_Continue.f x121000_2 x121001_2 x121002_2).bind fun bt133 => (if x4_2 = true then (signalmanlaw15_OutagePlays.j5 kj49 l0 x4_2 x5_2 x6_2 x7_2 bt133.2.2.2 (bt133.2.2.2 != false) bt133.1 bt133.2.1 bt133.2.2.1) else (signalmanlaw15_OutagePlays.j5 kj49 l0 x4_2 x5_2 x6_2 x7_2 bt133.2.2.2 (bt133.2.2.2 != (!x5_2)) bt133.1 bt133.2.1 bt133.2.2.1))) = some r := by rw [if_neg (show ¬ (false = true) by decide)] at H; exact H
                            clear H
                            have H := H1
                            clear H1
                            replace H := Option.bind_eq_some_iff.mp H
                            obtain ⟨⟨t133, t134, t135, t136⟩, A880, H⟩ := H
                            replace H : (if x4_2 = true then (signalmanlaw15_OutagePlays.j5 kj49 l0 x4_2 x5_2 x6_2 x7_2 t136 (t136 != false) t133 t134 t135) else (signalmanlaw15_OutagePlays.j5 kj49 l0 x4_2 x5_2 x6_2 x7_2 t136 (t136 != (!x5_2)) t133 t134 t135)) = some r := H
                            have A88 := Aside0.mk A880
                            clear A880
                            have HC89 := Aside0.mk H
                            clear H
                            have hcz90_0 : wc.cell? ⟨gb120, 0, none⟩ = some (.bool x121000_2) := (blk_cell BK120.out 0).trans rfl
                            have hcz90_1 : wc.cell? ⟨gb120, 1, none⟩ = some (.bool x121001_2) := (blk_cell BK120.out 1).trans rfl
                            have hcz90_2 : wc.cell? ⟨gb120, 2, none⟩ = some (.bool x121002_2) := (blk_cell BK120.out 2).trans rfl
                            have hfz90_0 := blk_frozen BK120.out 0
                            have hfz90_1 := blk_frozen BK120.out 1
                            have hfz90_2 := blk_frozen BK120.out 2
                            go_upto_region 12 with (first | ((with_reducible refine gate_callee (f := 8) rfl ?_); refine goesL_ (some 32) rfl rfl Try.func8 (by kernel_rfl) rfl #[.agg #[.bool x121000_2, .bool x121001_2, .bool x121002_2]] rfl (by (try simp only [List.map_toArray, List.map_cons, List.map_nil]); first | done | rfl | (simp only [List.length_drop, List.length_take]; rfl) | (simp [Act.eval, *]; done)) ?_; (with_reducible refine (outage_Outage_Continue.calls x121000_2 x121001_2 x121002_2 t133 t134 t135 t136 _ A88.out).mono ?_); rintro e w91 ⟨rfl, hb⟩; refine ⟨_, rfl, ?_⟩; have n0_ := Aside0.mk (blk_below (g := gb120) (o := .cells #[.bool x121000_2, .bool x121001_2, .bool x121002_2] 23 (0, 0)) (by (with_reducible repeat (first | refine blk_drewN ?_ _ | refine blk_drew ?_ | refine blk_alloc ?_ _)); exact BK120.out) hb); have n1_ := Aside0.mk (below_step (by repeat (first | (with_reducible first | exact HB.out | apply below_alloc | apply pw_below_drewN | apply below_drew1 | refine below_set ?_ GE120.out) | exact HB.out)) hb); clear BK120; clear HB; have BK120 := n0_; have HB := n1_; clear n0_ n1_; (try clear hb); (try clear hb2); (try clear hk); (try clear hi)) | ((with_reducible refine gate_dst (N := 8) rfl ?_); (try (refine gate_guard (by rfl) ?_; dsimp only)); refine box_event ?hg (N := 8) ?hd (cs := #[.bool false, .bool false, .bool false]) (t := 23) ?hr ?_; (case hd => rfl); (case hg => rfl); (case hr => first | (go_simp; done) | (go_simp; rfl)); intro gb137 hg w92 hbox hb; have n0_ := Aside0.mk (blk_below (g := gb120) (o := .cells #[.bool x121000_2, .bool x121001_2, .bool x121002_2] 23 (0, 0)) (by (with_reducible repeat (first | refine blk_drewN ?_ _ | refine blk_drew ?_ | refine blk_alloc ?_ _)); exact BK120.out) hb); have n1_ := Aside0.mk (below_step (by repeat (first | (with_reducible first | exact HB.out | apply below_alloc | apply pw_below_drewN | apply below_drew1 | refine below_set ?_ GE120.out) | exact HB.out)) hb); have n2_ := Aside0.mk (hbox); have n3_ := Aside0.mk ((by rw [hg]; exact (below_size (by repeat (first | (with_reducible first | exact HB.out | apply below_alloc | apply pw_below_drewN | apply below_drew1 | refine below_set ?_ GE120.out) | exact HB.out))) : w.heap.size ≤ gb137)); have n4_ := Aside0.mk ((by rw [hg]; exact (below_size (by repeat (first | (with_reducible first | exact HB.out | apply below_alloc | apply pw_below_drewN | apply below_drew1 | refine below_set ?_ GE120.out) | exact HB.out))) : w.heap.size ≤ gb137)); have n5_ := Aside0.mk ((by rw [hg]; exact Nat.ne_of_lt (blk_lt (g := gb120) (o := .cells #[.bool x121000_2, .bool x121001_2, .bool x121002_2] 23 (0, 0)) (by (with_reducible repeat (first | refine blk_drewN ?_ _ | refine blk_drew ?_ | refine blk_alloc ?_ _)); exact BK120.out)) : gb120 ≠ gb137)); have n6_ := Aside0.mk ((by rw [hg]; exact Nat.ne_of_gt (blk_lt (g := gb120) (o := .cells #[.bool x121000_2, .bool x121001_2, .bool x121002_2] 23 (0, 0)) (by (with_reducible repeat (first | refine blk_drewN ?_ _ | refine blk_drew ?_ | refine blk_alloc ?_ _)); exact BK120.out)) : gb137 ≠ gb120)); clear BK120; clear HB; have BK120 := n0_; have HB := n1_; have BK137 := n2_; have GW137 := n3_; have GE137 := n4_; have NB120_137 := n5_; have NB137_120 := n6_; clear n0_ n1_ n2_ n3_ n4_ n5_ n6_; clear hb hbox hg; have hnb93 := NB137_120.out; have hnc93 := NB120_137.out; have hcz94_0 : w92.cell? ⟨gb137, 0, none⟩ = some (.bool false) := (blk_cell BK137.out 0).trans rfl; have hcz94_1 : w92.cell? ⟨gb137, 1, none⟩ = some (.bool false) := (blk_cell BK137.out 1).trans rfl; have hcz94_2 : w92.cell? ⟨gb137, 2, none⟩ = some (.bool false) := (blk_cell BK137.out 2).trans rfl; have hfz94_0 := blk_frozen BK137.out 0; have hfz94_1 := blk_frozen BK137.out 1; have hfz94_2 := blk_frozen BK137.out 2))
                            (try simp only [Act.put, List.setIfInBounds_toArray, List.set_cons_zero, List.set_cons_succ])
                            go_cut [42] (fun v42 wc => ∃ (kq : Nat) (x42_88 : Bool), v42 = .bool x42_88 ∧ Aside0 (signalmanlaw15_OutagePlays.j5 kq l0 x4_2 x5_2 x6_2 x7_2 t136 x42_88 t133 t134 t135 = some r) ∧ Aside0 (kq ≤ kj49) ∧ Aside0 (wc.heap[gb120]? = some (.cells #[.bool x121000_2, .bool x121001_2, .bool x121002_2] 23 (0, 0))) ∧ Aside0 (wc.heap[gb137]? = some (.cells #[.bool t133, .bool t134, .bool t135] 23 (0, 0))) ∧ Aside0 (Below w.heap.size w wc))
                            case first =>
                              have H := HC89.out
                              clear HC89
                              by_cases c95 : x4_2 = true
                              · subst c95
                                have H1 : (signalmanlaw15_OutagePlays.j5 kj49 l0 true x5_2 x6_2 x7_2 t136 (t136 != false) t133 t134 t135) = some r := by rw [if_pos rfl] at H; exact H
                                clear H
                                have H := H1
                                clear H1
                                have H' := Aside0.mk H
                                clear H
                                go_wp2
                                go_meet
                                case rel => exact ⟨_, ((t136 != false)), (by first | rfl | (simp; done) | (simp [*]; done)), H', ⟨by have := HJ1.out; have := HK2.out; have := HJ13.out; have := HJ49.out; first | omega | exact Nat.le_refl _⟩, ⟨by (with_reducible repeat (first | refine blk_drewN ?_ _ | refine blk_drew ?_ | refine blk_alloc ?_ _)); refine blk_far ?_ NB120_137.out _; (with_reducible repeat (first | refine blk_drewN ?_ _ | refine blk_drew ?_ | refine blk_alloc ?_ _)); refine blk_far ?_ NB120_137.out _; (with_reducible repeat (first | refine blk_drewN ?_ _ | refine blk_drew ?_ | refine blk_alloc ?_ _)); refine blk_far ?_ NB120_137.out _; (with_reducible repeat (first | refine blk_drewN ?_ _ | refine blk_drew ?_ | refine blk_alloc ?_ _)); exact BK120.out⟩, ⟨by (with_reducible repeat (first | refine blk_drewN ?_ _ | refine blk_drew ?_ | refine blk_alloc ?_ _)); refine blk_put (cs := #[.bool t133, .bool t134, .bool false]) ?_ 2 _ rfl; (with_reducible repeat (first | refine blk_drewN ?_ _ | refine blk_drew ?_ | refine blk_alloc ?_ _)); refine blk_put (cs := #[.bool t133, .bool false, .bool false]) ?_ 1 _ rfl; (with_reducible repeat (first | refine blk_drewN ?_ _ | refine blk_drew ?_ | refine blk_alloc ?_ _)); refine blk_put (cs := #[.bool false, .bool false, .bool false]) ?_ 0 _ rfl; (with_reducible repeat (first | refine blk_drewN ?_ _ | refine blk_drew ?_ | refine blk_alloc ?_ _)); exact BK137.out⟩, ⟨by repeat (first | (with_reducible first | exact HB.out | apply below_alloc | apply pw_below_drewN | apply below_drew1 | refine below_set ?_ GE120.out | refine below_set ?_ GE137.out) | exact HB.out)⟩⟩
                              · replace c95 := Bool.eq_false_iff.mpr c95
                                subst c95
                                have H1 : (signalmanlaw15_OutagePlays.j5 kj49 l0 false x5_2 x6_2 x7_2 t136 (t136 != (!x5_2)) t133 t134 t135) = some r := by rw [if_neg (show ¬ (false = true) by decide)] at H; exact H
                                clear H
                                have H := H1
                                clear H1
                                have H' := Aside0.mk H
                                clear H
                                go_wp2
                                go_meet
                                case rel => exact ⟨_, ((t136 != (!x5_2))), (by first | rfl | (simp; done) | (simp [*]; done)), H', ⟨by have := HJ1.out; have := HK2.out; have := HJ13.out; have := HJ49.out; first | omega | exact Nat.le_refl _⟩, ⟨by (with_reducible repeat (first | refine blk_drewN ?_ _ | refine blk_drew ?_ | refine blk_alloc ?_ _)); refine blk_far ?_ NB120_137.out _; (with_reducible repeat (first | refine blk_drewN ?_ _ | refine blk_drew ?_ | refine blk_alloc ?_ _)); refine blk_far ?_ NB120_137.out _; (with_reducible repeat (first | refine blk_drewN ?_ _ | refine blk_drew ?_ | refine blk_alloc ?_ _)); refine blk_far ?_ NB120_137.out _; (with_reducible repeat (first | refine blk_drewN ?_ _ | refine blk_drew ?_ | refine blk_alloc ?_ _)); exact BK120.out⟩, ⟨by (with_reducible repeat (first | refine blk_drewN ?_ _ | refine blk_drew ?_ | refine blk_alloc ?_ _)); refine blk_put (cs := #[.bool t133, .bool t134, .bool false]) ?_ 2 _ rfl; (with_reducible repeat (first | refine blk_drewN ?_ _ | refine blk_drew ?_ | refine blk_alloc ?_ _)); refine blk_put (cs := #[.bool t133, .bool false, .bool false]) ?_ 1 _ rfl; (with_reducible repeat (first | refine blk_drewN ?_ _ | refine blk_drew ?_ | refine blk_alloc ?_ _)); refine blk_put (cs := #[.bool false, .bool false, .bool false]) ?_ 0 _ rfl; (with_reducible repeat (first | refine blk_drewN ?_ _ | refine blk_drew ?_ | refine blk_alloc ?_ _)); exact BK137.out⟩, ⟨by repeat (first | (with_reducible first | exact HB.out | apply below_alloc | apply pw_below_drewN | apply below_drew1 | refine below_set ?_ GE120.out | refine below_set ?_ GE137.out) | exact HB.out)⟩⟩
                            case rest =>
                              clear HC89
                              try clear c1
                              try clear p1
                              try clear q1
                              try clear hx1
                              try clear c2
                              try clear p2
                              try clear c3
                              try clear c4
                              try clear c5
                              try clear c6
                              try clear p6
                              try clear c7
                              try clear c8
                              try clear c9
                              try clear c10
                              try clear c12
                              try clear c12b0
                              try clear p12
                              try clear q12
                              try clear hx12
                              try clear c13
                              try clear c13b0
                              try clear c15
                              try clear c15b0
                              try clear c15b1
                              try clear c16
                              try clear c17
                              try clear c17b0
                              try clear c18
                              try clear c18b0
                              try clear c21
                              try clear c21b0
                              try clear c21b1
                              try clear c22
                              try clear c22b0
                              try clear c22b1
                              try clear c22b2
                              try clear c31
                              try clear c32
                              try clear c32b0
                              try clear c32b1
                              try clear c32b2
                              try clear c41
                              try clear c41b0
                              try clear c41b1
                              try clear c41b2
                              try clear c51
                              try clear c51b0
                              try clear c51b1
                              try clear c52
                              try clear c53
                              try clear c53b0
                              try clear c54
                              try clear c54b0
                              try clear c56
                              try clear c59
                              try clear c60
                              try clear c60b0
                              try clear c60b1
                              try clear c60b2
                              try clear p64
                              try clear c69
                              try clear c69b0
                              try clear c69b1
                              try clear c69b2
                              try clear c70
                              try clear c70b0
                              try clear c70b1
                              try clear c70b2
                              try clear c79
                              try clear c79b0
                              try clear c79b1
                              try clear c79b2
                              try clear c93
                              try clear c95
                              try clear hcz11_0
                              try clear hcz11_1
                              try clear hcz11_2
                              try clear hcz23_0
                              try clear hcz23_1
                              try clear hcz23_2
                              try clear hcz25_0
                              try clear hcz25_1
                              try clear hcz25_2
                              try clear hcz27_0
                              try clear hcz27_1
                              try clear hcz27_2
                              try clear hcz29_0
                              try clear hcz29_1
                              try clear hcz29_2
                              try clear hcz33_0
                              try clear hcz33_1
                              try clear hcz33_2
                              try clear hcz35_0
                              try clear hcz35_1
                              try clear hcz35_2
                              try clear hcz37_0
                              try clear hcz37_1
                              try clear hcz37_2
                              try clear hcz39_0
                              try clear hcz39_1
                              try clear hcz39_2
                              try clear hcz42_0
                              try clear hcz42_1
                              try clear hcz42_2
                              try clear hcz44_0
                              try clear hcz44_1
                              try clear hcz44_2
                              try clear hcz46_0
                              try clear hcz46_1
                              try clear hcz46_2
                              try clear hcz48_0
                              try clear hcz48_1
                              try clear hcz48_2
                              try clear hcz61_0
                              try clear hcz61_1
                              try clear hcz61_2
                              try clear hcz63_0
                              try clear hcz63_1
                              try clear hcz63_2
                              try clear hcz65_0
                              try clear hcz65_1
                              try clear hcz65_2
                              try clear hcz67_0
                              try clear hcz67_1
                              try clear hcz67_2
                              try clear hcz71_0
                              try clear hcz71_1
                              try clear hcz71_2
                              try clear hcz73_0
                              try clear hcz73_1
                              try clear hcz73_2
                              try clear hcz75_0
                              try clear hcz75_1
                              try clear hcz75_2
                              try clear hcz77_0
                              try clear hcz77_1
                              try clear hcz77_2
                              try clear hcz80_0
                              try clear hcz80_1
                              try clear hcz80_2
                              try clear hcz82_0
                              try clear hcz82_1
                              try clear hcz82_2
                              try clear hcz84_0
                              try clear hcz84_1
                              try clear hcz84_2
                              try clear hcz86_0
                              try clear hcz86_1
                              try clear hcz86_2
                              try clear hcz90_0
                              try clear hcz90_1
                              try clear hcz90_2
                              try clear hcz94_0
                              try clear hcz94_1
                              try clear hcz94_2
                              try clear hfz11_0
                              try clear hfz11_1
                              try clear hfz11_2
                              try clear hfz23_0
                              try clear hfz23_1
                              try clear hfz23_2
                              try clear hfz25_0
                              try clear hfz25_1
                              try clear hfz25_2
                              try clear hfz27_0
                              try clear hfz27_1
                              try clear hfz27_2
                              try clear hfz29_0
                              try clear hfz29_1
                              try clear hfz29_2
                              try clear hfz33_0
                              try clear hfz33_1
                              try clear hfz33_2
                              try clear hfz35_0
                              try clear hfz35_1
                              try clear hfz35_2
                              try clear hfz37_0
                              try clear hfz37_1
                              try clear hfz37_2
                              try clear hfz39_0
                              try clear hfz39_1
                              try clear hfz39_2
                              try clear hfz42_0
                              try clear hfz42_1
                              try clear hfz42_2
                              try clear hfz44_0
                              try clear hfz44_1
                              try clear hfz44_2
                              try clear hfz46_0
                              try clear hfz46_1
                              try clear hfz46_2
                              try clear hfz48_0
                              try clear hfz48_1
                              try clear hfz48_2
                              try clear hfz61_0
                              try clear hfz61_1
                              try clear hfz61_2
                              try clear hfz63_0
                              try clear hfz63_1
                              try clear hfz63_2
                              try clear hfz65_0
                              try clear hfz65_1
                              try clear hfz65_2
                              try clear hfz67_0
                              try clear hfz67_1
                              try clear hfz67_2
                              try clear hfz71_0
                              try clear hfz71_1
                              try clear hfz71_2
                              try clear hfz73_0
                              try clear hfz73_1
                              try clear hfz73_2
                              try clear hfz75_0
                              try clear hfz75_1
                              try clear hfz75_2
                              try clear hfz77_0
                              try clear hfz77_1
                              try clear hfz77_2
                              try clear hfz80_0
                              try clear hfz80_1
                              try clear hfz80_2
                              try clear hfz82_0
                              try clear hfz82_1
                              try clear hfz82_2
                              try clear hfz84_0
                              try clear hfz84_1
                              try clear hfz84_2
                              try clear hfz86_0
                              try clear hfz86_1
                              try clear hfz86_2
                              try clear hfz90_0
                              try clear hfz90_1
                              try clear hfz90_2
                              try clear hfz94_0
                              try clear hfz94_1
                              try clear hfz94_2
                              try clear hx121_0
                              try clear hx122_0
                              try clear hx127_0
                              try clear p1
                              try clear p12
                              try clear p121
                              try clear p122
                              try clear p127
                              try clear p2
                              try clear p6
                              try clear q1
                              try clear q12
                              try clear q121
                              try clear q122
                              try clear q127
                              obtain ⟨kq, x42_88, rfl, HA, HJ88, BK120, BK137, HB⟩ := hcut
                              cases kq with
                              | zero => exact absurd HA.out (by simp [signalmanlaw15_OutagePlays.j5])
                              | succ kj88 =>
                                have H := HA.out
                                clear HA
                                simp only [signalmanlaw15_OutagePlays.j5] at H
                                by_cases c96 : x42_88 = true
                                · subst c96
                                  have H1 : (some false) = some r := by rw [if_pos rfl] at H; exact H
                                  clear H
                                  have H := H1
                                  clear H1
                                  obtain rfl := Option.some.inj H
                                  go_wp2
                                  go_ret
                                  exact ⟨by first | rfl | (simp [errW_none, errW_some] <;> rfl) | (simp [*, errW_none, errW_some] <;> rfl), by repeat (first | (with_reducible first | exact HB.out | apply below_alloc | apply pw_below_drewN | apply below_drew1 | refine below_set ?_ GE120.out | refine below_set ?_ GE137.out) | exact HB.out)⟩
                                · replace c96 := Bool.eq_false_iff.mpr c96
                                  subst c96
                                  have H1 : (if t136 = true then ((outage_Outage_Is.f t133 t134 t135).bind fun t138 => (if x4_2 = true then (if (t138 != true) = true then (some false) else (signalmanlaw15_OutagePlays.l0 kj88 l0 x4_2 x5_2 false (wrap64 (x7_2 + 1)) t133 t134 t135)) else (if x5_2 = true then (if (t138 != true) = true then (some false) else (signalmanlaw15_OutagePlays.l0 kj88 l0 x4_2 x5_2 false (wrap64 (x7_2 + 1)) t133 t134 t135)) else (if (t138 != false) = true then (some false) else (signalmanlaw15_OutagePlays.l0 kj88 l0 x4_2 x5_2 false (wrap64 (x7_2 + 1)) t133 t134 t135))))) else ((outage_Outage_Is.f t133 t134 t135).bind fun t139 => (if x4_2 = true then (if (t139 != true) = true then (some false) else (signalmanlaw15_OutagePlays.l0 kj88 l0 x4_2 x5_2 x6_2 (wrap64 (x7_2 + 1)) t133 t134 t135)) else (if x5_2 = true then (if (t139 != true) = true then (some false) else (signalmanlaw15_OutagePlays.l0 kj88 l0 x4_2 x5_2 x6_2 (wrap64 (x7_2 + 1)) t133 t134 t135)) else (if (t139 != x6_2) = true then (some false) else (signalmanlaw15_OutagePlays.l0 kj88 l0 x4_2 x5_2 x6_2 (wrap64 (x7_2 + 1)) t133 t134 t135)))))) = some r := by rw [if_neg (show ¬ (false = true) by decide)] at H; exact H
                                  clear H
                                  have H := H1
                                  clear H1
                                  by_cases c97 : t136 = true
                                  · subst c97
                                    have H1 : ((outage_Outage_Is.f t133 t134 t135).bind fun t138 => (if x4_2 = true then (if (t138 != true) = true then (some false) else (signalmanlaw15_OutagePlays.l0 kj88 l0 x4_2 x5_2 false (wrap64 (x7_2 + 1)) t133 t134 t135)) else (if x5_2 = true then (if (t138 != true) = true then (some false) else (signalmanlaw15_OutagePlays.l0 kj88 l0 x4_2 x5_2 false (wrap64 (x7_2 + 1)) t133 t134 t135)) else (if (t138 != false) = true then (some false) else (signalmanlaw15_OutagePlays.l0 kj88 l0 x4_2 x5_2 false (wrap64 (x7_2 + 1)) t133 t134 t135))))) = some r := by rw [if_pos rfl] at H; exact H
                                    clear H
                                    have H := H1
                                    clear H1
                                    replace H := Option.bind_eq_some_iff.mp H
                                    obtain ⟨t138, A980, H⟩ := H
                                    replace H : (if x4_2 = true then (if (t138 != true) = true then (some false) else (signalmanlaw15_OutagePlays.l0 kj88 l0 x4_2 x5_2 false (wrap64 (x7_2 + 1)) t133 t134 t135)) else (if x5_2 = true then (if (t138 != true) = true then (some false) else (signalmanlaw15_OutagePlays.l0 kj88 l0 x4_2 x5_2 false (wrap64 (x7_2 + 1)) t133 t134 t135)) else (if (t138 != false) = true then (some false) else (signalmanlaw15_OutagePlays.l0 kj88 l0 x4_2 x5_2 false (wrap64 (x7_2 + 1)) t133 t134 t135)))) = some r := H
                                    have A98 := Aside0.mk A980
                                    clear A980
                                    by_cases c99 : x4_2 = true
                                    · subst c99
                                      have H1 : (if (t138 != true) = true then (some false) else (signalmanlaw15_OutagePlays.l0 kj88 l0 true x5_2 false (wrap64 (x7_2 + 1)) t133 t134 t135)) = some r := by rw [if_pos rfl] at H; exact H
                                      clear H
                                      have H := H1
                                      clear H1
                                      by_cases c100 : (t138 != true) = true
                                      · rw [if_pos c100] at H
                                        have c100b0 : (t138 != true) = true := c100
                                        (try (have c100b1 : decide (t138 = true) = false := by simpa using c100))
                                        (try (have c100b2 : (t138 == true) = false := by simpa using c100))
                                        (try (have c100b3 : ¬ (t138 = true) := by simpa using c100))
                                        clear c100
                                        obtain rfl := Option.some.inj H
                                        have hnb101 := NB137_120.out
                                        have hnc101 := NB120_137.out
                                        have hcz102_0 : wc.cell? ⟨gb137, 0, none⟩ = some (.bool t133) := (blk_cell BK137.out 0).trans rfl
                                        have hcz102_1 : wc.cell? ⟨gb137, 1, none⟩ = some (.bool t134) := (blk_cell BK137.out 1).trans rfl
                                        have hcz102_2 : wc.cell? ⟨gb137, 2, none⟩ = some (.bool t135) := (blk_cell BK137.out 2).trans rfl
                                        have hfz102_0 := blk_frozen BK137.out 0
                                        have hfz102_1 := blk_frozen BK137.out 1
                                        have hfz102_2 := blk_frozen BK137.out 2
                                        have hcz103_0 : wc.cell? ⟨gb120, 0, none⟩ = some (.bool x121000_2) := (blk_cell BK120.out 0).trans rfl
                                        have hcz103_1 : wc.cell? ⟨gb120, 1, none⟩ = some (.bool x121001_2) := (blk_cell BK120.out 1).trans rfl
                                        have hcz103_2 : wc.cell? ⟨gb120, 2, none⟩ = some (.bool x121002_2) := (blk_cell BK120.out 2).trans rfl
                                        have hfz103_0 := blk_frozen BK120.out 0
                                        have hfz103_1 := blk_frozen BK120.out 1
                                        have hfz103_2 := blk_frozen BK120.out 2
                                        go_wp2_with (first | ((with_reducible refine gate_callee (f := 10) rfl ?_); refine goesL_ (some 77) rfl rfl Try.func10 (by kernel_rfl) rfl #[.agg #[.bool t133, .bool t134, .bool t135]] rfl (by (try simp only [List.map_toArray, List.map_cons, List.map_nil]); first | done | rfl | (simp only [List.length_drop, List.length_take]; rfl) | (simp [Act.eval, *]; done)) ?_; (with_reducible refine (outage_Outage_Is.calls t133 t134 t135 t138 _ A98.out).mono ?_); rintro e w104 ⟨rfl, hb⟩; refine ⟨_, rfl, ?_⟩; have n0_ := Aside0.mk (blk_below (g := gb120) (o := .cells #[.bool t133, .bool t134, .bool t135] 23 (0, 0)) (by (with_reducible repeat (first | refine blk_drewN ?_ _ | refine blk_drew ?_ | refine blk_alloc ?_ _)); refine blk_put (cs := #[.bool t133, .bool t134, .bool x121002_2]) ?_ 2 _ rfl; (with_reducible repeat (first | refine blk_drewN ?_ _ | refine blk_drew ?_ | refine blk_alloc ?_ _)); refine blk_put (cs := #[.bool t133, .bool x121001_2, .bool x121002_2]) ?_ 1 _ rfl; (with_reducible repeat (first | refine blk_drewN ?_ _ | refine blk_drew ?_ | refine blk_alloc ?_ _)); refine blk_put (cs := #[.bool x121000_2, .bool x121001_2, .bool x121002_2]) ?_ 0 _ rfl; (with_reducible repeat (first | refine blk_drewN ?_ _ | refine blk_drew ?_ | refine blk_alloc ?_ _)); exact BK120.out) hb); have n1_ := Aside0.mk (blk_below (g := gb137) (o := .cells #[.bool t133, .bool t134, .bool t135] 23 (0, 0)) (by (with_reducible repeat (first | refine blk_drewN ?_ _ | refine blk_drew ?_ | refine blk_alloc ?_ _)); refine blk_far ?_ NB137_120.out _; (with_reducible repeat (first | refine blk_drewN ?_ _ | refine blk_drew ?_ | refine blk_alloc ?_ _)); refine blk_far ?_ NB137_120.out _; (with_reducible repeat (first | refine blk_drewN ?_ _ | refine blk_drew ?_ | refine blk_alloc ?_ _)); refine blk_far ?_ NB137_120.out _; (with_reducible repeat (first | refine blk_drewN ?_ _ | refine blk_drew ?_ | refine blk_alloc ?_ _)); exact BK137.out) hb); have n2_ := Aside0.mk (below_step (by repeat (first | (with_reducible first | exact HB.out | apply below_alloc | apply pw_below_drewN | apply below_drew1 | refine below_set ?_ GE120.out | refine below_set ?_ GE137.out) | exact HB.out)) hb); clear BK120; clear BK137; clear HB; have BK120 := n0_; have BK137 := n1_; have HB := n2_; clear n0_ n1_ n2_; (try clear hb); (try clear hb2); (try clear hk); (try clear hi)))
                                        go_ret
                                        exact ⟨by first | rfl | (simp [errW_none, errW_some] <;> rfl) | (simp [*, errW_none, errW_some] <;> rfl), by repeat (first | (with_reducible first | exact HB.out | apply below_alloc | apply pw_below_drewN | apply below_drew1 | refine below_set ?_ GE120.out | refine below_set ?_ GE137.out) | exact HB.out)⟩
                                      · rw [if_neg c100] at H
                                        have c100b0 : (t138 != true) = false := by simpa using c100
                                        (try (have c100b1 : decide (t138 = true) = true := by simpa using c100))
                                        (try (have c100b2 : (t138 == true) = true := by simpa using c100))
                                        clear c100
                                        have H' := Aside0.mk H
                                        clear H
                                        have hnb105 := NB137_120.out
                                        have hnc105 := NB120_137.out
                                        have hcz106_0 : wc.cell? ⟨gb137, 0, none⟩ = some (.bool t133) := (blk_cell BK137.out 0).trans rfl
                                        have hcz106_1 : wc.cell? ⟨gb137, 1, none⟩ = some (.bool t134) := (blk_cell BK137.out 1).trans rfl
                                        have hcz106_2 : wc.cell? ⟨gb137, 2, none⟩ = some (.bool t135) := (blk_cell BK137.out 2).trans rfl
                                        have hfz106_0 := blk_frozen BK137.out 0
                                        have hfz106_1 := blk_frozen BK137.out 1
                                        have hfz106_2 := blk_frozen BK137.out 2
                                        have hcz107_0 : wc.cell? ⟨gb120, 0, none⟩ = some (.bool x121000_2) := (blk_cell BK120.out 0).trans rfl
                                        have hcz107_1 : wc.cell? ⟨gb120, 1, none⟩ = some (.bool x121001_2) := (blk_cell BK120.out 1).trans rfl
                                        have hcz107_2 : wc.cell? ⟨gb120, 2, none⟩ = some (.bool x121002_2) := (blk_cell BK120.out 2).trans rfl
                                        have hfz107_0 := blk_frozen BK120.out 0
                                        have hfz107_1 := blk_frozen BK120.out 1
                                        have hfz107_2 := blk_frozen BK120.out 2
                                        go_wp2_with (first | ((with_reducible refine gate_callee (f := 10) rfl ?_); refine goesL_ (some 77) rfl rfl Try.func10 (by kernel_rfl) rfl #[.agg #[.bool t133, .bool t134, .bool t135]] rfl (by (try simp only [List.map_toArray, List.map_cons, List.map_nil]); first | done | rfl | (simp only [List.length_drop, List.length_take]; rfl) | (simp [Act.eval, *]; done)) ?_; (with_reducible refine (outage_Outage_Is.calls t133 t134 t135 t138 _ A98.out).mono ?_); rintro e w108 ⟨rfl, hb⟩; refine ⟨_, rfl, ?_⟩; have n0_ := Aside0.mk (blk_below (g := gb120) (o := .cells #[.bool t133, .bool t134, .bool t135] 23 (0, 0)) (by (with_reducible repeat (first | refine blk_drewN ?_ _ | refine blk_drew ?_ | refine blk_alloc ?_ _)); refine blk_put (cs := #[.bool t133, .bool t134, .bool x121002_2]) ?_ 2 _ rfl; (with_reducible repeat (first | refine blk_drewN ?_ _ | refine blk_drew ?_ | refine blk_alloc ?_ _)); refine blk_put (cs := #[.bool t133, .bool x121001_2, .bool x121002_2]) ?_ 1 _ rfl; (with_reducible repeat (first | refine blk_drewN ?_ _ | refine blk_drew ?_ | refine blk_alloc ?_ _)); refine blk_put (cs := #[.bool x121000_2, .bool x121001_2, .bool x121002_2]) ?_ 0 _ rfl; (with_reducible repeat (first | refine blk_drewN ?_ _ | refine blk_drew ?_ | refine blk_alloc ?_ _)); exact BK120.out) hb); have n1_ := Aside0.mk (blk_below (g := gb137) (o := .cells #[.bool t133, .bool t134, .bool t135] 23 (0, 0)) (by (with_reducible repeat (first | refine blk_drewN ?_ _ | refine blk_drew ?_ | refine blk_alloc ?_ _)); refine blk_far ?_ NB137_120.out _; (with_reducible repeat (first | refine blk_drewN ?_ _ | refine blk_drew ?_ | refine blk_alloc ?_ _)); refine blk_far ?_ NB137_120.out _; (with_reducible repeat (first | refine blk_drewN ?_ _ | refine blk_drew ?_ | refine blk_alloc ?_ _)); refine blk_far ?_ NB137_120.out _; (with_reducible repeat (first | refine blk_drewN ?_ _ | refine blk_drew ?_ | refine blk_alloc ?_ _)); exact BK137.out) hb); have n2_ := Aside0.mk (below_step (by repeat (first | (with_reducible first | exact HB.out | apply below_alloc | apply pw_below_drewN | apply below_drew1 | refine below_set ?_ GE120.out | refine below_set ?_ GE137.out) | exact HB.out)) hb); clear BK120; clear BK137; clear HB; have BK120 := n0_; have BK137 := n1_; have HB := n2_; clear n0_ n1_ n2_; (try clear hb); (try clear hb2); (try clear hk); (try clear hi)))
                                        go_roundg kj88
                                        case measure => have := HJ1.out; have := HK2.out; have := HJ13.out; have := HJ49.out; have := HJ88.out; omega
                                        case rel => exact ⟨(true), (x5_2), (false), (wrap64 (x7_2 + 1)), (t133), (t134), (t135), (by first | rfl | (simp; done) | (simp [*]; done)), (by first | rfl | (simp; done) | (simp [*]; done)), (by first | rfl | (simp; done) | (simp [*]; done)), (by first | rfl | (simp; done) | (simp [*]; done)), H', ⟨by have := HJ1.out; have := HK2.out; have := HJ13.out; have := HJ49.out; have := HJ88.out; omega⟩, ⟨by (with_reducible repeat (first | refine blk_drewN ?_ _ | refine blk_drew ?_ | refine blk_alloc ?_ _)); exact BK120.out⟩, ⟨by repeat (first | (with_reducible first | exact HB.out | apply below_alloc | apply pw_below_drewN | apply below_drew1 | refine below_set ?_ GE120.out | refine below_set ?_ GE137.out) | exact HB.out)⟩⟩
                                    · replace c99 := Bool.eq_false_iff.mpr c99
                                      subst c99
                                      have H1 : (if x5_2 = true then (if (t138 != true) = true then (some false) else (signalmanlaw15_OutagePlays.l0 kj88 l0 false x5_2 false (wrap64 (x7_2 + 1)) t133 t134 t135)) else (if (t138 != false) = true then (some false) else (signalmanlaw15_OutagePlays.l0 kj88 l0 false x5_2 false (wrap64 (x7_2 + 1)) t133 t134 t135))) = some r := by rw [if_neg (show ¬ (false = true) by decide)] at H; exact H
                                      clear H
                                      have H := H1
                                      clear H1
                                      by_cases c109 : x5_2 = true
                                      · subst c109
                                        have H1 : (if (t138 != true) = true then (some false) else (signalmanlaw15_OutagePlays.l0 kj88 l0 false true false (wrap64 (x7_2 + 1)) t133 t134 t135)) = some r := by rw [if_pos rfl] at H; exact H
                                        clear H
                                        have H := H1
                                        clear H1
                                        by_cases c110 : (t138 != true) = true
                                        · rw [if_pos c110] at H
                                          have c110b0 : (t138 != true) = true := c110
                                          (try (have c110b1 : decide (t138 = true) = false := by simpa using c110))
                                          (try (have c110b2 : (t138 == true) = false := by simpa using c110))
                                          (try (have c110b3 : ¬ (t138 = true) := by simpa using c110))
                                          clear c110
                                          obtain rfl := Option.some.inj H
                                          have hnb111 := NB137_120.out
                                          have hnc111 := NB120_137.out
                                          have hcz112_0 : wc.cell? ⟨gb137, 0, none⟩ = some (.bool t133) := (blk_cell BK137.out 0).trans rfl
                                          have hcz112_1 : wc.cell? ⟨gb137, 1, none⟩ = some (.bool t134) := (blk_cell BK137.out 1).trans rfl
                                          have hcz112_2 : wc.cell? ⟨gb137, 2, none⟩ = some (.bool t135) := (blk_cell BK137.out 2).trans rfl
                                          have hfz112_0 := blk_frozen BK137.out 0
                                          have hfz112_1 := blk_frozen BK137.out 1
                                          have hfz112_2 := blk_frozen BK137.out 2
                                          have hcz113_0 : wc.cell? ⟨gb120, 0, none⟩ = some (.bool x121000_2) := (blk_cell BK120.out 0).trans rfl
                                          have hcz113_1 : wc.cell? ⟨gb120, 1, none⟩ = some (.bool x121001_2) := (blk_cell BK120.out 1).trans rfl
                                          have hcz113_2 : wc.cell? ⟨gb120, 2, none⟩ = some (.bool x121002_2) := (blk_cell BK120.out 2).trans rfl
                                          have hfz113_0 := blk_frozen BK120.out 0
                                          have hfz113_1 := blk_frozen BK120.out 1
                                          have hfz113_2 := blk_frozen BK120.out 2
                                          go_wp2_with (first | ((with_reducible refine gate_callee (f := 10) rfl ?_); refine goesL_ (some 77) rfl rfl Try.func10 (by kernel_rfl) rfl #[.agg #[.bool t133, .bool t134, .bool t135]] rfl (by (try simp only [List.map_toArray, List.map_cons, List.map_nil]); first | done | rfl | (simp only [List.length_drop, List.length_take]; rfl) | (simp [Act.eval, *]; done)) ?_; (with_reducible refine (outage_Outage_Is.calls t133 t134 t135 t138 _ A98.out).mono ?_); rintro e w114 ⟨rfl, hb⟩; refine ⟨_, rfl, ?_⟩; have n0_ := Aside0.mk (blk_below (g := gb120) (o := .cells #[.bool t133, .bool t134, .bool t135] 23 (0, 0)) (by (with_reducible repeat (first | refine blk_drewN ?_ _ | refine blk_drew ?_ | refine blk_alloc ?_ _)); refine blk_put (cs := #[.bool t133, .bool t134, .bool x121002_2]) ?_ 2 _ rfl; (with_reducible repeat (first | refine blk_drewN ?_ _ | refine blk_drew ?_ | refine blk_alloc ?_ _)); refine blk_put (cs := #[.bool t133, .bool x121001_2, .bool x121002_2]) ?_ 1 _ rfl; (with_reducible repeat (first | refine blk_drewN ?_ _ | refine blk_drew ?_ | refine blk_alloc ?_ _)); refine blk_put (cs := #[.bool x121000_2, .bool x121001_2, .bool x121002_2]) ?_ 0 _ rfl; (with_reducible repeat (first | refine blk_drewN ?_ _ | refine blk_drew ?_ | refine blk_alloc ?_ _)); exact BK120.out) hb); have n1_ := Aside0.mk (blk_below (g := gb137) (o := .cells #[.bool t133, .bool t134, .bool t135] 23 (0, 0)) (by (with_reducible repeat (first | refine blk_drewN ?_ _ | refine blk_drew ?_ | refine blk_alloc ?_ _)); refine blk_far ?_ NB137_120.out _; (with_reducible repeat (first | refine blk_drewN ?_ _ | refine blk_drew ?_ | refine blk_alloc ?_ _)); refine blk_far ?_ NB137_120.out _; (with_reducible repeat (first | refine blk_drewN ?_ _ | refine blk_drew ?_ | refine blk_alloc ?_ _)); refine blk_far ?_ NB137_120.out _; (with_reducible repeat (first | refine blk_drewN ?_ _ | refine blk_drew ?_ | refine blk_alloc ?_ _)); exact BK137.out) hb); have n2_ := Aside0.mk (below_step (by repeat (first | (with_reducible first | exact HB.out | apply below_alloc | apply pw_below_drewN | apply below_drew1 | refine below_set ?_ GE120.out | refine below_set ?_ GE137.out) | exact HB.out)) hb); clear BK120; clear BK137; clear HB; have BK120 := n0_; have BK137 := n1_; have HB := n2_; clear n0_ n1_ n2_; (try clear hb); (try clear hb2); (try clear hk); (try clear hi)))
                                          go_ret
                                          exact ⟨by first | rfl | (simp [errW_none, errW_some] <;> rfl) | (simp [*, errW_none, errW_some] <;> rfl), by repeat (first | (with_reducible first | exact HB.out | apply below_alloc | apply pw_below_drewN | apply below_drew1 | refine below_set ?_ GE120.out | refine below_set ?_ GE137.out) | exact HB.out)⟩
                                        · rw [if_neg c110] at H
                                          have c110b0 : (t138 != true) = false := by simpa using c110
                                          (try (have c110b1 : decide (t138 = true) = true := by simpa using c110))
                                          (try (have c110b2 : (t138 == true) = true := by simpa using c110))
                                          clear c110
                                          have H' := Aside0.mk H
                                          clear H
                                          have hnb115 := NB137_120.out
                                          have hnc115 := NB120_137.out
                                          have hcz116_0 : wc.cell? ⟨gb137, 0, none⟩ = some (.bool t133) := (blk_cell BK137.out 0).trans rfl
                                          have hcz116_1 : wc.cell? ⟨gb137, 1, none⟩ = some (.bool t134) := (blk_cell BK137.out 1).trans rfl
                                          have hcz116_2 : wc.cell? ⟨gb137, 2, none⟩ = some (.bool t135) := (blk_cell BK137.out 2).trans rfl
                                          have hfz116_0 := blk_frozen BK137.out 0
                                          have hfz116_1 := blk_frozen BK137.out 1
                                          have hfz116_2 := blk_frozen BK137.out 2
                                          have hcz117_0 : wc.cell? ⟨gb120, 0, none⟩ = some (.bool x121000_2) := (blk_cell BK120.out 0).trans rfl
                                          have hcz117_1 : wc.cell? ⟨gb120, 1, none⟩ = some (.bool x121001_2) := (blk_cell BK120.out 1).trans rfl
                                          have hcz117_2 : wc.cell? ⟨gb120, 2, none⟩ = some (.bool x121002_2) := (blk_cell BK120.out 2).trans rfl
                                          have hfz117_0 := blk_frozen BK120.out 0
                                          have hfz117_1 := blk_frozen BK120.out 1
                                          have hfz117_2 := blk_frozen BK120.out 2
                                          go_wp2_with (first | ((with_reducible refine gate_callee (f := 10) rfl ?_); refine goesL_ (some 77) rfl rfl Try.func10 (by kernel_rfl) rfl #[.agg #[.bool t133, .bool t134, .bool t135]] rfl (by (try simp only [List.map_toArray, List.map_cons, List.map_nil]); first | done | rfl | (simp only [List.length_drop, List.length_take]; rfl) | (simp [Act.eval, *]; done)) ?_; (with_reducible refine (outage_Outage_Is.calls t133 t134 t135 t138 _ A98.out).mono ?_); rintro e w118 ⟨rfl, hb⟩; refine ⟨_, rfl, ?_⟩; have n0_ := Aside0.mk (blk_below (g := gb120) (o := .cells #[.bool t133, .bool t134, .bool t135] 23 (0, 0)) (by (with_reducible repeat (first | refine blk_drewN ?_ _ | refine blk_drew ?_ | refine blk_alloc ?_ _)); refine blk_put (cs := #[.bool t133, .bool t134, .bool x121002_2]) ?_ 2 _ rfl; (with_reducible repeat (first | refine blk_drewN ?_ _ | refine blk_drew ?_ | refine blk_alloc ?_ _)); refine blk_put (cs := #[.bool t133, .bool x121001_2, .bool x121002_2]) ?_ 1 _ rfl; (with_reducible repeat (first | refine blk_drewN ?_ _ | refine blk_drew ?_ | refine blk_alloc ?_ _)); refine blk_put (cs := #[.bool x121000_2, .bool x121001_2, .bool x121002_2]) ?_ 0 _ rfl; (with_reducible repeat (first | refine blk_drewN ?_ _ | refine blk_drew ?_ | refine blk_alloc ?_ _)); exact BK120.out) hb); have n1_ := Aside0.mk (blk_below (g := gb137) (o := .cells #[.bool t133, .bool t134, .bool t135] 23 (0, 0)) (by (with_reducible repeat (first | refine blk_drewN ?_ _ | refine blk_drew ?_ | refine blk_alloc ?_ _)); refine blk_far ?_ NB137_120.out _; (with_reducible repeat (first | refine blk_drewN ?_ _ | refine blk_drew ?_ | refine blk_alloc ?_ _)); refine blk_far ?_ NB137_120.out _; (with_reducible repeat (first | refine blk_drewN ?_ _ | refine blk_drew ?_ | refine blk_alloc ?_ _)); refine blk_far ?_ NB137_120.out _; (with_reducible repeat (first | refine blk_drewN ?_ _ | refine blk_drew ?_ | refine blk_alloc ?_ _)); exact BK137.out) hb); have n2_ := Aside0.mk (below_step (by repeat (first | (with_reducible first | exact HB.out | apply below_alloc | apply pw_below_drewN | apply below_drew1 | refine below_set ?_ GE120.out | refine below_set ?_ GE137.out) | exact HB.out)) hb); clear BK120; clear BK137; clear HB; have BK120 := n0_; have BK137 := n1_; have HB := n2_; clear n0_ n1_ n2_; (try clear hb); (try clear hb2); (try clear hk); (try clear hi)))
                                          go_roundg kj88
                                          case measure => have := HJ1.out; have := HK2.out; have := HJ13.out; have := HJ49.out; have := HJ88.out; omega
                                          case rel => exact ⟨(false), (true), (false), (wrap64 (x7_2 + 1)), (t133), (t134), (t135), (by first | rfl | (simp; done) | (simp [*]; done)), (by first | rfl | (simp; done) | (simp [*]; done)), (by first | rfl | (simp; done) | (simp [*]; done)), (by first | rfl | (simp; done) | (simp [*]; done)), H', ⟨by have := HJ1.out; have := HK2.out; have := HJ13.out; have := HJ49.out; have := HJ88.out; omega⟩, ⟨by (with_reducible repeat (first | refine blk_drewN ?_ _ | refine blk_drew ?_ | refine blk_alloc ?_ _)); exact BK120.out⟩, ⟨by repeat (first | (with_reducible first | exact HB.out | apply below_alloc | apply pw_below_drewN | apply below_drew1 | refine below_set ?_ GE120.out | refine below_set ?_ GE137.out) | exact HB.out)⟩⟩
                                      · replace c109 := Bool.eq_false_iff.mpr c109
                                        subst c109
                                        have H1 : (if (t138 != false) = true then (some false) else (signalmanlaw15_OutagePlays.l0 kj88 l0 false false false (wrap64 (x7_2 + 1)) t133 t134 t135)) = some r := by rw [if_neg (show ¬ (false = true) by decide)] at H; exact H
                                        clear H
                                        have H := H1
                                        clear H1
                                        by_cases c119 : (t138 != false) = true
                                        · rw [if_pos c119] at H
                                          have c119b0 : (t138 != false) = true := c119
                                          (try (have c119b1 : decide (t138 = false) = false := by simpa using c119))
                                          (try (have c119b2 : (t138 == false) = false := by simpa using c119))
                                          (try (have c119b3 : ¬ (t138 = false) := by simpa using c119))
                                          clear c119
                                          obtain rfl := Option.some.inj H
                                          have hnb120 := NB137_120.out
                                          have hnc120 := NB120_137.out
                                          have hcz121_0 : wc.cell? ⟨gb137, 0, none⟩ = some (.bool t133) := (blk_cell BK137.out 0).trans rfl
                                          have hcz121_1 : wc.cell? ⟨gb137, 1, none⟩ = some (.bool t134) := (blk_cell BK137.out 1).trans rfl
                                          have hcz121_2 : wc.cell? ⟨gb137, 2, none⟩ = some (.bool t135) := (blk_cell BK137.out 2).trans rfl
                                          have hfz121_0 := blk_frozen BK137.out 0
                                          have hfz121_1 := blk_frozen BK137.out 1
                                          have hfz121_2 := blk_frozen BK137.out 2
                                          have hcz122_0 : wc.cell? ⟨gb120, 0, none⟩ = some (.bool x121000_2) := (blk_cell BK120.out 0).trans rfl
                                          have hcz122_1 : wc.cell? ⟨gb120, 1, none⟩ = some (.bool x121001_2) := (blk_cell BK120.out 1).trans rfl
                                          have hcz122_2 : wc.cell? ⟨gb120, 2, none⟩ = some (.bool x121002_2) := (blk_cell BK120.out 2).trans rfl
                                          have hfz122_0 := blk_frozen BK120.out 0
                                          have hfz122_1 := blk_frozen BK120.out 1
                                          have hfz122_2 := blk_frozen BK120.out 2
                                          go_wp2_with (first | ((with_reducible refine gate_callee (f := 10) rfl ?_); refine goesL_ (some 77) rfl rfl Try.func10 (by kernel_rfl) rfl #[.agg #[.bool t133, .bool t134, .bool t135]] rfl (by (try simp only [List.map_toArray, List.map_cons, List.map_nil]); first | done | rfl | (simp only [List.length_drop, List.length_take]; rfl) | (simp [Act.eval, *]; done)) ?_; (with_reducible refine (outage_Outage_Is.calls t133 t134 t135 t138 _ A98.out).mono ?_); rintro e w123 ⟨rfl, hb⟩; refine ⟨_, rfl, ?_⟩; have n0_ := Aside0.mk (blk_below (g := gb120) (o := .cells #[.bool t133, .bool t134, .bool t135] 23 (0, 0)) (by (with_reducible repeat (first | refine blk_drewN ?_ _ | refine blk_drew ?_ | refine blk_alloc ?_ _)); refine blk_put (cs := #[.bool t133, .bool t134, .bool x121002_2]) ?_ 2 _ rfl; (with_reducible repeat (first | refine blk_drewN ?_ _ | refine blk_drew ?_ | refine blk_alloc ?_ _)); refine blk_put (cs := #[.bool t133, .bool x121001_2, .bool x121002_2]) ?_ 1 _ rfl; (with_reducible repeat (first | refine blk_drewN ?_ _ | refine blk_drew ?_ | refine blk_alloc ?_ _)); refine blk_put (cs := #[.bool x121000_2, .bool x121001_2, .bool x121002_2]) ?_ 0 _ rfl; (with_reducible repeat (first | refine blk_drewN ?_ _ | refine blk_drew ?_ | refine blk_alloc ?_ _)); exact BK120.out) hb); have n1_ := Aside0.mk (blk_below (g := gb137) (o := .cells #[.bool t133, .bool t134, .bool t135] 23 (0, 0)) (by (with_reducible repeat (first | refine blk_drewN ?_ _ | refine blk_drew ?_ | refine blk_alloc ?_ _)); refine blk_far ?_ NB137_120.out _; (with_reducible repeat (first | refine blk_drewN ?_ _ | refine blk_drew ?_ | refine blk_alloc ?_ _)); refine blk_far ?_ NB137_120.out _; (with_reducible repeat (first | refine blk_drewN ?_ _ | refine blk_drew ?_ | refine blk_alloc ?_ _)); refine blk_far ?_ NB137_120.out _; (with_reducible repeat (first | refine blk_drewN ?_ _ | refine blk_drew ?_ | refine blk_alloc ?_ _)); exact BK137.out) hb); have n2_ := Aside0.mk (below_step (by repeat (first | (with_reducible first | exact HB.out | apply below_alloc | apply pw_below_drewN | apply below_drew1 | refine below_set ?_ GE120.out | refine below_set ?_ GE137.out) | exact HB.out)) hb); clear BK120; clear BK137; clear HB; have BK120 := n0_; have BK137 := n1_; have HB := n2_; clear n0_ n1_ n2_; (try clear hb); (try clear hb2); (try clear hk); (try clear hi)))
                                          go_ret
                                          exact ⟨by first | rfl | (simp [errW_none, errW_some] <;> rfl) | (simp [*, errW_none, errW_some] <;> rfl), by repeat (first | (with_reducible first | exact HB.out | apply below_alloc | apply pw_below_drewN | apply below_drew1 | refine below_set ?_ GE120.out | refine below_set ?_ GE137.out) | exact HB.out)⟩
                                        · rw [if_neg c119] at H
                                          have c119b0 : (t138 != false) = false := by simpa using c119
                                          (try (have c119b1 : decide (t138 = false) = true := by simpa using c119))
                                          (try (have c119b2 : (t138 == false) = true := by simpa using c119))
                                          clear c119
                                          have H' := Aside0.mk H
                                          clear H
                                          have hnb124 := NB137_120.out
                                          have hnc124 := NB120_137.out
                                          have hcz125_0 : wc.cell? ⟨gb137, 0, none⟩ = some (.bool t133) := (blk_cell BK137.out 0).trans rfl
                                          have hcz125_1 : wc.cell? ⟨gb137, 1, none⟩ = some (.bool t134) := (blk_cell BK137.out 1).trans rfl
                                          have hcz125_2 : wc.cell? ⟨gb137, 2, none⟩ = some (.bool t135) := (blk_cell BK137.out 2).trans rfl
                                          have hfz125_0 := blk_frozen BK137.out 0
                                          have hfz125_1 := blk_frozen BK137.out 1
                                          have hfz125_2 := blk_frozen BK137.out 2
                                          have hcz126_0 : wc.cell? ⟨gb120, 0, none⟩ = some (.bool x121000_2) := (blk_cell BK120.out 0).trans rfl
                                          have hcz126_1 : wc.cell? ⟨gb120, 1, none⟩ = some (.bool x121001_2) := (blk_cell BK120.out 1).trans rfl
                                          have hcz126_2 : wc.cell? ⟨gb120, 2, none⟩ = some (.bool x121002_2) := (blk_cell BK120.out 2).trans rfl
                                          have hfz126_0 := blk_frozen BK120.out 0
                                          have hfz126_1 := blk_frozen BK120.out 1
                                          have hfz126_2 := blk_frozen BK120.out 2
                                          go_wp2_with (first | ((with_reducible refine gate_callee (f := 10) rfl ?_); refine goesL_ (some 77) rfl rfl Try.func10 (by kernel_rfl) rfl #[.agg #[.bool t133, .bool t134, .bool t135]] rfl (by (try simp only [List.map_toArray, List.map_cons, List.map_nil]); first | done | rfl | (simp only [List.length_drop, List.length_take]; rfl) | (simp [Act.eval, *]; done)) ?_; (with_reducible refine (outage_Outage_Is.calls t133 t134 t135 t138 _ A98.out).mono ?_); rintro e w127 ⟨rfl, hb⟩; refine ⟨_, rfl, ?_⟩; have n0_ := Aside0.mk (blk_below (g := gb120) (o := .cells #[.bool t133, .bool t134, .bool t135] 23 (0, 0)) (by (with_reducible repeat (first | refine blk_drewN ?_ _ | refine blk_drew ?_ | refine blk_alloc ?_ _)); refine blk_put (cs := #[.bool t133, .bool t134, .bool x121002_2]) ?_ 2 _ rfl; (with_reducible repeat (first | refine blk_drewN ?_ _ | refine blk_drew ?_ | refine blk_alloc ?_ _)); refine blk_put (cs := #[.bool t133, .bool x121001_2, .bool x121002_2]) ?_ 1 _ rfl; (with_reducible repeat (first | refine blk_drewN ?_ _ | refine blk_drew ?_ | refine blk_alloc ?_ _)); refine blk_put (cs := #[.bool x121000_2, .bool x121001_2, .bool x121002_2]) ?_ 0 _ rfl; (with_reducible repeat (first | refine blk_drewN ?_ _ | refine blk_drew ?_ | refine blk_alloc ?_ _)); exact BK120.out) hb); have n1_ := Aside0.mk (blk_below (g := gb137) (o := .cells #[.bool t133, .bool t134, .bool t135] 23 (0, 0)) (by (with_reducible repeat (first | refine blk_drewN ?_ _ | refine blk_drew ?_ | refine blk_alloc ?_ _)); refine blk_far ?_ NB137_120.out _; (with_reducible repeat (first | refine blk_drewN ?_ _ | refine blk_drew ?_ | refine blk_alloc ?_ _)); refine blk_far ?_ NB137_120.out _; (with_reducible repeat (first | refine blk_drewN ?_ _ | refine blk_drew ?_ | refine blk_alloc ?_ _)); refine blk_far ?_ NB137_120.out _; (with_reducible repeat (first | refine blk_drewN ?_ _ | refine blk_drew ?_ | refine blk_alloc ?_ _)); exact BK137.out) hb); have n2_ := Aside0.mk (below_step (by repeat (first | (with_reducible first | exact HB.out | apply below_alloc | apply pw_below_drewN | apply below_drew1 | refine below_set ?_ GE120.out | refine below_set ?_ GE137.out) | exact HB.out)) hb); clear BK120; clear BK137; clear HB; have BK120 := n0_; have BK137 := n1_; have HB := n2_; clear n0_ n1_ n2_; (try clear hb); (try clear hb2); (try clear hk); (try clear hi)))
                                          go_roundg kj88
                                          case measure => have := HJ1.out; have := HK2.out; have := HJ13.out; have := HJ49.out; have := HJ88.out; omega
                                          case rel => exact ⟨(false), (false), (false), (wrap64 (x7_2 + 1)), (t133), (t134), (t135), (by first | rfl | (simp; done) | (simp [*]; done)), (by first | rfl | (simp; done) | (simp [*]; done)), (by first | rfl | (simp; done) | (simp [*]; done)), (by first | rfl | (simp; done) | (simp [*]; done)), H', ⟨by have := HJ1.out; have := HK2.out; have := HJ13.out; have := HJ49.out; have := HJ88.out; omega⟩, ⟨by (with_reducible repeat (first | refine blk_drewN ?_ _ | refine blk_drew ?_ | refine blk_alloc ?_ _)); exact BK120.out⟩, ⟨by repeat (first | (with_reducible first | exact HB.out | apply below_alloc | apply pw_below_drewN | apply below_drew1 | refine below_set ?_ GE120.out | refine below_set ?_ GE137.out) | exact HB.out)⟩⟩
                                  · replace c97 := Bool.eq_false_iff.mpr c97
                                    subst c97
                                    have H1 : ((outage_Outage_Is.f t133 t134 t135).bind fun t139 => (if x4_2 = true then (if (t139 != true) = true then (some false) else (signalmanlaw15_OutagePlays.l0 kj88 l0 x4_2 x5_2 x6_2 (wrap64 (x7_2 + 1)) t133 t134 t135)) else (if x5_2 = true then (if (t139 != true) = true then (some false) else (signalmanlaw15_OutagePlays.l0 kj88 l0 x4_2 x5_2 x6_2 (wrap64 (x7_2 + 1)) t133 t134 t135)) else (if (t139 != x6_2) = true then (some false) else (signalmanlaw15_OutagePlays.l0 kj88 l0 x4_2 x5_2 x6_2 (wrap64 (x7_2 + 1)) t133 t134 t135))))) = some r := by rw [if_neg (show ¬ (false = true) by decide)] at H; exact H
                                    clear H
                                    have H := H1
                                    clear H1
                                    replace H := Option.bind_eq_some_iff.mp H
                                    obtain ⟨t139, A1280, H⟩ := H
                                    replace H : (if x4_2 = true then (if (t139 != true) = true then (some false) else (signalmanlaw15_OutagePlays.l0 kj88 l0 x4_2 x5_2 x6_2 (wrap64 (x7_2 + 1)) t133 t134 t135)) else (if x5_2 = true then (if (t139 != true) = true then (some false) else (signalmanlaw15_OutagePlays.l0 kj88 l0 x4_2 x5_2 x6_2 (wrap64 (x7_2 + 1)) t133 t134 t135)) else (if (t139 != x6_2) = true then (some false) else (signalmanlaw15_OutagePlays.l0 kj88 l0 x4_2 x5_2 x6_2 (wrap64 (x7_2 + 1)) t133 t134 t135)))) = some r := H
                                    have A128 := Aside0.mk A1280
                                    clear A1280
                                    by_cases c129 : x4_2 = true
                                    · subst c129
                                      have H1 : (if (t139 != true) = true then (some false) else (signalmanlaw15_OutagePlays.l0 kj88 l0 true x5_2 x6_2 (wrap64 (x7_2 + 1)) t133 t134 t135)) = some r := by rw [if_pos rfl] at H; exact H
                                      clear H
                                      have H := H1
                                      clear H1
                                      by_cases c130 : (t139 != true) = true
                                      · rw [if_pos c130] at H
                                        have c130b0 : (t139 != true) = true := c130
                                        (try (have c130b1 : decide (t139 = true) = false := by simpa using c130))
                                        (try (have c130b2 : (t139 == true) = false := by simpa using c130))
                                        (try (have c130b3 : ¬ (t139 = true) := by simpa using c130))
                                        clear c130
                                        obtain rfl := Option.some.inj H
                                        have hnb131 := NB137_120.out
                                        have hnc131 := NB120_137.out
                                        have hcz132_0 : wc.cell? ⟨gb137, 0, none⟩ = some (.bool t133) := (blk_cell BK137.out 0).trans rfl
                                        have hcz132_1 : wc.cell? ⟨gb137, 1, none⟩ = some (.bool t134) := (blk_cell BK137.out 1).trans rfl
                                        have hcz132_2 : wc.cell? ⟨gb137, 2, none⟩ = some (.bool t135) := (blk_cell BK137.out 2).trans rfl
                                        have hfz132_0 := blk_frozen BK137.out 0
                                        have hfz132_1 := blk_frozen BK137.out 1
                                        have hfz132_2 := blk_frozen BK137.out 2
                                        have hcz133_0 : wc.cell? ⟨gb120, 0, none⟩ = some (.bool x121000_2) := (blk_cell BK120.out 0).trans rfl
                                        have hcz133_1 : wc.cell? ⟨gb120, 1, none⟩ = some (.bool x121001_2) := (blk_cell BK120.out 1).trans rfl
                                        have hcz133_2 : wc.cell? ⟨gb120, 2, none⟩ = some (.bool x121002_2) := (blk_cell BK120.out 2).trans rfl
                                        have hfz133_0 := blk_frozen BK120.out 0
                                        have hfz133_1 := blk_frozen BK120.out 1
                                        have hfz133_2 := blk_frozen BK120.out 2
                                        go_wp2_with (first | ((with_reducible refine gate_callee (f := 10) rfl ?_); refine goesL_ (some 77) rfl rfl Try.func10 (by kernel_rfl) rfl #[.agg #[.bool t133, .bool t134, .bool t135]] rfl (by (try simp only [List.map_toArray, List.map_cons, List.map_nil]); first | done | rfl | (simp only [List.length_drop, List.length_take]; rfl) | (simp [Act.eval, *]; done)) ?_; (with_reducible refine (outage_Outage_Is.calls t133 t134 t135 t139 _ A128.out).mono ?_); rintro e w134 ⟨rfl, hb⟩; refine ⟨_, rfl, ?_⟩; have n0_ := Aside0.mk (blk_below (g := gb120) (o := .cells #[.bool t133, .bool t134, .bool t135] 23 (0, 0)) (by (with_reducible repeat (first | refine blk_drewN ?_ _ | refine blk_drew ?_ | refine blk_alloc ?_ _)); refine blk_put (cs := #[.bool t133, .bool t134, .bool x121002_2]) ?_ 2 _ rfl; (with_reducible repeat (first | refine blk_drewN ?_ _ | refine blk_drew ?_ | refine blk_alloc ?_ _)); refine blk_put (cs := #[.bool t133, .bool x121001_2, .bool x121002_2]) ?_ 1 _ rfl; (with_reducible repeat (first | refine blk_drewN ?_ _ | refine blk_drew ?_ | refine blk_alloc ?_ _)); refine blk_put (cs := #[.bool x121000_2, .bool x121001_2, .bool x121002_2]) ?_ 0 _ rfl; (with_reducible repeat (first | refine blk_drewN ?_ _ | refine blk_drew ?_ | refine blk_alloc ?_ _)); exact BK120.out) hb); have n1_ := Aside0.mk (blk_below (g := gb137) (o := .cells #[.bool t133, .bool t134, .bool t135] 23 (0, 0)) (by (with_reducible repeat (first | refine blk_drewN ?_ _ | refine blk_drew ?_ | refine blk_alloc ?_ _)); refine blk_far ?_ NB137_120.out _; (with_reducible repeat (first | refine blk_drewN ?_ _ | refine blk_drew ?_ | refine blk_alloc ?_ _)); refine blk_far ?_ NB137_120.out _; (with_reducible repeat (first | refine blk_drewN ?_ _ | refine blk_drew ?_ | refine blk_alloc ?_ _)); refine blk_far ?_ NB137_120.out _; (with_reducible repeat (first | refine blk_drewN ?_ _ | refine blk_drew ?_ | refine blk_alloc ?_ _)); exact BK137.out) hb); have n2_ := Aside0.mk (below_step (by repeat (first | (with_reducible first | exact HB.out | apply below_alloc | apply pw_below_drewN | apply below_drew1 | refine below_set ?_ GE120.out | refine below_set ?_ GE137.out) | exact HB.out)) hb); clear BK120; clear BK137; clear HB; have BK120 := n0_; have BK137 := n1_; have HB := n2_; clear n0_ n1_ n2_; (try clear hb); (try clear hb2); (try clear hk); (try clear hi)))
                                        go_ret
                                        exact ⟨by first | rfl | (simp [errW_none, errW_some] <;> rfl) | (simp [*, errW_none, errW_some] <;> rfl), by repeat (first | (with_reducible first | exact HB.out | apply below_alloc | apply pw_below_drewN | apply below_drew1 | refine below_set ?_ GE120.out | refine below_set ?_ GE137.out) | exact HB.out)⟩
                                      · rw [if_neg c130] at H
                                        have c130b0 : (t139 != true) = false := by simpa using c130
                                        (try (have c130b1 : decide (t139 = true) = true := by simpa using c130))
                                        (try (have c130b2 : (t139 == true) = true := by simpa using c130))
                                        clear c130
                                        have H' := Aside0.mk H
                                        clear H
                                        have hnb135 := NB137_120.out
                                        have hnc135 := NB120_137.out
                                        have hcz136_0 : wc.cell? ⟨gb137, 0, none⟩ = some (.bool t133) := (blk_cell BK137.out 0).trans rfl
                                        have hcz136_1 : wc.cell? ⟨gb137, 1, none⟩ = some (.bool t134) := (blk_cell BK137.out 1).trans rfl
                                        have hcz136_2 : wc.cell? ⟨gb137, 2, none⟩ = some (.bool t135) := (blk_cell BK137.out 2).trans rfl
                                        have hfz136_0 := blk_frozen BK137.out 0
                                        have hfz136_1 := blk_frozen BK137.out 1
                                        have hfz136_2 := blk_frozen BK137.out 2
                                        have hcz137_0 : wc.cell? ⟨gb120, 0, none⟩ = some (.bool x121000_2) := (blk_cell BK120.out 0).trans rfl
                                        have hcz137_1 : wc.cell? ⟨gb120, 1, none⟩ = some (.bool x121001_2) := (blk_cell BK120.out 1).trans rfl
                                        have hcz137_2 : wc.cell? ⟨gb120, 2, none⟩ = some (.bool x121002_2) := (blk_cell BK120.out 2).trans rfl
                                        have hfz137_0 := blk_frozen BK120.out 0
                                        have hfz137_1 := blk_frozen BK120.out 1
                                        have hfz137_2 := blk_frozen BK120.out 2
                                        go_wp2_with (first | ((with_reducible refine gate_callee (f := 10) rfl ?_); refine goesL_ (some 77) rfl rfl Try.func10 (by kernel_rfl) rfl #[.agg #[.bool t133, .bool t134, .bool t135]] rfl (by (try simp only [List.map_toArray, List.map_cons, List.map_nil]); first | done | rfl | (simp only [List.length_drop, List.length_take]; rfl) | (simp [Act.eval, *]; done)) ?_; (with_reducible refine (outage_Outage_Is.calls t133 t134 t135 t139 _ A128.out).mono ?_); rintro e w138 ⟨rfl, hb⟩; refine ⟨_, rfl, ?_⟩; have n0_ := Aside0.mk (blk_below (g := gb120) (o := .cells #[.bool t133, .bool t134, .bool t135] 23 (0, 0)) (by (with_reducible repeat (first | refine blk_drewN ?_ _ | refine blk_drew ?_ | refine blk_alloc ?_ _)); refine blk_put (cs := #[.bool t133, .bool t134, .bool x121002_2]) ?_ 2 _ rfl; (with_reducible repeat (first | refine blk_drewN ?_ _ | refine blk_drew ?_ | refine blk_alloc ?_ _)); refine blk_put (cs := #[.bool t133, .bool x121001_2, .bool x121002_2]) ?_ 1 _ rfl; (with_reducible repeat (first | refine blk_drewN ?_ _ | refine blk_drew ?_ | refine blk_alloc ?_ _)); refine blk_put (cs := #[.bool x121000_2, .bool x121001_2, .bool x121002_2]) ?_ 0 _ rfl; (with_reducible repeat (first | refine blk_drewN ?_ _ | refine blk_drew ?_ | refine blk_alloc ?_ _)); exact BK120.out) hb); have n1_ := Aside0.mk (blk_below (g := gb137) (o := .cells #[.bool t133, .bool t134, .bool t135] 23 (0, 0)) (by (with_reducible repeat (first | refine blk_drewN ?_ _ | refine blk_drew ?_ | refine blk_alloc ?_ _)); refine blk_far ?_ NB137_120.out _; (with_reducible repeat (first | refine blk_drewN ?_ _ | refine blk_drew ?_ | refine blk_alloc ?_ _)); refine blk_far ?_ NB137_120.out _; (with_reducible repeat (first | refine blk_drewN ?_ _ | refine blk_drew ?_ | refine blk_alloc ?_ _)); refine blk_far ?_ NB137_120.out _; (with_reducible repeat (first | refine blk_drewN ?_ _ | refine blk_drew ?_ | refine blk_alloc ?_ _)); exact BK137.out) hb); have n2_ := Aside0.mk (below_step (by repeat (first | (with_reducible first | exact HB.out | apply below_alloc | apply pw_below_drewN | apply below_drew1 | refine below_set ?_ GE120.out | refine below_set ?_ GE137.out) | exact HB.out)) hb); clear BK120; clear BK137; clear HB; have BK120 := n0_; have BK137 := n1_; have HB := n2_; clear n0_ n1_ n2_; (try clear hb); (try clear hb2); (try clear hk); (try clear hi)))
                                        go_roundg kj88
                                        case measure => have := HJ1.out; have := HK2.out; have := HJ13.out; have := HJ49.out; have := HJ88.out; omega
                                        case rel => exact ⟨(true), (x5_2), (x6_2), (wrap64 (x7_2 + 1)), (t133), (t134), (t135), (by first | rfl | (simp; done) | (simp [*]; done)), (by first | rfl | (simp; done) | (simp [*]; done)), (by first | rfl | (simp; done) | (simp [*]; done)), (by first | rfl | (simp; done) | (simp [*]; done)), H', ⟨by have := HJ1.out; have := HK2.out; have := HJ13.out; have := HJ49.out; have := HJ88.out; omega⟩, ⟨by (with_reducible repeat (first | refine blk_drewN ?_ _ | refine blk_drew ?_ | refine blk_alloc ?_ _)); exact BK120.out⟩, ⟨by repeat (first | (with_reducible first | exact HB.out | apply below_alloc | apply pw_below_drewN | apply below_drew1 | refine below_set ?_ GE120.out | refine below_set ?_ GE137.out) | exact HB.out)⟩⟩
                                    · replace c129 := Bool.eq_false_iff.mpr c129
                                      subst c129
                                      have H1 : (if x5_2 = true then (if (t139 != true) = true then (some false) else (signalmanlaw15_OutagePlays.l0 kj88 l0 false x5_2 x6_2 (wrap64 (x7_2 + 1)) t133 t134 t135)) else (if (t139 != x6_2) = true then (some false) else (signalmanlaw15_OutagePlays.l0 kj88 l0 false x5_2 x6_2 (wrap64 (x7_2 + 1)) t133 t134 t135))) = some r := by rw [if_neg (show ¬ (false = true) by decide)] at H; exact H
                                      clear H
                                      have H := H1
                                      clear H1
                                      by_cases c139 : x5_2 = true
                                      · subst c139
                                        have H1 : (if (t139 != true) = true then (some false) else (signalmanlaw15_OutagePlays.l0 kj88 l0 false true x6_2 (wrap64 (x7_2 + 1)) t133 t134 t135)) = some r := by rw [if_pos rfl] at H; exact H
                                        clear H
                                        have H := H1
                                        clear H1
                                        by_cases c140 : (t139 != true) = true
                                        · rw [if_pos c140] at H
                                          have c140b0 : (t139 != true) = true := c140
                                          (try (have c140b1 : decide (t139 = true) = false := by simpa using c140))
                                          (try (have c140b2 : (t139 == true) = false := by simpa using c140))
                                          (try (have c140b3 : ¬ (t139 = true) := by simpa using c140))
                                          clear c140
                                          obtain rfl := Option.some.inj H
                                          have hnb141 := NB137_120.out
                                          have hnc141 := NB120_137.out
                                          have hcz142_0 : wc.cell? ⟨gb137, 0, none⟩ = some (.bool t133) := (blk_cell BK137.out 0).trans rfl
                                          have hcz142_1 : wc.cell? ⟨gb137, 1, none⟩ = some (.bool t134) := (blk_cell BK137.out 1).trans rfl
                                          have hcz142_2 : wc.cell? ⟨gb137, 2, none⟩ = some (.bool t135) := (blk_cell BK137.out 2).trans rfl
                                          have hfz142_0 := blk_frozen BK137.out 0
                                          have hfz142_1 := blk_frozen BK137.out 1
                                          have hfz142_2 := blk_frozen BK137.out 2
                                          have hcz143_0 : wc.cell? ⟨gb120, 0, none⟩ = some (.bool x121000_2) := (blk_cell BK120.out 0).trans rfl
                                          have hcz143_1 : wc.cell? ⟨gb120, 1, none⟩ = some (.bool x121001_2) := (blk_cell BK120.out 1).trans rfl
                                          have hcz143_2 : wc.cell? ⟨gb120, 2, none⟩ = some (.bool x121002_2) := (blk_cell BK120.out 2).trans rfl
                                          have hfz143_0 := blk_frozen BK120.out 0
                                          have hfz143_1 := blk_frozen BK120.out 1
                                          have hfz143_2 := blk_frozen BK120.out 2
                                          go_wp2_with (first | ((with_reducible refine gate_callee (f := 10) rfl ?_); refine goesL_ (some 77) rfl rfl Try.func10 (by kernel_rfl) rfl #[.agg #[.bool t133, .bool t134, .bool t135]] rfl (by (try simp only [List.map_toArray, List.map_cons, List.map_nil]); first | done | rfl | (simp only [List.length_drop, List.length_take]; rfl) | (simp [Act.eval, *]; done)) ?_; (with_reducible refine (outage_Outage_Is.calls t133 t134 t135 t139 _ A128.out).mono ?_); rintro e w144 ⟨rfl, hb⟩; refine ⟨_, rfl, ?_⟩; have n0_ := Aside0.mk (blk_below (g := gb120) (o := .cells #[.bool t133, .bool t134, .bool t135] 23 (0, 0)) (by (with_reducible repeat (first | refine blk_drewN ?_ _ | refine blk_drew ?_ | refine blk_alloc ?_ _)); refine blk_put (cs := #[.bool t133, .bool t134, .bool x121002_2]) ?_ 2 _ rfl; (with_reducible repeat (first | refine blk_drewN ?_ _ | refine blk_drew ?_ | refine blk_alloc ?_ _)); refine blk_put (cs := #[.bool t133, .bool x121001_2, .bool x121002_2]) ?_ 1 _ rfl; (with_reducible repeat (first | refine blk_drewN ?_ _ | refine blk_drew ?_ | refine blk_alloc ?_ _)); refine blk_put (cs := #[.bool x121000_2, .bool x121001_2, .bool x121002_2]) ?_ 0 _ rfl; (with_reducible repeat (first | refine blk_drewN ?_ _ | refine blk_drew ?_ | refine blk_alloc ?_ _)); exact BK120.out) hb); have n1_ := Aside0.mk (blk_below (g := gb137) (o := .cells #[.bool t133, .bool t134, .bool t135] 23 (0, 0)) (by (with_reducible repeat (first | refine blk_drewN ?_ _ | refine blk_drew ?_ | refine blk_alloc ?_ _)); refine blk_far ?_ NB137_120.out _; (with_reducible repeat (first | refine blk_drewN ?_ _ | refine blk_drew ?_ | refine blk_alloc ?_ _)); refine blk_far ?_ NB137_120.out _; (with_reducible repeat (first | refine blk_drewN ?_ _ | refine blk_drew ?_ | refine blk_alloc ?_ _)); refine blk_far ?_ NB137_120.out _; (with_reducible repeat (first | refine blk_drewN ?_ _ | refine blk_drew ?_ | refine blk_alloc ?_ _)); exact BK137.out) hb); have n2_ := Aside0.mk (below_step (by repeat (first | (with_reducible first | exact HB.out | apply below_alloc | apply pw_below_drewN | apply below_drew1 | refine below_set ?_ GE120.out | refine below_set ?_ GE137.out) | exact HB.out)) hb); clear BK120; clear BK137; clear HB; have BK120 := n0_; have BK137 := n1_; have HB := n2_; clear n0_ n1_ n2_; (try clear hb); (try clear hb2); (try clear hk); (try clear hi)))
                                          go_ret
                                          exact ⟨by first | rfl | (simp [errW_none, errW_some] <;> rfl) | (simp [*, errW_none, errW_some] <;> rfl), by repeat (first | (with_reducible first | exact HB.out | apply below_alloc | apply pw_below_drewN | apply below_drew1 | refine below_set ?_ GE120.out | refine below_set ?_ GE137.out) | exact HB.out)⟩
                                        · rw [if_neg c140] at H
                                          have c140b0 : (t139 != true) = false := by simpa using c140
                                          (try (have c140b1 : decide (t139 = true) = true := by simpa using c140))
                                          (try (have c140b2 : (t139 == true) = true := by simpa using c140))
                                          clear c140
                                          have H' := Aside0.mk H
                                          clear H
                                          have hnb145 := NB137_120.out
                                          have hnc145 := NB120_137.out
                                          have hcz146_0 : wc.cell? ⟨gb137, 0, none⟩ = some (.bool t133) := (blk_cell BK137.out 0).trans rfl
                                          have hcz146_1 : wc.cell? ⟨gb137, 1, none⟩ = some (.bool t134) := (blk_cell BK137.out 1).trans rfl
                                          have hcz146_2 : wc.cell? ⟨gb137, 2, none⟩ = some (.bool t135) := (blk_cell BK137.out 2).trans rfl
                                          have hfz146_0 := blk_frozen BK137.out 0
                                          have hfz146_1 := blk_frozen BK137.out 1
                                          have hfz146_2 := blk_frozen BK137.out 2
                                          have hcz147_0 : wc.cell? ⟨gb120, 0, none⟩ = some (.bool x121000_2) := (blk_cell BK120.out 0).trans rfl
                                          have hcz147_1 : wc.cell? ⟨gb120, 1, none⟩ = some (.bool x121001_2) := (blk_cell BK120.out 1).trans rfl
                                          have hcz147_2 : wc.cell? ⟨gb120, 2, none⟩ = some (.bool x121002_2) := (blk_cell BK120.out 2).trans rfl
                                          have hfz147_0 := blk_frozen BK120.out 0
                                          have hfz147_1 := blk_frozen BK120.out 1
                                          have hfz147_2 := blk_frozen BK120.out 2
                                          go_wp2_with (first | ((with_reducible refine gate_callee (f := 10) rfl ?_); refine goesL_ (some 77) rfl rfl Try.func10 (by kernel_rfl) rfl #[.agg #[.bool t133, .bool t134, .bool t135]] rfl (by (try simp only [List.map_toArray, List.map_cons, List.map_nil]); first | done | rfl | (simp only [List.length_drop, List.length_take]; rfl) | (simp [Act.eval, *]; done)) ?_; (with_reducible refine (outage_Outage_Is.calls t133 t134 t135 t139 _ A128.out).mono ?_); rintro e w148 ⟨rfl, hb⟩; refine ⟨_, rfl, ?_⟩; have n0_ := Aside0.mk (blk_below (g := gb120) (o := .cells #[.bool t133, .bool t134, .bool t135] 23 (0, 0)) (by (with_reducible repeat (first | refine blk_drewN ?_ _ | refine blk_drew ?_ | refine blk_alloc ?_ _)); refine blk_put (cs := #[.bool t133, .bool t134, .bool x121002_2]) ?_ 2 _ rfl; (with_reducible repeat (first | refine blk_drewN ?_ _ | refine blk_drew ?_ | refine blk_alloc ?_ _)); refine blk_put (cs := #[.bool t133, .bool x121001_2, .bool x121002_2]) ?_ 1 _ rfl; (with_reducible repeat (first | refine blk_drewN ?_ _ | refine blk_drew ?_ | refine blk_alloc ?_ _)); refine blk_put (cs := #[.bool x121000_2, .bool x121001_2, .bool x121002_2]) ?_ 0 _ rfl; (with_reducible repeat (first | refine blk_drewN ?_ _ | refine blk_drew ?_ | refine blk_alloc ?_ _)); exact BK120.out) hb); have n1_ := Aside0.mk (blk_below (g := gb137) (o := .cells #[.bool t133, .bool t134, .bool t135] 23 (0, 0)) (by (with_reducible repeat (first | refine blk_drewN ?_ _ | refine blk_drew ?_ | refine blk_alloc ?_ _)); refine blk_far ?_ NB137_120.out _; (with_reducible repeat (first | refine blk_drewN ?_ _ | refine blk_drew ?_ | refine blk_alloc ?_ _)); refine blk_far ?_ NB137_120.out _; (with_reducible repeat (first | refine blk_drewN ?_ _ | refine blk_drew ?_ | refine blk_alloc ?_ _)); refine blk_far ?_ NB137_120.out _; (with_reducible repeat (first | refine blk_drewN ?_ _ | refine blk_drew ?_ | refine blk_alloc ?_ _)); exact BK137.out) hb); have n2_ := Aside0.mk (below_step (by repeat (first | (with_reducible first | exact HB.out | apply below_alloc | apply pw_below_drewN | apply below_drew1 | refine below_set ?_ GE120.out | refine below_set ?_ GE137.out) | exact HB.out)) hb); clear BK120; clear BK137; clear HB; have BK120 := n0_; have BK137 := n1_; have HB := n2_; clear n0_ n1_ n2_; (try clear hb); (try clear hb2); (try clear hk); (try clear hi)))
                                          go_roundg kj88
                                          case measure => have := HJ1.out; have := HK2.out; have := HJ13.out; have := HJ49.out; have := HJ88.out; omega
                                          case rel => exact ⟨(false), (true), (x6_2), (wrap64 (x7_2 + 1)), (t133), (t134), (t135), (by first | rfl | (simp; done) | (simp [*]; done)), (by first | rfl | (simp; done) | (simp [*]; done)), (by first | rfl | (simp; done) | (simp [*]; done)), (by first | rfl | (simp; done) | (simp [*]; done)), H', ⟨by have := HJ1.out; have := HK2.out; have := HJ13.out; have := HJ49.out; have := HJ88.out; omega⟩, ⟨by (with_reducible repeat (first | refine blk_drewN ?_ _ | refine blk_drew ?_ | refine blk_alloc ?_ _)); exact BK120.out⟩, ⟨by repeat (first | (with_reducible first | exact HB.out | apply below_alloc | apply pw_below_drewN | apply below_drew1 | refine below_set ?_ GE120.out | refine below_set ?_ GE137.out) | exact HB.out)⟩⟩
                                      · replace c139 := Bool.eq_false_iff.mpr c139
                                        subst c139
                                        have H1 : (if (t139 != x6_2) = true then (some false) else (signalmanlaw15_OutagePlays.l0 kj88 l0 false false x6_2 (wrap64 (x7_2 + 1)) t133 t134 t135)) = some r := by rw [if_neg (show ¬ (false = true) by decide)] at H; exact H
                                        clear H
                                        have H := H1
                                        clear H1
                                        by_cases c149 : (t139 != x6_2) = true
                                        · rw [if_pos c149] at H
                                          have c149b0 : (t139 != x6_2) = true := c149
                                          (try (have c149b1 : decide (t139 = x6_2) = false := by simpa using c149))
                                          (try (have c149b2 : (t139 == x6_2) = false := by simpa using c149))
                                          (try (have c149b3 : ¬ (t139 = x6_2) := by simpa using c149))
                                          clear c149
                                          obtain rfl := Option.some.inj H
                                          have hnb150 := NB137_120.out
                                          have hnc150 := NB120_137.out
                                          have hcz151_0 : wc.cell? ⟨gb137, 0, none⟩ = some (.bool t133) := (blk_cell BK137.out 0).trans rfl
                                          have hcz151_1 : wc.cell? ⟨gb137, 1, none⟩ = some (.bool t134) := (blk_cell BK137.out 1).trans rfl
                                          have hcz151_2 : wc.cell? ⟨gb137, 2, none⟩ = some (.bool t135) := (blk_cell BK137.out 2).trans rfl
                                          have hfz151_0 := blk_frozen BK137.out 0
                                          have hfz151_1 := blk_frozen BK137.out 1
                                          have hfz151_2 := blk_frozen BK137.out 2
                                          have hcz152_0 : wc.cell? ⟨gb120, 0, none⟩ = some (.bool x121000_2) := (blk_cell BK120.out 0).trans rfl
                                          have hcz152_1 : wc.cell? ⟨gb120, 1, none⟩ = some (.bool x121001_2) := (blk_cell BK120.out 1).trans rfl
                                          have hcz152_2 : wc.cell? ⟨gb120, 2, none⟩ = some (.bool x121002_2) := (blk_cell BK120.out 2).trans rfl
                                          have hfz152_0 := blk_frozen BK120.out 0
                                          have hfz152_1 := blk_frozen BK120.out 1
                                          have hfz152_2 := blk_frozen BK120.out 2
                                          go_wp2_with (first | ((with_reducible refine gate_callee (f := 10) rfl ?_); refine goesL_ (some 77) rfl rfl Try.func10 (by kernel_rfl) rfl #[.agg #[.bool t133, .bool t134, .bool t135]] rfl (by (try simp only [List.map_toArray, List.map_cons, List.map_nil]); first | done | rfl | (simp only [List.length_drop, List.length_take]; rfl) | (simp [Act.eval, *]; done)) ?_; (with_reducible refine (outage_Outage_Is.calls t133 t134 t135 t139 _ A128.out).mono ?_); rintro e w153 ⟨rfl, hb⟩; refine ⟨_, rfl, ?_⟩; have n0_ := Aside0.mk (blk_below (g := gb120) (o := .cells #[.bool t133, .bool t134, .bool t135] 23 (0, 0)) (by (with_reducible repeat (first | refine blk_drewN ?_ _ | refine blk_drew ?_ | refine blk_alloc ?_ _)); refine blk_put (cs := #[.bool t133, .bool t134, .bool x121002_2]) ?_ 2 _ rfl; (with_reducible repeat (first | refine blk_drewN ?_ _ | refine blk_drew ?_ | refine blk_alloc ?_ _)); refine blk_put (cs := #[.bool t133, .bool x121001_2, .bool x121002_2]) ?_ 1 _ rfl; (with_reducible repeat (first | refine blk_drewN ?_ _ | refine blk_drew ?_ | refine blk_alloc ?_ _)); refine blk_put (cs := #[.bool x121000_2, .bool x121001_2, .bool x121002_2]) ?_ 0 _ rfl; (with_reducible repeat (first | refine blk_drewN ?_ _ | refine blk_drew ?_ | refine blk_alloc ?_ _)); exact BK120.out) hb); have n1_ := Aside0.mk (blk_below (g := gb137) (o := .cells #[.bool t133, .bool t134, .bool t135] 23 (0, 0)) (by (with_reducible repeat (first | refine blk_drewN ?_ _ | refine blk_drew ?_ | refine blk_alloc ?_ _)); refine blk_far ?_ NB137_120.out _; (with_reducible repeat (first | refine blk_drewN ?_ _ | refine blk_drew ?_ | refine blk_alloc ?_ _)); refine blk_far ?_ NB137_120.out _; (with_reducible repeat (first | refine blk_drewN ?_ _ | refine blk_drew ?_ | refine blk_alloc ?_ _)); refine blk_far ?_ NB137_120.out _; (with_reducible repeat (first | refine blk_drewN ?_ _ | refine blk_drew ?_ | refine blk_alloc ?_ _)); exact BK137.out) hb); have n2_ := Aside0.mk (below_step (by repeat (first | (with_reducible first | exact HB.out | apply below_alloc | apply pw_below_drewN | apply below_drew1 | refine below_set ?_ GE120.out | refine below_set ?_ GE137.out) | exact HB.out)) hb); clear BK120; clear BK137; clear HB; have BK120 := n0_; have BK137 := n1_; have HB := n2_; clear n0_ n1_ n2_; (try clear hb); (try clear hb2); (try clear hk); (try clear hi)))
                                          go_ret
                                          exact ⟨by first | rfl | (simp [errW_none, errW_some] <;> rfl) | (simp [*, errW_none, errW_some] <;> rfl), by repeat (first | (with_reducible first | exact HB.out | apply below_alloc | apply pw_below_drewN | apply below_drew1 | refine below_set ?_ GE120.out | refine below_set ?_ GE137.out) | exact HB.out)⟩
                                        · rw [if_neg c149] at H
                                          have c149b0 : (t139 != x6_2) = false := by simpa using c149
                                          (try (have c149b1 : decide (t139 = x6_2) = true := by simpa using c149))
                                          (try (have c149b2 : (t139 == x6_2) = true := by simpa using c149))
                                          clear c149
                                          have H' := Aside0.mk H
                                          clear H
                                          have hnb154 := NB137_120.out
                                          have hnc154 := NB120_137.out
                                          have hcz155_0 : wc.cell? ⟨gb137, 0, none⟩ = some (.bool t133) := (blk_cell BK137.out 0).trans rfl
                                          have hcz155_1 : wc.cell? ⟨gb137, 1, none⟩ = some (.bool t134) := (blk_cell BK137.out 1).trans rfl
                                          have hcz155_2 : wc.cell? ⟨gb137, 2, none⟩ = some (.bool t135) := (blk_cell BK137.out 2).trans rfl
                                          have hfz155_0 := blk_frozen BK137.out 0
                                          have hfz155_1 := blk_frozen BK137.out 1
                                          have hfz155_2 := blk_frozen BK137.out 2
                                          have hcz156_0 : wc.cell? ⟨gb120, 0, none⟩ = some (.bool x121000_2) := (blk_cell BK120.out 0).trans rfl
                                          have hcz156_1 : wc.cell? ⟨gb120, 1, none⟩ = some (.bool x121001_2) := (blk_cell BK120.out 1).trans rfl
                                          have hcz156_2 : wc.cell? ⟨gb120, 2, none⟩ = some (.bool x121002_2) := (blk_cell BK120.out 2).trans rfl
                                          have hfz156_0 := blk_frozen BK120.out 0
                                          have hfz156_1 := blk_frozen BK120.out 1
                                          have hfz156_2 := blk_frozen BK120.out 2
                                          go_wp2_with (first | ((with_reducible refine gate_callee (f := 10) rfl ?_); refine goesL_ (some 77) rfl rfl Try.func10 (by kernel_rfl) rfl #[.agg #[.bool t133, .bool t134, .bool t135]] rfl (by (try simp only [List.map_toArray, List.map_cons, List.map_nil]); first | done | rfl | (simp only [List.length_drop, List.length_take]; rfl) | (simp [Act.eval, *]; done)) ?_; (with_reducible refine (outage_Outage_Is.calls t133 t134 t135 t139 _ A128.out).mono ?_); rintro e w157 ⟨rfl, hb⟩; refine ⟨_, rfl, ?_⟩; have n0_ := Aside0.mk (blk_below (g := gb120) (o := .cells #[.bool t133, .bool t134, .bool t135] 23 (0, 0)) (by (with_reducible repeat (first | refine blk_drewN ?_ _ | refine blk_drew ?_ | refine blk_alloc ?_ _)); refine blk_put (cs := #[.bool t133, .bool t134, .bool x121002_2]) ?_ 2 _ rfl; (with_reducible repeat (first | refine blk_drewN ?_ _ | refine blk_drew ?_ | refine blk_alloc ?_ _)); refine blk_put (cs := #[.bool t133, .bool x121001_2, .bool x121002_2]) ?_ 1 _ rfl; (with_reducible repeat (first | refine blk_drewN ?_ _ | refine blk_drew ?_ | refine blk_alloc ?_ _)); refine blk_put (cs := #[.bool x121000_2, .bool x121001_2, .bool x121002_2]) ?_ 0 _ rfl; (with_reducible repeat (first | refine blk_drewN ?_ _ | refine blk_drew ?_ | refine blk_alloc ?_ _)); exact BK120.out) hb); have n1_ := Aside0.mk (blk_below (g := gb137) (o := .cells #[.bool t133, .bool t134, .bool t135] 23 (0, 0)) (by (with_reducible repeat (first | refine blk_drewN ?_ _ | refine blk_drew ?_ | refine blk_alloc ?_ _)); refine blk_far ?_ NB137_120.out _; (with_reducible repeat (first | refine blk_drewN ?_ _ | refine blk_drew ?_ | refine blk_alloc ?_ _)); refine blk_far ?_ NB137_120.out _; (with_reducible repeat (first | refine blk_drewN ?_ _ | refine blk_drew ?_ | refine blk_alloc ?_ _)); refine blk_far ?_ NB137_120.out _; (with_reducible repeat (first | refine blk_drewN ?_ _ | refine blk_drew ?_ | refine blk_alloc ?_ _)); exact BK137.out) hb); have n2_ := Aside0.mk (below_step (by repeat (first | (with_reducible first | exact HB.out | apply below_alloc | apply pw_below_drewN | apply below_drew1 | refine below_set ?_ GE120.out | refine below_set ?_ GE137.out) | exact HB.out)) hb); clear BK120; clear BK137; clear HB; have BK120 := n0_; have BK137 := n1_; have HB := n2_; clear n0_ n1_ n2_; (try clear hb); (try clear hb2); (try clear hk); (try clear hi)))
                                          go_roundg kj88
                                          case measure => have := HJ1.out; have := HK2.out; have := HJ13.out; have := HJ49.out; have := HJ88.out; omega
                                          case rel => exact ⟨(false), (false), (x6_2), (wrap64 (x7_2 + 1)), (t133), (t134), (t135), (by first | rfl | (simp; done) | (simp [*]; done)), (by first | rfl | (simp; done) | (simp [*]; done)), (by first | rfl | (simp; done) | (simp [*]; done)), (by first | rfl | (simp; done) | (simp [*]; done)), H', ⟨by have := HJ1.out; have := HK2.out; have := HJ13.out; have := HJ49.out; have := HJ88.out; omega⟩, ⟨by (with_reducible repeat (first | refine blk_drewN ?_ _ | refine blk_drew ?_ | refine blk_alloc ?_ _)); exact BK120.out⟩, ⟨by repeat (first | (with_reducible first | exact HB.out | apply below_alloc | apply pw_below_drewN | apply below_drew1 | refine below_set ?_ GE120.out | refine below_set ?_ GE137.out) | exact HB.out)⟩⟩
              · rw [if_neg c13] at H
                exact absurd H (by simp)
            · rw [if_neg c12] at H
              have c12b0 : decide (x7_2 < (l0.length : Int)) = false := decide_eq_false c12
              clear c12
              obtain rfl := Option.some.inj H
              go_wp2
              go_ret
              exact ⟨by first | rfl | (simp [errW_none, errW_some] <;> rfl) | (simp [*, errW_none, errW_some] <;> rfl), by repeat (first | (with_reducible first | exact HB.out | apply below_alloc | apply pw_below_drewN | apply below_drew1 | refine below_set ?_ GE120.out) | exact HB.out)⟩

/-- THE ONE PURE STATEMENT of signalmanlaw15_OutagePlays: yours. -/
def signalmanlaw15_OutagePlays.Pure : Prop := ∀ (l0 : List Int), l0.length ≤ maxLen → l0.length * 1 ≤ 140737488351232 → (∀ x ∈ l0, (Lit.int .u8 x).wf = true) → ∃ k, signalmanlaw15_OutagePlays.f k l0 = some true
theorem signalmanlaw15_OutagePlays.walk (P : signalmanlaw15_OutagePlays.Pure) (a0 : Option Addr) (len0 cap0 : Nat) (z0 : List Int) (w : World) (w0 : (a0 = none ∧ len0 = 0 ∧ cap0 = 0 ∧ z0 = []) ∨ ∃ x, a0 = some x ∧ len0 ≤ cap0 ∧ cap0 ≤ maxLen ∧ z0.length = cap0 ∧ (∀ i, i < z0.length → w.cell? (x.add i) = some (.int .u8 (z0.getD i 0))) ∧ ∀ n ∈ z0, (Lit.int .u8 n).wf = true) (y0 : len0 * 1 ≤ 140737488351232) :
    Calls Try.prog 4 #[.slice a0 len0 cap0] w fun e w' => e = .returned (.bool true) ∧ Below w.heap.size w w' := by
  obtain ⟨l0, rfl, hr0, hm0, hw0, hc0⟩ := ReadsInt.ofRowC w0
  obtain ⟨k, h⟩ := P l0 hm0 y0 hw0
  refine (signalmanlaw15_OutagePlays.calls k _ _ l0 true w (Kd.C_of_reads (d := (0 : Int)) (h1 := fun _ => rfl) hr0) hc0 h).mono ?_
  rintro e w' ⟨rfl, hd⟩
  exact ⟨rfl, hd⟩

end Go.Proofs.Ytlimjjfcbmjlfaa.MOutagePlays
