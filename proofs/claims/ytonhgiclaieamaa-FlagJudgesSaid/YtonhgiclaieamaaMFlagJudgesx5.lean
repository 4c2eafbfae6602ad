/- A part of the proof of the given statement that each law names; no condition. Written by a program of this session's own (wip/tools/myprint.py, over the kit's print); Lean checks it. -/
import Derived.Test.YtonhgiclaieamaaMFlagJudgesx0
import Derived.Test.YtonhgiclaieamaaMFlagJudgesx2
import Derived.Test.YtonhgiclaieamaaMFlagJudgesx3
import Derived.Test.YtonhgiclaieamaaMFlagJudgesx4
namespace Go.Proofs.Ytonhgiclaieamaa.MFlagJudges
open Go.RowKit Go.Proofs.Ytonhgiclaieamaa Go.Proofs.YtonhgiclaieamaaW.PrintWords Go.Proofs.YtonhgiclaieamaaW.PrintLast Go.Proofs.YtonhgiclaieamaaW.PrintMore
attribute [local go_sem] max2_int min2_int max_two min_two max_three min_three max_four min_four   -- for this text's walks alone
set_option linter.unusedVariables false
set_option linter.unusedSimpArgs false

/-! ### signalmanlaw05_FlagJudges: function 4 -/
mutual
def signalmanlaw05_FlagJudges.j0 : Nat → List Int → Int → Bool → Int → Int → Bool → Option (Bool)
  | 0, _, _, _, _, _, _ => none
  | k + 1, x0, x1, x2, x3, x4, x24 => if x24 = true then ((signalmanlaw05_awake.f k).bind fun t226 => (some t226)) else ((signalmanref01_Bits.f k x0).bind fun t227 => (if x2 = true then ((signalmanref01_Whole.f k x0).bind fun t230 => ((signalmanref01_Bits.f k t230).bind fun t233 => ((signalmanref01_Put.f k t233).bind fun t236 => (signalmanlaw05_FlagJudges.j1 k x1 x3 x4 t236)))) else (signalmanlaw05_FlagJudges.j1 k x1 x3 x4 t227)))
def signalmanlaw05_FlagJudges.j1 : Nat → Int → Int → Int → List Bool → Option (Bool)
  | 0, _, _, _, _ => none
  | k + 1, x1, x3, x4, x11 => signalmanlaw05_FlagJudges.l0 k x1 x3 x4 x11 0
def signalmanlaw05_FlagJudges.l0 : Nat → Int → Int → Int → List Bool → Int → Option (Bool)
  | 0, _, _, _, _, _ => none
  | k + 1, x1, x3, x4, x11, x12 => if x12 < 16 then (signalmanlaw05_FlagJudges.j3 k x1 x3 x4 x11 x12 (decide ((x11.length : Int) > 0))) else (signalmanlaw05_FlagJudges.j3 k x1 x3 x4 x11 x12 false)
def signalmanlaw05_FlagJudges.j3 : Nat → Int → Int → Int → List Bool → Int → Bool → Option (Bool)
  | 0, _, _, _, _, _, _ => none
  | k + 1, x1, x3, x4, x11, x12, x39 => if x39 = true then (if (x11.length : Int) = 0 then (none) else (if 0 ≤ x12 then (if (Int.tmod (shr .u16 x4 x12) 2) = 1 then (if 0 ≤ (Int.tmod (wrap64 ((wrap64 (x3)) + x12)) (x11.length : Int)) then (if (Int.tmod (wrap64 ((wrap64 (x3)) + x12)) (x11.length : Int)) < (x11.length : Int) then (signalmanlaw05_FlagJudges.l0 k x1 x3 x4 (x11.set ((Int.tmod (wrap64 ((wrap64 (x3)) + x12)) (x11.length : Int)) : Int).toNat (!(rdOf false x11 (Int.tmod (wrap64 ((wrap64 (x3)) + x12)) (x11.length : Int))))) (wrap64 (x12 + 1))) else (none)) else (none)) else (signalmanlaw05_FlagJudges.l0 k x1 x3 x4 x11 (wrap64 (x12 + 1)))) else (none))) else (if (wrap64 ((x11.length : Int) + 1)) = 0 then (none) else (if 0 ≤ (wrap64 ((x11.length : Int) - (Int.tmod (wrap64 (x1)) (wrap64 ((x11.length : Int) + 1))))) then (if (wrap64 ((x11.length : Int) - (Int.tmod (wrap64 (x1)) (wrap64 ((x11.length : Int) + 1))))) ≤ (x11.length : Int) then ((some (x11.take ((wrap64 ((x11.length : Int) - (Int.tmod (wrap64 (x1)) (wrap64 ((x11.length : Int) + 1))))) : Int).toNat : List Bool)).bind fun y241 => ((flag_Judge.f k y241).bind fun bt244 => ((signalmanref01_Judge.f k y241).bind fun bt248 => (if bt244.2 = bt248.2 then (some ((strOfNums bt244.1).toList == (strOfNums bt248.1).toList)) else (some false))))) else (none)) else (none)))
end
def signalmanlaw05_FlagJudges.f (k : Nat) (l0 : List Int) (a1 : Int) (a2 : Bool) (a3 : Int) (a4 : Int) : Option (Bool) := (signalmanlaw05_awake.f k).bind fun t225 => (if t225 = true then (signalmanlaw05_FlagJudges.j0 k l0 a1 a2 a3 a4 (decide ((l0.length : Int) > 100))) else (signalmanlaw05_FlagJudges.j0 k l0 a1 a2 a3 a4 true))
theorem signalmanlaw05_FlagJudges.mono_l : ∀ k, (∀ y0 y1 y2 y3 y4 y5, LeO (signalmanlaw05_FlagJudges.j0 k y0 y1 y2 y3 y4 y5) (signalmanlaw05_FlagJudges.j0 (k + 1) y0 y1 y2 y3 y4 y5)) ∧ (∀ y0 y1 y2 y3, LeO (signalmanlaw05_FlagJudges.j1 k y0 y1 y2 y3) (signalmanlaw05_FlagJudges.j1 (k + 1) y0 y1 y2 y3)) ∧ (∀ y0 y1 y2 y3 y4, LeO (signalmanlaw05_FlagJudges.l0 k y0 y1 y2 y3 y4) (signalmanlaw05_FlagJudges.l0 (k + 1) y0 y1 y2 y3 y4)) ∧ (∀ y0 y1 y2 y3 y4 y5, LeO (signalmanlaw05_FlagJudges.j3 k y0 y1 y2 y3 y4 y5) (signalmanlaw05_FlagJudges.j3 (k + 1) y0 y1 y2 y3 y4 y5))
  | 0 => ⟨fun _ _ _ _ _ _ r h => by simp [signalmanlaw05_FlagJudges.j0] at h, fun _ _ _ _ r h => by simp [signalmanlaw05_FlagJudges.j1] at h, fun _ _ _ _ _ r h => by simp [signalmanlaw05_FlagJudges.l0] at h, fun _ _ _ _ _ _ r h => by simp [signalmanlaw05_FlagJudges.j3] at h⟩
  | k + 1 => by
    obtain ⟨ih0, ih1, ih2, ih3⟩ := signalmanlaw05_FlagJudges.mono_l k
    refine ⟨?_, ?_, ?_, ?_⟩
    · intro y0 y1 y2 y3 y4 y5
      unfold signalmanlaw05_FlagJudges.j0
      repeat' first
      | (with_reducible exact ih0 _ _ _ _ _ _)
      | (with_reducible exact ih1 _ _ _ _)
      | (with_reducible exact ih2 _ _ _ _ _)
      | (with_reducible exact ih3 _ _ _ _ _ _)
      | (with_reducible exact flag_Judge.mono _ _)
      | (with_reducible exact signalmanlaw05_awake.mono _)
      | (with_reducible exact signalmanref01_Bits.mono _ _)
      | (with_reducible exact signalmanref01_Judge.mono _ _)
      | (with_reducible exact signalmanref01_Put.mono _ _)
      | (with_reducible exact signalmanref01_Whole.mono _ _)
      | (with_reducible exact LeO.refl _)
      | (with_reducible exact LeO.none _)
      | (with_reducible refine LeO.ite ?_ ?_)
      | (with_reducible refine LeO.bind ?_ (fun _ => ?_))
      | exact ih0 _ _ _ _ _ _
      | exact ih1 _ _ _ _
      | exact ih2 _ _ _ _ _
      | exact ih3 _ _ _ _ _ _
      | exact flag_Judge.mono _ _
      | exact signalmanlaw05_awake.mono _
      | exact signalmanref01_Bits.mono _ _
      | exact signalmanref01_Judge.mono _ _
      | exact signalmanref01_Put.mono _ _
      | exact signalmanref01_Whole.mono _ _
      | exact LeO.none _
      | refine LeO.ite ?_ ?_
      | refine LeO.bind ?_ (fun _ => ?_)
    · intro y0 y1 y2 y3
      unfold signalmanlaw05_FlagJudges.j1
      repeat' first
      | (with_reducible exact ih0 _ _ _ _ _ _)
      | (with_reducible exact ih1 _ _ _ _)
      | (with_reducible exact ih2 _ _ _ _ _)
      | (with_reducible exact ih3 _ _ _ _ _ _)
      | (with_reducible exact flag_Judge.mono _ _)
      | (with_reducible exact signalmanlaw05_awake.mono _)
      | (with_reducible exact signalmanref01_Bits.mono _ _)
      | (with_reducible exact signalmanref01_Judge.mono _ _)
      | (with_reducible exact signalmanref01_Put.mono _ _)
      | (with_reducible exact signalmanref01_Whole.mono _ _)
      | (with_reducible exact LeO.refl _)
      | (with_reducible exact LeO.none _)
      | (with_reducible refine LeO.ite ?_ ?_)
      | (with_reducible refine LeO.bind ?_ (fun _ => ?_))
      | exact ih0 _ _ _ _ _ _
      | exact ih1 _ _ _ _
      | exact ih2 _ _ _ _ _
      | exact ih3 _ _ _ _ _ _
      | exact flag_Judge.mono _ _
      | exact signalmanlaw05_awake.mono _
      | exact signalmanref01_Bits.mono _ _
      | exact signalmanref01_Judge.mono _ _
      | exact signalmanref01_Put.mono _ _
      | exact signalmanref01_Whole.mono _ _
      | exact LeO.none _
      | refine LeO.ite ?_ ?_
      | refine LeO.bind ?_ (fun _ => ?_)
    · intro y0 y1 y2 y3 y4
      unfold signalmanlaw05_FlagJudges.l0
      repeat' first
      | (with_reducible exact ih0 _ _ _ _ _ _)
      | (with_reducible exact ih1 _ _ _ _)
      | (with_reducible exact ih2 _ _ _ _ _)
      | (with_reducible exact ih3 _ _ _ _ _ _)
      | (with_reducible exact flag_Judge.mono _ _)
      | (with_reducible exact signalmanlaw05_awake.mono _)
      | (with_reducible exact signalmanref01_Bits.mono _ _)
      | (with_reducible exact signalmanref01_Judge.mono _ _)
      | (with_reducible exact signalmanref01_Put.mono _ _)
      | (with_reducible exact signalmanref01_Whole.mono _ _)
      | (with_reducible exact LeO.refl _)
      | (with_reducible exact LeO.none _)
      | (with_reducible refine LeO.ite ?_ ?_)
      | (with_reducible refine LeO.bind ?_ (fun _ => ?_))
      | exact ih0 _ _ _ _ _ _
      | exact ih1 _ _ _ _
      | exact ih2 _ _ _ _ _
      | exact ih3 _ _ _ _ _ _
      | exact flag_Judge.mono _ _
      | exact signalmanlaw05_awake.mono _
      | exact signalmanref01_Bits.mono _ _
      | exact signalmanref01_Judge.mono _ _
      | exact signalmanref01_Put.mono _ _
      | exact signalmanref01_Whole.mono _ _
      | exact LeO.none _
      | refine LeO.ite ?_ ?_
      | refine LeO.bind ?_ (fun _ => ?_)
    · intro y0 y1 y2 y3 y4 y5
      unfold signalmanlaw05_FlagJudges.j3
      repeat' first
      | (with_reducible exact ih0 _ _ _ _ _ _)
      | (with_reducible exact ih1 _ _ _ _)
      | (with_reducible exact ih2 _ _ _ _ _)
      | (with_reducible exact ih3 _ _ _ _ _ _)
      | (with_reducible exact flag_Judge.mono _ _)
      | (with_reducible exact signalmanlaw05_awake.mono _)
      | (with_reducible exact signalmanref01_Bits.mono _ _)
      | (with_reducible exact signalmanref01_Judge.mono _ _)
      | (with_reducible exact signalmanref01_Put.mono _ _)
      | (with_reducible exact signalmanref01_Whole.mono _ _)
      | (with_reducible exact LeO.refl _)
      | (with_reducible exact LeO.none _)
      | (with_reducible refine LeO.ite ?_ ?_)
      | (with_reducible refine LeO.bind ?_ (fun _ => ?_))
      | exact ih0 _ _ _ _ _ _
      | exact ih1 _ _ _ _
      | exact ih2 _ _ _ _ _
      | exact ih3 _ _ _ _ _ _
      | exact flag_Judge.mono _ _
      | exact signalmanlaw05_awake.mono _
      | exact signalmanref01_Bits.mono _ _
      | exact signalmanref01_Judge.mono _ _
      | exact signalmanref01_Put.mono _ _
      | exact signalmanref01_Whole.mono _ _
      | exact LeO.none _
      | refine LeO.ite ?_ ?_
      | refine LeO.bind ?_ (fun _ => ?_)
theorem signalmanlaw05_FlagJudges.mono : ∀ a0 a1 a2 a3 a4 k, LeO (signalmanlaw05_FlagJudges.f k a0 a1 a2 a3 a4) (signalmanlaw05_FlagJudges.f (k + 1) a0 a1 a2 a3 a4) := by
  intro a0 a1 a2 a3 a4 k
  obtain ⟨ih0, ih1, ih2, ih3⟩ := signalmanlaw05_FlagJudges.mono_l k
  unfold signalmanlaw05_FlagJudges.f
  repeat' first
      | (with_reducible exact ih0 _ _ _ _ _ _)
      | (with_reducible exact ih1 _ _ _ _)
      | (with_reducible exact ih2 _ _ _ _ _)
      | (with_reducible exact ih3 _ _ _ _ _ _)
      | (with_reducible exact flag_Judge.mono _ _)
      | (with_reducible exact signalmanlaw05_awake.mono _)
      | (with_reducible exact signalmanref01_Bits.mono _ _)
      | (with_reducible exact signalmanref01_Judge.mono _ _)
      | (with_reducible exact signalmanref01_Put.mono _ _)
      | (with_reducible exact signalmanref01_Whole.mono _ _)
      | (with_reducible exact LeO.refl _)
      | (with_reducible exact LeO.none _)
      | (with_reducible refine LeO.ite ?_ ?_)
      | (with_reducible refine LeO.bind ?_ (fun _ => ?_))
      | exact ih0 _ _ _ _ _ _
      | exact ih1 _ _ _ _
      | exact ih2 _ _ _ _ _
      | exact ih3 _ _ _ _ _ _
      | exact flag_Judge.mono _ _
      | exact signalmanlaw05_awake.mono _
      | exact signalmanref01_Bits.mono _ _
      | exact signalmanref01_Judge.mono _ _
      | exact signalmanref01_Put.mono _ _
      | exact signalmanref01_Whole.mono _ _
      | exact LeO.none _
      | refine LeO.ite ?_ ?_
      | refine LeO.bind ?_ (fun _ => ?_)
set_option maxHeartbeats 8000000 in
set_option maxRecDepth 100000 in
theorem signalmanlaw05_FlagJudges.calls (k : Nat) (A0 : Option Addr) (c0 : Nat) (l0 : List Int) (a1 : Int) (a2 : Bool) (a3 : Int) (a4 : Int) (r : Bool) (w : World) (hr0 : Kd.C (Kd.int .u8) w A0 l0.length l0) (hc0 : l0.length ≤ c0) (h : signalmanlaw05_FlagJudges.f k l0 a1 a2 a3 a4 = some r) :
    Calls Try.prog 4 #[.slice A0 l0.length c0, .int .u8 a1, .bool a2, .int .u16 a3, .int .u16 a4] w fun e w' => e = .returned (.bool r) ∧ Below w.heap.size w w' := by
  have HR0 := Aside0.mk hr0
  have HC0 := Aside0.mk hc0
  clear hr0 hc0
  have HB := Aside0.mk (Below.refl w.heap.size w)
  have H : ((signalmanlaw05_awake.f k).bind fun t225 => (if t225 = true then (signalmanlaw05_FlagJudges.j0 k l0 a1 a2 a3 a4 (decide ((l0.length : Int) > 100))) else (signalmanlaw05_FlagJudges.j0 k l0 a1 a2 a3 a4 true))) = some r := h
  clear h
  have HC6 := Aside0.mk H
  clear H
  go_enter Try.func4, Try.ntmps4
  go_upto_region 1 with (fail)
  go_cut [24] (fun v24 wc => ∃ (kq : Nat) (x24_5 : Bool), v24 = .bool x24_5 ∧ Aside0 (signalmanlaw05_FlagJudges.j0 kq l0 a1 a2 a3 a4 x24_5 = some r) ∧ Aside0 (kq ≤ k) ∧ Aside0 (Below w.heap.size w wc))
  case first =>
    have H := HC6.out
    clear HC6
    replace H := Option.bind_eq_some_iff.mp H
    obtain ⟨t225, A70, H⟩ := H
    replace H : (if t225 = true then (signalmanlaw05_FlagJudges.j0 k l0 a1 a2 a3 a4 (decide ((l0.length : Int) > 100))) else (signalmanlaw05_FlagJudges.j0 k l0 a1 a2 a3 a4 true)) = some r := H
    have A7 := Aside0.mk A70
    clear A70
    by_cases c8 : t225 = true
    · subst c8
      have H1 : (signalmanlaw05_FlagJudges.j0 k l0 a1 a2 a3 a4 (decide ((l0.length : Int) > 100))) = some r := by rw [if_pos rfl] at H; exact H
      clear H
      have H := H1
      clear H1
      have H' := Aside0.mk H
      clear H
      go_wp2_with (first | ((with_reducible refine gate_callee (f := 9) rfl ?_); refine goesL_ (some 18) rfl rfl Try.func9 (by kernel_rfl) rfl #[] rfl (by (try simp only [List.map_toArray, List.map_cons, List.map_nil]); first | done | rfl | (simp only [List.length_drop, List.length_take]; rfl) | (simp [Act.eval, *]; done)) ?_; (with_reducible refine (signalmanlaw05_awake.calls k  true _ A7.out).mono ?_); rintro e w9 ⟨rfl, hb⟩; refine ⟨_, rfl, ?_⟩; have n0_ := Aside0.mk (below_step (by repeat (first | (with_reducible first | exact HB.out | apply below_alloc | apply pw_below_drewN | apply below_drew1) | exact HB.out)) hb); clear HB; have HB := n0_; clear n0_; (try clear hb); (try clear hb2); (try clear hk); (try clear hi)))
      go_meet
      case rel => exact ⟨_, (decide ((l0.length : Int) > 100)), (by first | rfl | (simp; done) | (simp [*]; done) | (simp; omega)), H', ⟨by first | omega | exact Nat.le_refl _⟩, ⟨by repeat (first | (with_reducible first | exact HB.out | apply below_alloc | apply pw_below_drewN | apply below_drew1) | exact HB.out)⟩⟩
    · replace c8 := Bool.eq_false_iff.mpr c8
      subst c8
      have H1 : (signalmanlaw05_FlagJudges.j0 k l0 a1 a2 a3 a4 true) = some r := by rw [if_neg (show ¬ (false = true) by decide)] at H; exact H
      clear H
      have H := H1
      clear H1
      have H' := Aside0.mk H
      clear H
      go_wp2_with (first | ((with_reducible refine gate_callee (f := 9) rfl ?_); refine goesL_ (some 18) rfl rfl Try.func9 (by kernel_rfl) rfl #[] rfl (by (try simp only [List.map_toArray, List.map_cons, List.map_nil]); first | done | rfl | (simp only [List.length_drop, List.length_take]; rfl) | (simp [Act.eval, *]; done)) ?_; (with_reducible refine (signalmanlaw05_awake.calls k  false _ A7.out).mono ?_); rintro e w10 ⟨rfl, hb⟩; refine ⟨_, rfl, ?_⟩; have n0_ := Aside0.mk (below_step (by repeat (first | (with_reducible first | exact HB.out | apply below_alloc | apply pw_below_drewN | apply below_drew1) | exact HB.out)) hb); clear HB; have HB := n0_; clear n0_; (try clear hb); (try clear hb2); (try clear hk); (try clear hi)))
      go_meet
      case rel => exact ⟨_, (true), (by first | rfl | (simp; done) | (simp [*]; done) | (simp; omega)), H', ⟨by first | omega | exact Nat.le_refl _⟩, ⟨by repeat (first | (with_reducible first | exact HB.out | apply below_alloc | apply pw_below_drewN | apply below_drew1) | exact HB.out)⟩⟩
  case rest =>
    clear HC6
    try clear p2
    try clear c4
    try clear c8
    try clear c9
    obtain ⟨kq, x24_5, rfl, HA, HJ5, HB⟩ := hcut
    cases kq with
    | zero => exact absurd HA.out (by simp [signalmanlaw05_FlagJudges.j0])
    | succ kj5 =>
      have H := HA.out
      clear HA
      simp only [signalmanlaw05_FlagJudges.j0] at H
      by_cases c11 : x24_5 = true
      · subst c11
        have H1 : ((signalmanlaw05_awake.f kj5).bind fun t226 => (some t226)) = some r := by rw [if_pos rfl] at H; exact H
        clear H
        have H := H1
        clear H1
        replace H := Option.bind_eq_some_iff.mp H
        obtain ⟨t226, A120, H⟩ := H
        replace H : (some t226) = some r := H
        have A12 := Aside0.mk A120
        clear A120
        obtain rfl := Option.some.inj H
        go_wp2_with (first | ((with_reducible refine gate_callee (f := 9) rfl ?_); refine goesL_ (some 25) rfl rfl Try.func9 (by kernel_rfl) rfl #[] rfl (by (try simp only [List.map_toArray, List.map_cons, List.map_nil]); first | done | rfl | (simp only [List.length_drop, List.length_take]; rfl) | (simp [Act.eval, *]; done)) ?_; (with_reducible refine (signalmanlaw05_awake.calls kj5  t226 _ A12.out).mono ?_); rintro e w13 ⟨rfl, hb⟩; refine ⟨_, rfl, ?_⟩; have n0_ := Aside0.mk (below_step (by repeat (first | (with_reducible first | exact HB.out | apply below_alloc | apply pw_below_drewN | apply below_drew1) | exact HB.out)) hb); clear HB; have HB := n0_; clear n0_; (try clear hb); (try clear hb2); (try clear hk); (try clear hi)))
        go_ret
        exact ⟨by first | rfl | (simp [errW_none, errW_some] <;> rfl) | (simp [*, errW_none, errW_some] <;> rfl), by repeat (first | (with_reducible first | exact HB.out | apply below_alloc | apply pw_below_drewN | apply below_drew1) | exact HB.out)⟩
      · replace c11 := Bool.eq_false_iff.mpr c11
        subst c11
        have H1 : ((signalmanref01_Bits.f kj5 l0).bind fun t227 => (if a2 = true then ((signalmanref01_Whole.f kj5 l0).bind fun t230 => ((signalmanref01_Bits.f kj5 t230).bind fun t233 => ((signalmanref01_Put.f kj5 t233).bind fun t236 => (signalmanlaw05_FlagJudges.j1 kj5 a1 a3 a4 t236)))) else (signalmanlaw05_FlagJudges.j1 kj5 a1 a3 a4 t227))) = some r := by rw [if_neg (show ¬ (false = true) by decide)] at H; exact H
        clear H
        have H := H1
        clear H1
        replace H := Option.bind_eq_some_iff.mp H
        obtain ⟨t227, A140, H⟩ := H
        replace H : (if a2 = true then ((signalmanref01_Whole.f kj5 l0).bind fun t230 => ((signalmanref01_Bits.f kj5 t230).bind fun t233 => ((signalmanref01_Put.f kj5 t233).bind fun t236 => (signalmanlaw05_FlagJudges.j1 kj5 a1 a3 a4 t236)))) else (signalmanlaw05_FlagJudges.j1 kj5 a1 a3 a4 t227)) = some r := H
        have A14 := Aside0.mk A140
        clear A140
        have HC15 := Aside0.mk H
        clear H
        go_upto_if 28 with (first | ((with_reducible refine gate_callee (f := 17) rfl ?_); refine goesL_ (some 27) rfl rfl Try.func17 (by kernel_rfl) rfl #[.slice A0 l0.length c0] rfl (by (try simp only [List.map_toArray, List.map_cons, List.map_nil]); first | done | rfl | (simp only [List.length_drop, List.length_take]; rfl) | (simp [Act.eval, *]; done)) ?_; (with_reducible refine (signalmanref01_Bits.calls kj5 _ _ l0 t227 _ ?side1 ?side2 A14.out).mono ?_); (case side1 => repeat (first | exact (Kd.C_below HR0.out HB.out) | (with_reducible refine Kd.C_alloc ?_ _) | (with_reducible refine Kd.C_drewN ?_ _) | (with_reducible refine Kd.C_drew ?_))); (case side2 => exact HC0.out); rintro e w16 ⟨v228, rfl, ho0, hb⟩; refine ⟨_, rfl, ?_⟩; have n0_ := Aside0.mk (Kd.R_lower ho0 (below_size (by repeat (first | (with_reducible first | exact HB.out | apply below_alloc | apply pw_below_drewN | apply below_drew1) | exact HB.out)))); have n1_ := Aside0.mk (below_step (by repeat (first | (with_reducible first | exact HB.out | apply below_alloc | apply pw_below_drewN | apply below_drew1) | exact HB.out)) hb); clear HB; have HO229 := n0_; have HB := n1_; clear n0_ n1_; (try clear hb); (try clear hb2); (try clear hk); (try clear hi); (try clear ho0)))
        (try simp only [Act.put, List.setIfInBounds_toArray, List.set_cons_zero, List.set_cons_succ])
        go_cut [11] (fun v11 wc => ∃ (kq : Nat) (x11_14 : List Bool), Aside0 (signalmanlaw05_FlagJudges.j1 kq a1 a3 a4 x11_14 = some r) ∧ Aside0 (kq ≤ kj5) ∧ Aside0 (Kd.R Kd.bool 4 wc w.heap.size (fun _ => True) v11 x11_14) ∧ Aside0 (Below w.heap.size w wc))
        case first =>
          have H := HC15.out
          clear HC15
          by_cases c17 : a2 = true
          · subst c17
            have H1 : ((signalmanref01_Whole.f kj5 l0).bind fun t230 => ((signalmanref01_Bits.f kj5 t230).bind fun t233 => ((signalmanref01_Put.f kj5 t233).bind fun t236 => (signalmanlaw05_FlagJudges.j1 kj5 a1 a3 a4 t236)))) = some r := by rw [if_pos rfl] at H; exact H
            clear H
            have H := H1
            clear H1
            replace H := Option.bind_eq_some_iff.mp H
            obtain ⟨t230, A180, H⟩ := H
            replace H : ((signalmanref01_Bits.f kj5 t230).bind fun t233 => ((signalmanref01_Put.f kj5 t233).bind fun t236 => (signalmanlaw05_FlagJudges.j1 kj5 a1 a3 a4 t236))) = some r := H
            have A18 := Aside0.mk A180
            clear A180
            replace H := Option.bind_eq_some_iff.mp H
            obtain ⟨t233, A190, H⟩ := H
            replace H : ((signalmanref01_Put.f kj5 t233).bind fun t236 => (signalmanlaw05_FlagJudges.j1 kj5 a1 a3 a4 t236)) = some r := H
            have A19 := Aside0.mk A190
            clear A190
            replace H := Option.bind_eq_some_iff.mp H
            obtain ⟨t236, A200, H⟩ := H
            replace H : (signalmanlaw05_FlagJudges.j1 kj5 a1 a3 a4 t236) = some r := H
            have A20 := Aside0.mk A200
            clear A200
            have H' := Aside0.mk H
            clear H
            go_wp2_with (first | ((with_reducible refine gate_callee (f := 19) rfl ?_); refine goesL_ (some 30) rfl rfl Try.func19 (by kernel_rfl) rfl #[.slice A0 l0.length c0] rfl (by (try simp only [List.map_toArray, List.map_cons, List.map_nil]); first | done | rfl | (simp only [List.length_drop, List.length_take]; rfl) | (simp [Act.eval, *]; done)) ?_; (with_reducible refine (signalmanref01_Whole.calls kj5 _ _ l0 t230 _ ?side1 ?side2 A18.out).mono ?_); (case side1 => repeat (first | exact (Kd.C_below HR0.out HB.out) | (with_reducible refine Kd.C_alloc ?_ _) | (with_reducible refine Kd.C_drewN ?_ _) | (with_reducible refine Kd.C_drew ?_))); (case side2 => exact HC0.out); rintro e w21 ⟨v231, rfl, ho0, hb⟩; refine ⟨_, rfl, ?_⟩; have n0_ := Aside0.mk (Kd.R_below (by (with_reducible repeat (first | apply Kd.R_alloc | apply Kd.R_drewN | apply Kd.R_drew)); exact HO229.out) hb); have n1_ := Aside0.mk (Kd.R_lower ho0 (below_size (by repeat (first | (with_reducible first | exact HB.out | apply below_alloc | apply pw_below_drewN | apply below_drew1) | exact HB.out)))); have n2_ := Aside0.mk (below_step (by repeat (first | (with_reducible first | exact HB.out | apply below_alloc | apply pw_below_drewN | apply below_drew1) | exact HB.out)) hb); clear HO229; clear HB; have HO229 := n0_; have HO232 := n1_; have HB := n2_; clear n0_ n1_ n2_; (try clear hb); (try clear hb2); (try clear hk); (try clear hi); (try clear ho0); obtain ⟨Ao22, co22, eo22⟩ := Kd.R_slice HO232.out; subst eo22) | ((with_reducible refine gate_callee (f := 17) rfl ?_); refine goesL_ (some 31) rfl rfl Try.func17 (by kernel_rfl) rfl #[.slice Ao22 t230.length co22] rfl (by (try simp only [List.map_toArray, List.map_cons, List.map_nil]); first | done | rfl | (simp only [List.length_drop, List.length_take]; rfl) | (simp [Act.eval, *]; done)) ?_; (with_reducible refine (signalmanref01_Bits.calls kj5 _ _ t230 t233 _ ?side1 ?side2 A19.out).mono ?_); (case side1 => repeat (first | exact (Kd.R_reads' HO232.out).2.2 | (with_reducible refine Kd.C_alloc ?_ _) | (with_reducible refine Kd.C_drewN ?_ _) | (with_reducible refine Kd.C_drew ?_))); (case side2 => exact (Kd.R_reads' HO232.out).2.1); rintro e w23 ⟨v234, rfl, ho0, hb⟩; refine ⟨_, rfl, ?_⟩; have n0_ := Aside0.mk (Kd.R_elder' (by (with_reducible repeat (first | apply Kd.R_alloc | apply Kd.R_drewN | apply Kd.R_drew)); exact HO229.out) (Kd.R_base ho0) hb); have n1_ := Aside0.mk (Kd.R_below (by (with_reducible repeat (first | apply Kd.R_alloc | apply Kd.R_drewN | apply Kd.R_drew)); exact HO232.out) hb); have n2_ := Aside0.mk (Kd.R_lower (Kd.R_new' ho0 (Kd.R_lt (by (with_reducible repeat (first | apply Kd.R_alloc | apply Kd.R_drewN | apply Kd.R_drew)); exact HO229.out))) (below_size (by repeat (first | (with_reducible first | exact HB.out | apply below_alloc | apply pw_below_drewN | apply below_drew1) | exact HB.out)))); have n3_ := Aside0.mk (below_step (by repeat (first | (with_reducible first | exact HB.out | apply below_alloc | apply pw_below_drewN | apply below_drew1) | exact HB.out)) hb); clear HO229; clear HO232; clear HB; have HO229 := n0_; have HO232 := n1_; have HO235 := n2_; have HB := n3_; clear n0_ n1_ n2_ n3_; (try clear hb); (try clear hb2); (try clear hk); (try clear hi); (try clear ho0); obtain ⟨Ao24, co24, eo24⟩ := Kd.R_slice HO235.out; subst eo24) | ((with_reducible refine gate_callee (f := 18) rfl ?_); refine goesL_ (some 32) rfl rfl Try.func18 (by kernel_rfl) rfl #[.slice Ao24 t233.length co24] rfl (by (try simp only [List.map_toArray, List.map_cons, List.map_nil]); first | done | rfl | (simp only [List.length_drop, List.length_take]; rfl) | (simp [Act.eval, *]; done)) ?_; (with_reducible refine (signalmanref01_Put.calls kj5 _ _ t233 t236 _ ?side1 ?side2 A20.out).mono ?_); (case side1 => repeat (first | exact (Kd.R_reads' HO235.out).2.2 | (with_reducible refine Kd.C_alloc ?_ _) | (with_reducible refine Kd.C_drewN ?_ _) | (with_reducible refine Kd.C_drew ?_))); (case side2 => exact (Kd.R_reads' HO235.out).2.1); rintro e w25 ⟨v237, rfl, ho0, hb⟩; refine ⟨_, rfl, ?_⟩; have n0_ := Aside0.mk (Kd.R_elder' (by (with_reducible repeat (first | apply Kd.R_alloc | apply Kd.R_drewN | apply Kd.R_drew)); exact HO229.out) (Kd.R_base ho0) hb); have n1_ := Aside0.mk (Kd.R_below (by (with_reducible repeat (first | apply Kd.R_alloc | apply Kd.R_drewN | apply Kd.R_drew)); exact HO232.out) hb); have n2_ := Aside0.mk (Kd.R_elder' (by (with_reducible repeat (first | apply Kd.R_alloc | apply Kd.R_drewN | apply Kd.R_drew)); exact HO235.out) (Kd.R_base ho0) hb); have n3_ := Aside0.mk (Kd.R_lower (Kd.R_new' (Kd.R_new' ho0 (Kd.R_lt (by (with_reducible repeat (first | apply Kd.R_alloc | apply Kd.R_drewN | apply Kd.R_drew)); exact HO229.out))) (Kd.R_lt (by (with_reducible repeat (first | apply Kd.R_alloc | apply Kd.R_drewN | apply Kd.R_drew)); exact HO235.out))) (below_size (by repeat (first | (with_reducible first | exact HB.out | apply below_alloc | apply pw_below_drewN | apply below_drew1) | exact HB.out)))); have n4_ := Aside0.mk (below_step (by repeat (first | (with_reducible first | exact HB.out | apply below_alloc | apply pw_below_drewN | apply below_drew1) | exact HB.out)) hb); clear HO229; clear HO232; clear HO235; clear HB; have HO229 := n0_; have HO232 := n1_; have HO235 := n2_; have HO238 := n3_; have HB := n4_; clear n0_ n1_ n2_ n3_ n4_; (try clear hb); (try clear hb2); (try clear hk); (try clear hi); (try clear ho0)))
            go_meet
            case rel => exact ⟨_, (t236), H', ⟨by have := HJ5.out; first | omega | exact Nat.le_refl _⟩, ⟨by (with_reducible repeat (first | apply Kd.R_alloc | apply Kd.R_drewN | apply Kd.R_drew)); exact Kd.R_mono HO238.out (fun _ hk => trivial)⟩, ⟨by repeat (first | (with_reducible first | exact HB.out | apply below_alloc | apply pw_below_drewN | apply below_drew1) | exact HB.out)⟩⟩
          · replace c17 := Bool.eq_false_iff.mpr c17
            subst c17
            have H1 : (signalmanlaw05_FlagJudges.j1 kj5 a1 a3 a4 t227) = some r := by rw [if_neg (show ¬ (false = true) by decide)] at H; exact H
            clear H
            have H := H1
            clear H1
            have H' := Aside0.mk H
            clear H
            go_wp2
            go_meet
            case rel => exact ⟨_, (t227), H', ⟨by have := HJ5.out; first | omega | exact Nat.le_refl _⟩, ⟨by (with_reducible repeat (first | apply Kd.R_alloc | apply Kd.R_drewN | apply Kd.R_drew)); exact HO229.out⟩, ⟨by repeat (first | (with_reducible first | exact HB.out | apply below_alloc | apply pw_below_drewN | apply below_drew1) | exact HB.out)⟩⟩
        case rest =>
          clear HC15
          try clear c1
          try clear p2
          try clear c4
          try clear c8
          try clear c9
          try clear c11
          try clear c17
          try clear c18
          try clear c19
          try clear p2
          obtain ⟨kq, x11_14, HA, HJ14, HO_11, HB⟩ := hcut
          cases kq with
          | zero => exact absurd HA.out (by simp [signalmanlaw05_FlagJudges.j1])
          | succ kj14 =>
            have H := HA.out
            clear HA
            simp only [signalmanlaw05_FlagJudges.j1] at H
            have H' := Aside0.mk H
            clear H
            go_wp2
            go_loopg [12] kj14 (fun kq v12 w' => ∃ (x11_3 : List Bool) (x12_3 : Int), v12 = .int .i64 x12_3 ∧ Aside0 (signalmanlaw05_FlagJudges.l0 kq a1 a3 a4 x11_3 x12_3 = some r) ∧ Aside0 (kq ≤ kj14) ∧ Aside0 (Kd.R Kd.bool 4 w' w.heap.size (fun _ => True) u11 x11_3) ∧ Aside0 (Below w.heap.size w w'))
            case atStart => exact ⟨(x11_14), (0), (by first | rfl | (simp; done) | (simp [*]; done) | (simp; omega)), H', ⟨Nat.le_refl _⟩, ⟨by (with_reducible repeat (first | apply Kd.R_alloc | apply Kd.R_drewN | apply Kd.R_drew)); exact HO_11.out⟩, ⟨by repeat (first | (with_reducible first | exact HB.out | apply below_alloc | apply pw_below_drewN | apply below_drew1) | exact HB.out)⟩⟩
            case round =>
              clear H'
              try clear c1
              try clear p2
              try clear c4
              try clear c8
              try clear c9
              try clear c11
              try clear c17
              try clear c18
              try clear c19
              try clear p2
              obtain ⟨x11_3, x12_3, rfl, HA, HK3, HO_11, HB⟩ := hrel
              cases gk with
              | zero => exact absurd HA.out (by simp [signalmanlaw05_FlagJudges.l0])
              | succ k3 =>
                have H := HA.out
                clear HA
                simp only [signalmanlaw05_FlagJudges.l0] at H
                have HC26 := Aside0.mk H
                clear H
                go_upto_region 7 with (fail)
                go_cut [39] (fun v39 wc => ∃ (kq : Nat) (x39_25 : Bool), v39 = .bool x39_25 ∧ Aside0 (signalmanlaw05_FlagJudges.j3 kq a1 a3 a4 x11_3 x12_3 x39_25 = some r) ∧ Aside0 (kq ≤ k3) ∧ Aside0 (Kd.R Kd.bool 4 wc w.heap.size (fun _ => True) u11 x11_3) ∧ Aside0 (Below w.heap.size w wc))
                case first =>
                  have H := HC26.out
                  clear HC26
                  by_cases c27 : x12_3 < 16
                  · rw [if_pos c27] at H
                    have c27b0 : decide (x12_3 < 16) = true := decide_eq_true c27
                    clear c27
                    (first | rw [c27b0] | (simp only [i64_w, i32_w]; rw [c27b0]) | skip)
                    have H' := Aside0.mk H
                    clear H
                    obtain ⟨Ao28, co28, eo28⟩ := Kd.R_slice HO_11.out
                    subst eo28
                    go_wp2
                    go_meet
                    case rel => exact ⟨_, (decide ((x11_3.length : Int) > 0)), (by first | rfl | (simp; done) | (simp [*]; done) | (simp; omega)), H', ⟨by have := HJ5.out; have := HJ14.out; have := HK3.out; first | omega | exact Nat.le_refl _⟩, ⟨by (with_reducible repeat (first | apply Kd.R_alloc | apply Kd.R_drewN | apply Kd.R_drew)); exact HO_11.out⟩, ⟨by repeat (first | (with_reducible first | exact HB.out | apply below_alloc | apply pw_below_drewN | apply below_drew1) | exact HB.out)⟩⟩
                  · rw [if_neg c27] at H
                    have c27b0 : decide (x12_3 < 16) = false := decide_eq_false c27
                    clear c27
                    (first | rw [c27b0] | (simp only [i64_w, i32_w]; rw [c27b0]) | skip)
                    have H' := Aside0.mk H
                    clear H
                    go_wp2
                    go_meet
                    case rel => exact ⟨_, (false), (by first | rfl | (simp; done) | (simp [*]; done) | (simp; omega)), H', ⟨by have := HJ5.out; have := HJ14.out; have := HK3.out; first | omega | exact Nat.le_refl _⟩, ⟨by (with_reducible repeat (first | apply Kd.R_alloc | apply Kd.R_drewN | apply Kd.R_drew)); exact HO_11.out⟩, ⟨by repeat (first | (with_reducible first | exact HB.out | apply below_alloc | apply pw_below_drewN | apply below_drew1) | exact HB.out)⟩⟩
                case rest =>
                  clear HC26
                  try clear c1
                  try clear c2
                  try clear p2
                  try clear c4
                  try clear c8
                  try clear c9
                  try clear c11
                  try clear c17
                  try clear c18
                  try clear c19
                  try clear c27
                  try clear c27b0
                  try clear p2
                  obtain ⟨kq, x39_25, rfl, HA, HJ25, HO_11, HB⟩ := hcut
                  cases kq with
                  | zero => exact absurd HA.out (by simp [signalmanlaw05_FlagJudges.j3])
                  | succ kj25 =>
                    have H := HA.out
                    clear HA
                    simp only [signalmanlaw05_FlagJudges.j3] at H
                    by_cases c29 : x39_25 = true
                    · subst c29
                      have H1 : (if (x11_3.length : Int) = 0 then (none) else (if 0 ≤ x12_3 then (if (Int.tmod (shr .u16 a4 x12_3) 2) = 1 then (if 0 ≤ (Int.tmod (wrap64 ((wrap64 (a3)) + x12_3)) (x11_3.length : Int)) then (if (Int.tmod (wrap64 ((wrap64 (a3)) + x12_3)) (x11_3.length : Int)) < (x11_3.length : Int) then (signalmanlaw05_FlagJudges.l0 kj25 a1 a3 a4 (x11_3.set ((Int.tmod (wrap64 ((wrap64 (a3)) + x12_3)) (x11_3.length : Int)) : Int).toNat (!(rdOf false x11_3 (Int.tmod (wrap64 ((wrap64 (a3)) + x12_3)) (x11_3.length : Int))))) (wrap64 (x12_3 + 1))) else (none)) else (none)) else (signalmanlaw05_FlagJudges.l0 kj25 a1 a3 a4 x11_3 (wrap64 (x12_3 + 1)))) else (none))) = some r := by rw [if_pos rfl] at H; exact H
                      clear H
                      have H := H1
                      clear H1
                      by_cases c30 : (x11_3.length : Int) = 0
                      · rw [if_pos c30] at H
                        exact absurd H (by simp)
                      · rw [if_neg c30] at H
                        have c30b0 : ((x11_3.length : Int) == 0) = false := beq_eq_false_iff_ne.mpr c30
                        have c30b1 : ((x11_3.length : Int) != 0) = true := bne_iff_ne.mpr c30
                        have c30b2 : ¬ (x11_3 = []) := fun h_ => c30 (by rw [h_]; rfl)
                        by_cases c31 : 0 ≤ x12_3
                        · rw [if_pos c31] at H
                          have c31b0 := eq_true c31
                          have c31b1 : decide (0 ≤ x12_3) = true := decide_eq_true c31
                          clear c31
                          obtain ⟨ji32, hji32⟩ : ∃ j_ : Int, (shr .u16 a4 x12_3) = j_ := ⟨_, rfl⟩
                          replace H : (if (Int.tmod (ji32) 2) = 1 then (if 0 ≤ (Int.tmod (wrap64 ((wrap64 (a3)) + x12_3)) (x11_3.length : Int)) then (if (Int.tmod (wrap64 ((wrap64 (a3)) + x12_3)) (x11_3.length : Int)) < (x11_3.length : Int) then (signalmanlaw05_FlagJudges.l0 kj25 a1 a3 a4 (x11_3.set ((Int.tmod (wrap64 ((wrap64 (a3)) + x12_3)) (x11_3.length : Int)) : Int).toNat (!(rdOf false x11_3 (Int.tmod (wrap64 ((wrap64 (a3)) + x12_3)) (x11_3.length : Int))))) (wrap64 (x12_3 + 1))) else (none)) else (none)) else (signalmanlaw05_FlagJudges.l0 kj25 a1 a3 a4 x11_3 (wrap64 (x12_3 + 1)))) = some r := by first | (rw [hji32] at H; exact H) | (simp only [hji32] at H ⊢; exact H)
                          have hji32_ : (a4 / 2 ^ min x12_3.toNat 16) = ji32 := hji32
                          have hji32z : x12_3 ≤ 16 → (a4 / 2 ^ x12_3.toNat) = ji32 := shr_small hji32
                          by_cases c33 : (Int.tmod (ji32) 2) = 1
                          · rw [if_pos c33] at H
                            have c33b0 : ((Int.tmod (ji32) 2) == 1) = true := beq_iff_eq.mpr c33
                            have c33b1 : ((Int.tmod (ji32) 2) != 1) = false := bne_eq_false_iff_eq.mpr c33
                            clear c33
                            obtain ⟨ji34, hji34⟩ : ∃ j_ : Int, (Int.tmod (wrap64 ((wrap64 (a3)) + x12_3)) (x11_3.length : Int)) = j_ := ⟨_, rfl⟩
                            replace H : (if 0 ≤ (ji34) then (if (ji34) < (x11_3.length : Int) then (signalmanlaw05_FlagJudges.l0 kj25 a1 a3 a4 (x11_3.set ((ji34) : Int).toNat (!(rdOf false x11_3 (ji34)))) (wrap64 (x12_3 + 1))) else (none)) else (none)) = some r := by first | (rw [hji34] at H; exact H) | (simp only [hji34] at H ⊢; exact H)
                            by_cases c35 : 0 ≤ (ji34)
                            · rw [if_pos c35] at H
                              have c35b0 : decide (0 ≤ (ji34)) = true := decide_eq_true c35
                              clear c35
                              by_cases c36 : (ji34) < (x11_3.length : Int)
                              · rw [if_pos c36] at H
                                have c36b0 : decide ((ji34) < (x11_3.length : Int)) = true := decide_eq_true c36
                                clear c36
                                obtain ⟨y240, hy240⟩ : ∃ y_ : List Bool, y_ = (x11_3.set ((ji34) : Int).toNat (!(rdOf false x11_3 (ji34)))) := ⟨_, rfl⟩
                                replace H : (signalmanlaw05_FlagJudges.l0 kj25 a1 a3 a4 y240 (wrap64 (x12_3 + 1))) = some r := by first | (rw [hy240]; with_reducible exact H) | (have H2_ := (Option.bind_some _ _).symm.trans H; rw [hy240]; with_reducible exact H2_) | (have H2_ := (Option.bind_some _ _).symm.trans H; with_reducible exact H2_) | with_reducible exact H | (rw [hy240]; exact H) | exact H
                                have Ny240 := Aside0.mk hy240
                                clear hy240
                                have H' := Aside0.mk H
                                clear H
                                obtain ⟨Ao38, co38, eo38⟩ := Kd.R_slice HO_11.out
                                subst eo38
                                have p239 : 0 ≤ ((ji34) : Int) := of_decide_eq_true (by first | (with_reducible assumption) | assumption)
                                have q239 : (ji34) < (x11_3.length : Int) := of_decide_eq_true (by first | (with_reducible assumption) | assumption)
                                obtain ⟨ad239, e239, hx239_0⟩ := Kd.at_bool (Kd.R_reads' HO_11.out).2.2 (ji34) p239 q239
                                cases e239
                                replace p239 := eq_true p239
                                replace q239 := eq_true q239
                                have p37 : 0 ≤ ((ji34) : Int) := of_decide_eq_true (by first | (with_reducible assumption) | assumption)
                                have q37 : ((ji34) : Int) < ((x11_3.length : Int) : Int) := of_decide_eq_true (by first | (with_reducible assumption) | assumption)
                                obtain ⟨go37, co37, eo37, gb37, gl37, cl37, HG37⟩ := Kd.R_form HO_11.out (by omega)
                                (first | cases eo37 | (injection eo37 with ea_ en_ ec_; (first | subst ea_ | (injection ea_ with ea_; subst ea_)); subst ec_; clear en_))
                                have GB37 := Aside0.mk gb37
                                have GG37 := Aside0.mk HG37
                                clear gb37 gl37 HG37
                                (first | simp only [add_plain] at hx239_0 | skip)
                                obtain ⟨hx37_0, hf37_0⟩ := Kd.R_celln false HO_11.out ((ji34) : Int) p37 q37
                                replace p37 := eq_true p37
                                replace q37 := eq_true q37
                                have HP39 := Kd.R_putg HO_11.out ((ji34) : Int) (!(rdOf false x11_3 (ji34)))
                                go_wp2_with (first | ((with_reducible refine gate_store (t := 4) (p := 61) rfl ?_); refine store_event (t := 4) (p := 61) (v := ?vo_w40) (w1 := (wc.setCell ⟨go37, ((ji34) : Int).toNat, none⟩ (.bool (!(rdOf false x11_3 (ji34)))))) ?hg ?ho ?hn ?hr ?_; (case ho => rfl); (case hg => rfl); (case hn => rfl); (case hr => first | (go_simp; done) | (go_simp; rfl)); intro w40 hw; have hg : wc.grownBy w40 (some go37) := (by rw [hw]; exact HP39.2); have hp_ : Kd.R Kd.bool 4 w40 w.heap.size (fun _ => True) (.slice (some ⟨go37, 0, none⟩) x11_3.length co38) y240 := (by rw [hw, Ny240.out]; exact HP39.1); clear HP39; have n0_ := Aside0.mk (hp_); have n1_ := Aside0.mk ((by rw [hw]; exact below_set (HB.out) GB37.out : Below w.heap.size w w40)); clear HO_11; clear HB; have HO_11 := n0_; have HB := n1_; clear n0_ n1_; clear hg hw hp_))
                                go_roundg kj25
                                case measure => have := HJ5.out; have := HJ14.out; have := HK3.out; have := HJ25.out; omega
                                case rel => exact ⟨(y240), (wrap64 (x12_3 + 1)), (by first | rfl | (simp; done) | (simp [*]; done) | (simp; omega)), H', ⟨by have := HJ5.out; have := HJ14.out; have := HK3.out; have := HJ25.out; omega⟩, ⟨by (with_reducible repeat (first | apply Kd.R_alloc | apply Kd.R_drewN | apply Kd.R_drew)); exact HO_11.out⟩, ⟨by repeat (first | (with_reducible first | exact HB.out | apply below_alloc | apply pw_below_drewN | apply below_drew1) | exact HB.out)⟩⟩
                              · rw [if_neg c36] at H
                                exact absurd H (by simp)
                            · rw [if_neg c35] at H
                              exact absurd H (by simp)
                          · rw [if_neg c33] at H
                            have c33b0 : ((Int.tmod (ji32) 2) == 1) = false := beq_eq_false_iff_ne.mpr c33
                            have c33b1 : ((Int.tmod (ji32) 2) != 1) = true := bne_iff_ne.mpr c33
                            have H' := Aside0.mk H
                            clear H
                            obtain ⟨Ao41, co41, eo41⟩ := Kd.R_slice HO_11.out
                            subst eo41
                            go_wp2
                            go_roundg kj25
                            case measure => have := HJ5.out; have := HJ14.out; have := HK3.out; have := HJ25.out; omega
                            case rel => exact ⟨(x11_3), (wrap64 (x12_3 + 1)), (by first | rfl | (simp; done) | (simp [*]; done) | (simp; omega)), H', ⟨by have := HJ5.out; have := HJ14.out; have := HK3.out; have := HJ25.out; omega⟩, ⟨by (with_reducible repeat (first | apply Kd.R_alloc | apply Kd.R_drewN | apply Kd.R_drew)); exact HO_11.out⟩, ⟨by repeat (first | (with_reducible first | exact HB.out | apply below_alloc | apply pw_below_drewN | apply below_drew1) | exact HB.out)⟩⟩
                        · rw [if_neg c31] at H
                          exact absurd H (by simp)
                    · replace c29 := Bool.eq_false_iff.mpr c29
                      subst c29
                      have H1 : (if (wrap64 ((x11_3.length : Int) + 1)) = 0 then (none) else (if 0 ≤ (wrap64 ((x11_3.length : Int) - (Int.tmod (wrap64 (a1)) (wrap64 ((x11_3.length : Int) + 1))))) then (if (wrap64 ((x11_3.length : Int) - (Int.tmod (wrap64 (a1)) (wrap64 ((x11_3.length : Int) + 1))))) ≤ (x11_3.length : Int) then ((some (x11_3.take ((wrap64 ((x11_3.length : Int) - (Int.tmod (wrap64 (a1)) (wrap64 ((x11_3.length : Int) + 1))))) : Int).toNat : List Bool)).bind fun y241 => ((flag_Judge.f kj25 y241).bind fun bt244 => ((signalmanref01_Judge.f kj25 y241).bind fun bt248 => (if bt244.2 = bt248.2 then (some ((strOfNums bt244.1).toList == (strOfNums bt248.1).toList)) else (some false))))) else (none)) else (none))) = some r := by rw [if_neg (show ¬ (false = true) by decide)] at H; exact H
                      clear H
                      have H := H1
                      clear H1
                      by_cases c42 : (wrap64 ((x11_3.length : Int) + 1)) = 0
                      · rw [if_pos c42] at H
                        exact absurd H (by simp)
                      · rw [if_neg c42] at H
                        have c42b0 : ((wrap64 ((x11_3.length : Int) + 1)) == 0) = false := beq_eq_false_iff_ne.mpr c42
                        have c42b1 : ((wrap64 ((x11_3.length : Int) + 1)) != 0) = true := bne_iff_ne.mpr c42
                        obtain ⟨ji43, hji43⟩ : ∃ j_ : Int, (wrap64 ((x11_3.length : Int) - (Int.tmod (wrap64 (a1)) (wrap64 ((x11_3.length : Int) + 1))))) = j_ := ⟨_, rfl⟩
                        replace H : (if 0 ≤ (ji43) then (if (ji43) ≤ (x11_3.length : Int) then ((some (x11_3.take ((ji43) : Int).toNat : List Bool)).bind fun y241 => ((flag_Judge.f kj25 y241).bind fun bt244 => ((signalmanref01_Judge.f kj25 y241).bind fun bt248 => (if bt244.2 = bt248.2 then (some ((strOfNums bt244.1).toList == (strOfNums bt248.1).toList)) else (some false))))) else (none)) else (none)) = some r := by first | (rw [hji43] at H; exact H) | (simp only [hji43] at H ⊢; exact H)
                        have hji43w : (IntKind.i64.wrap ((x11_3.length : Int) - (Int.tmod (wrap64 (a1)) (wrap64 ((x11_3.length : Int) + 1))))) = ji43 := (i64_w _).trans hji43
                        by_cases c44 : 0 ≤ (ji43)
                        · rw [if_pos c44] at H
                          have c44b0 := eq_true c44
                          have c44b1 : decide (0 ≤ (ji43)) = true := decide_eq_true c44
                          clear c44
                          by_cases c45 : (ji43) ≤ (x11_3.length : Int)
                          · rw [if_pos c45] at H
                            have c45b0 := eq_true c45
                            have c45b1 : decide ((ji43) ≤ (x11_3.length : Int)) = true := decide_eq_true c45
                            clear c45
                            obtain ⟨y241, hy241⟩ : ∃ y_ : List Bool, y_ = (x11_3.take ((ji43) : Int).toNat) := ⟨_, rfl⟩
                            replace H : ((flag_Judge.f kj25 y241).bind fun bt244 => ((signalmanref01_Judge.f kj25 y241).bind fun bt248 => (if bt244.2 = bt248.2 then (some ((strOfNums bt244.1).toList == (strOfNums bt248.1).toList)) else (some false)))) = some r := by first | (rw [hy241]; with_reducible exact H) | (have H2_ := (Option.bind_some _ _).symm.trans H; rw [hy241]; with_reducible exact H2_) | (have H2_ := (Option.bind_some _ _).symm.trans H; with_reducible exact H2_) | with_reducible exact H | (rw [hy241]; exact H) | exact H
                            have Ny241 := Aside0.mk hy241
                            clear hy241
                            replace H := Option.bind_eq_some_iff.mp H
                            obtain ⟨⟨t244, t245⟩, A460, H⟩ := H
                            replace H : ((signalmanref01_Judge.f kj25 y241).bind fun bt248 => (if t245 = bt248.2 then (some ((strOfNums t244).toList == (strOfNums bt248.1).toList)) else (some false))) = some r := H
                            have A46 := Aside0.mk A460
                            clear A460
                            replace H := Option.bind_eq_some_iff.mp H
                            obtain ⟨⟨t248, t249⟩, A470, H⟩ := H
                            replace H : (if t245 = t249 then (some ((strOfNums t244).toList == (strOfNums t248).toList)) else (some false)) = some r := H
                            have A47 := Aside0.mk A470
                            clear A470
                            by_cases c48 : t245 = t249
                            · rw [if_pos c48] at H
                              have c48b0 : (t245 == t249) = true := beq_iff_eq.mpr c48
                              have c48b1 : (t245 != t249) = false := bne_eq_false_iff_eq.mpr c48
                              clear c48
                              obtain rfl := Option.some.inj H
                              obtain ⟨Ao49, co49, eo49⟩ := Kd.R_slice HO_11.out
                              subst eo49
                              have q50 : ((ji43) : Int) ≤ ((x11_3.length : Int) : Int) := of_decide_eq_true (by first | (with_reducible assumption) | assumption)
                              obtain ⟨i050, hi050, _, hsz50, _⟩ := info_parts info4
                              have hcut50 := cut_to (P := Try.prog) 26 4 .i64 Try.underlying26 hi050 Ao49 x11_3.length co49 (ji43) (of_decide_eq_true (by first | (with_reducible assumption) | assumption)) q50 (Kd.R_reads' HO_11.out).2.1
                              have hr50 := Kd.R_take (m := ((ji43) : Int).toNat) HO_11.out (by omega)
                              have hy50 : y241.length = ((ji43) : Int).toNat := (by rw [Ny241.out, List.length_take]; omega)
                              rw [← Ny241.out] at hr50
                              rw [← hy50] at hr50 hcut50
                              clear hy50 hi050 hsz50 HO_11
                              have HO243 := Aside0.mk hr50
                              clear hr50
                              replace q50 := eq_true q50
                              go_wp2_with (first | ((with_reducible refine gate_callee (f := 12) rfl ?_); refine goesL_ (some 75) rfl rfl Try.func12 (by kernel_rfl) rfl #[.slice Ao49 y241.length co49] rfl (by (try simp only [List.map_toArray, List.map_cons, List.map_nil]); first | done | rfl | (simp only [List.length_drop, List.length_take]; rfl) | (simp [Act.eval, *]; done)) ?_; (with_reducible refine (flag_Judge.calls kj25 _ _ y241 t244 t245 _ ?side1 ?side2 A46.out).mono ?_); (case side1 => repeat (first | exact (Kd.R_reads' HO243.out).2.2 | (with_reducible refine Kd.C_alloc ?_ _) | (with_reducible refine Kd.C_drewN ?_ _) | (with_reducible refine Kd.C_drew ?_))); (case side2 => exact (Kd.R_reads' HO243.out).2.1); rintro e w51 ⟨v246, rfl, ho0, hb⟩; refine ⟨_, rfl, ?_⟩; have n0_ := Aside0.mk (Kd.R_below (by (with_reducible repeat (first | apply Kd.R_alloc | apply Kd.R_drewN | apply Kd.R_drew)); exact HO243.out) hb); have n1_ := Aside0.mk (Kd.R_lower ho0 (below_size (by repeat (first | (with_reducible first | exact HB.out | apply below_alloc | apply pw_below_drewN | apply below_drew1) | exact HB.out)))); have n2_ := Aside0.mk (below_step (by repeat (first | (with_reducible first | exact HB.out | apply below_alloc | apply pw_below_drewN | apply below_drew1) | exact HB.out)) hb); clear HO243; clear HB; have HO243 := n0_; have HO247 := n1_; have HB := n2_; clear n0_ n1_ n2_; (try clear hb); (try clear hb2); (try clear hk); (try clear hi); (try clear ho0)) | ((with_reducible refine gate_callee (f := 20) rfl ?_); refine goesL_ (some 80) rfl rfl Try.func20 (by kernel_rfl) rfl #[.slice Ao49 y241.length co49] rfl (by (try simp only [List.map_toArray, List.map_cons, List.map_nil]); first | done | rfl | (simp only [List.length_drop, List.length_take]; rfl) | (simp [Act.eval, *]; done)) ?_; (with_reducible refine (signalmanref01_Judge.calls kj25 _ _ y241 t248 t249 _ ?side1 ?side2 A47.out).mono ?_); (case side1 => repeat (first | exact (Kd.R_reads' HO243.out).2.2 | (with_reducible refine Kd.C_alloc ?_ _) | (with_reducible refine Kd.C_drewN ?_ _) | (with_reducible refine Kd.C_drew ?_))); (case side2 => exact (Kd.R_reads' HO243.out).2.1); rintro e w52 ⟨v250, rfl, ho0, hb⟩; refine ⟨_, rfl, ?_⟩; have n0_ := Aside0.mk (Kd.R_below (by (with_reducible repeat (first | apply Kd.R_alloc | apply Kd.R_drewN | apply Kd.R_drew)); exact HO243.out) hb); have n1_ := Aside0.mk (Kd.R_elder' (by (with_reducible repeat (first | apply Kd.R_alloc | apply Kd.R_drewN | apply Kd.R_drew)); exact HO247.out) (Kd.R_base ho0) hb); have n2_ := Aside0.mk (Kd.R_lower (Kd.R_new' ho0 (Kd.R_lt (by (with_reducible repeat (first | apply Kd.R_alloc | apply Kd.R_drewN | apply Kd.R_drew)); exact HO247.out))) (below_size (by repeat (first | (with_reducible first | exact HB.out | apply below_alloc | apply pw_below_drewN | apply below_drew1) | exact HB.out)))); have n3_ := Aside0.mk (below_step (by repeat (first | (with_reducible first | exact HB.out | apply below_alloc | apply pw_below_drewN | apply below_drew1) | exact HB.out)) hb); clear HO243; clear HO247; clear HB; have HO243 := n0_; have HO247 := n1_; have HO251 := n2_; have HB := n3_; clear n0_ n1_ n2_ n3_; (try clear hb); (try clear hb2); (try clear hk); (try clear hi); (try clear ho0); have hcv53 := own_string (P := Try.prog) Try.underlying22 Try.underlying5 Try.underlying9 (Kd.own_of_R HO247.out); have hcv54 := own_string (P := Try.prog) Try.underlying22 Try.underlying5 Try.underlying9 (Kd.own_of_R HO251.out)))
                              go_ret
                              exact ⟨by first | rfl | (simp [errW_none, errW_some] <;> rfl) | (simp only [← hji43]; first | rfl | (simp [errW_none, errW_some] <;> rfl)) | (simp [*, errW_none, errW_some] <;> rfl), by repeat (first | (with_reducible first | exact HB.out | apply below_alloc | apply pw_below_drewN | apply below_drew1) | exact HB.out)⟩
                            · rw [if_neg c48] at H
                              have c48b0 : (t245 == t249) = false := beq_eq_false_iff_ne.mpr c48
                              have c48b1 : (t245 != t249) = true := bne_iff_ne.mpr c48
                              obtain rfl := Option.some.inj H
                              obtain ⟨Ao55, co55, eo55⟩ := Kd.R_slice HO_11.out
                              subst eo55
                              have q56 : ((ji43) : Int) ≤ ((x11_3.length : Int) : Int) := of_decide_eq_true (by first | (with_reducible assumption) | assumption)
                              obtain ⟨i056, hi056, _, hsz56, _⟩ := info_parts info4
                              have hcut56 := cut_to (P := Try.prog) 26 4 .i64 Try.underlying26 hi056 Ao55 x11_3.length co55 (ji43) (of_decide_eq_true (by first | (with_reducible assumption) | assumption)) q56 (Kd.R_reads' HO_11.out).2.1
                              have hr56 := Kd.R_take (m := ((ji43) : Int).toNat) HO_11.out (by omega)
                              have hy56 : y241.length = ((ji43) : Int).toNat := (by rw [Ny241.out, List.length_take]; omega)
                              rw [← Ny241.out] at hr56
                              rw [← hy56] at hr56 hcut56
                              clear hy56 hi056 hsz56 HO_11
                              have HO243 := Aside0.mk hr56
                              clear hr56
                              replace q56 := eq_true q56
                              go_wp2_with (first | ((with_reducible refine gate_callee (f := 12) rfl ?_); refine goesL_ (some 75) rfl rfl Try.func12 (by kernel_rfl) rfl #[.slice Ao55 y241.length co55] rfl (by (try simp only [List.map_toArray, List.map_cons, List.map_nil]); first | done | rfl | (simp only [List.length_drop, List.length_take]; rfl) | (simp [Act.eval, *]; done)) ?_; (with_reducible refine (flag_Judge.calls kj25 _ _ y241 t244 t245 _ ?side1 ?side2 A46.out).mono ?_); (case side1 => repeat (first | exact (Kd.R_reads' HO243.out).2.2 | (with_reducible refine Kd.C_alloc ?_ _) | (with_reducible refine Kd.C_drewN ?_ _) | (with_reducible refine Kd.C_drew ?_))); (case side2 => exact (Kd.R_reads' HO243.out).2.1); rintro e w57 ⟨v246, rfl, ho0, hb⟩; refine ⟨_, rfl, ?_⟩; have n0_ := Aside0.mk (Kd.R_below (by (with_reducible repeat (first | apply Kd.R_alloc | apply Kd.R_drewN | apply Kd.R_drew)); exact HO243.out) hb); have n1_ := Aside0.mk (Kd.R_lower ho0 (below_size (by repeat (first | (with_reducible first | exact HB.out | apply below_alloc | apply pw_below_drewN | apply below_drew1) | exact HB.out)))); have n2_ := Aside0.mk (below_step (by repeat (first | (with_reducible first | exact HB.out | apply below_alloc | apply pw_below_drewN | apply below_drew1) | exact HB.out)) hb); clear HO243; clear HB; have HO243 := n0_; have HO247 := n1_; have HB := n2_; clear n0_ n1_ n2_; (try clear hb); (try clear hb2); (try clear hk); (try clear hi); (try clear ho0)) | ((with_reducible refine gate_callee (f := 20) rfl ?_); refine goesL_ (some 80) rfl rfl Try.func20 (by kernel_rfl) rfl #[.slice Ao55 y241.length co55] rfl (by (try simp only [List.map_toArray, List.map_cons, List.map_nil]); first | done | rfl | (simp only [List.length_drop, List.length_take]; rfl) | (simp [Act.eval, *]; done)) ?_; (with_reducible refine (signalmanref01_Judge.calls kj25 _ _ y241 t248 t249 _ ?side1 ?side2 A47.out).mono ?_); (case side1 => repeat (first | exact (Kd.R_reads' HO243.out).2.2 | (with_reducible refine Kd.C_alloc ?_ _) | (with_reducible refine Kd.C_drewN ?_ _) | (with_reducible refine Kd.C_drew ?_))); (case side2 => exact (Kd.R_reads' HO243.out).2.1); rintro e w58 ⟨v250, rfl, ho0, hb⟩; refine ⟨_, rfl, ?_⟩; have n0_ := Aside0.mk (Kd.R_below (by (with_reducible repeat (first | apply Kd.R_alloc | apply Kd.R_drewN | apply Kd.R_drew)); exact HO243.out) hb); have n1_ := Aside0.mk (Kd.R_elder' (by (with_reducible repeat (first | apply Kd.R_alloc | apply Kd.R_drewN | apply Kd.R_drew)); exact HO247.out) (Kd.R_base ho0) hb); have n2_ := Aside0.mk (Kd.R_lower (Kd.R_new' ho0 (Kd.R_lt (by (with_reducible repeat (first | apply Kd.R_alloc | apply Kd.R_drewN | apply Kd.R_drew)); exact HO247.out))) (below_size (by repeat (first | (with_reducible first | exact HB.out | apply below_alloc | apply pw_below_drewN | apply below_drew1) | exact HB.out)))); have n3_ := Aside0.mk (below_step (by repeat (first | (with_reducible first | exact HB.out | apply below_alloc | apply pw_below_drewN | apply below_drew1) | exact HB.out)) hb); clear HO243; clear HO247; clear HB; have HO243 := n0_; have HO247 := n1_; have HO251 := n2_; have HB := n3_; clear n0_ n1_ n2_ n3_; (try clear hb); (try clear hb2); (try clear hk); (try clear hi); (try clear ho0)))
                              go_ret
                              exact ⟨by first | rfl | (simp [errW_none, errW_some] <;> rfl) | (simp only [← hji43]; first | rfl | (simp [errW_none, errW_some] <;> rfl)) | (simp [*, errW_none, errW_some] <;> rfl), by repeat (first | (with_reducible first | exact HB.out | apply below_alloc | apply pw_below_drewN | apply below_drew1) | exact HB.out)⟩
                          · rw [if_neg c45] at H
                            exact absurd H (by simp)
                        · rw [if_neg c44] at H
                          exact absurd H (by simp)

/-- THE ONE PURE STATEMENT of signalmanlaw05_FlagJudges: yours. -/
def signalmanlaw05_FlagJudges.Pure : Prop := ∀ (l0 : List Int) (a1 : Int) (a2 : Bool) (a3 : Int) (a4 : Int), l0.length ≤ maxLen → l0.length * 1 ≤ 140737488351232 → (∀ x ∈ l0, (Lit.int .u8 x).wf = true) → (Lit.int .u8 a1).wf = true → (Lit.int .u16 a3).wf = true → (Lit.int .u16 a4).wf = true → ∃ k, signalmanlaw05_FlagJudges.f k l0 a1 a2 a3 a4 = some true
theorem signalmanlaw05_FlagJudges.walk (P : signalmanlaw05_FlagJudges.Pure) (a0 : Option Addr) (len0 cap0 : Nat) (z0 : List Int) (a1 : Int) (a2 : Bool) (a3 : Int) (a4 : Int) (w : World) (w0 : (a0 = none ∧ len0 = 0 ∧ cap0 = 0 ∧ z0 = []) ∨ ∃ x, a0 = some x ∧ len0 ≤ cap0 ∧ cap0 ≤ maxLen ∧ z0.length = cap0 ∧ (∀ i, i < z0.length → w.cell? (x.add i) = some (.int .u8 (z0.getD i 0))) ∧ ∀ n ∈ z0, (Lit.int .u8 n).wf = true) (y0 : len0 * 1 ≤ 140737488351232) (w1 : (Lit.int .u8 a1).wf = true) (w3 : (Lit.int .u16 a3).wf = true) (w4 : (Lit.int .u16 a4).wf = true) :
    Calls Try.prog 4 #[.slice a0 len0 cap0, .int .u8 a1, .bool a2, .int .u16 a3, .int .u16 a4] w fun e w' => e = .returned (.bool true) ∧ Below w.heap.size w w' := by
  obtain ⟨l0, rfl, hr0, hm0, hw0, hc0⟩ := ReadsInt.ofRowC w0
  obtain ⟨k, h⟩ := P l0 a1 a2 a3 a4 hm0 y0 hw0 w1 w3 w4
  refine (signalmanlaw05_FlagJudges.calls k _ _ l0 a1 a2 a3 a4 true w (Kd.C_of_reads (d := (0 : Int)) (h1 := fun _ => rfl) hr0) hc0 h).mono ?_
  rintro e w' ⟨rfl, hd⟩
  exact ⟨rfl, hd⟩

end Go.Proofs.Ytonhgiclaieamaa.MFlagJudges
