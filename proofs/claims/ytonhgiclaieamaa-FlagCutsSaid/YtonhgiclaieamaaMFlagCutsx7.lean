/- A part of the proof of the given statement that each law names; no condition. Written by a program of this session's own (wip/tools/myprint.py, over the kit's print); Lean checks it. -/
import Derived.Test.YtonhgiclaieamaaMFlagCutsx0
import Derived.Test.YtonhgiclaieamaaMFlagCutsx6
namespace Go.Proofs.Ytonhgiclaieamaa.MFlagCuts
open Go.RowKit Go.Proofs.Ytonhgiclaieamaa Go.Proofs.YtonhgiclaieamaaW.PrintWords Go.Proofs.YtonhgiclaieamaaW.PrintLast Go.Proofs.YtonhgiclaieamaaW.PrintMore
attribute [local go_sem] max2_int min2_int max_two min_two max_three min_three max_four min_four   -- for this text's walks alone
set_option linter.unusedVariables false
set_option linter.unusedSimpArgs false

/-! ### signalmanref01_Hear: function 24 -/
mutual
def signalmanref01_Hear.l0 : Nat → List Bool → List (S61) → Bool → Int → Int → Int → Option ((List (S61)) × Bool)
  | 0, _, _, _, _, _, _ => none
  | k + 1, x0, x4, x5, x6, x7, x8 => if x8 < (x0.length : Int) then (if 0 ≤ x8 then (if rdOf false x0 x8 = true then (if x5 = true then (signalmanref01_Hear.j1 k x0 x4 x5 x6 (wrap64 (x7 + 1)) x8 false) else (signalmanref01_Hear.j1 k x0 x4 x5 x6 (wrap64 (x7 + 1)) x8 ((wrap64 (x7 + 1)) == 7))) else (if x7 = 6 then (if x5 = true then (signalmanref01_Hear.j2 k x0 x4 x6 0 x8 false) else (signalmanref01_Hear.j2 k x0 x4 x6 0 x8 (decide ((wrap64 ((wrap64 (x8 + 1)) - x6)) > 8)))) else (if x5 = true then (signalmanref01_Hear.j3 k x0 x4 x5 x6 0 x8 false) else (signalmanref01_Hear.j3 k x0 x4 x5 x6 0 x8 (decide ((wrap64 ((wrap64 (x8 + 1)) - x6)) > 2687)))))) else (none)) else (some (x4, x5))
def signalmanref01_Hear.j1 : Nat → List Bool → List (S61) → Bool → Int → Int → Int → Bool → Option ((List (S61)) × Bool)
  | 0, _, _, _, _, _, _, _ => none
  | k + 1, x0, x4, x5, x6, x7, x8, x29 => if x29 = true then (signalmanref01_Hear.l0 k x0 x4 true (wrap64 (x8 + 1)) x7 (wrap64 (x8 + 1))) else (if x5 = true then (if (wrap64 ((wrap64 (x8 + 1)) - x6)) = 128 then (if x4.length < 3518437208883 then (signalmanref01_Hear.l0 k x0 (x4 ++ [(⟨2, ([] : List Int), wrap64 (x8 + 1)⟩ : S61)]) x5 (wrap64 (x8 + 1)) x7 (wrap64 (x8 + 1))) else (none)) else (signalmanref01_Hear.l0 k x0 x4 x5 x6 x7 (wrap64 (x8 + 1)))) else (signalmanref01_Hear.l0 k x0 x4 x5 x6 x7 (wrap64 (x8 + 1))))
def signalmanref01_Hear.j2 : Nat → List Bool → List (S61) → Int → Int → Int → Bool → Option ((List (S61)) × Bool)
  | 0, _, _, _, _, _, _ => none
  | k + 1, x0, x4, x6, x7, x8, x43 => if x43 = true then (if 0 ≤ x6 then (if x6 ≤ (wrap64 (x8 - 7)) then (if (wrap64 (x8 - 7)) ≤ (x0.length : Int) then ((signalmanref01_Judge.f k ((x0.take ((wrap64 (x8 - 7)) : Int).toNat).drop (x6 : Int).toNat)).bind fun bt295 => (if bt295.2 = 0 then (if x4.length < 3518437208883 then (signalmanref01_Hear.l0 k x0 (x4 ++ [(⟨0, bt295.1, wrap64 (x8 + 1)⟩ : S61)]) false (wrap64 (x8 + 1)) x7 (wrap64 (x8 + 1))) else (none)) else (if x4.length < 3518437208883 then (signalmanref01_Hear.l0 k x0 (x4 ++ [(⟨1, ([] : List Int), wrap64 (x8 + 1)⟩ : S61)]) false (wrap64 (x8 + 1)) x7 (wrap64 (x8 + 1))) else (none)))) else (none)) else (none)) else (none)) else (signalmanref01_Hear.l0 k x0 x4 false (wrap64 (x8 + 1)) x7 (wrap64 (x8 + 1)))
def signalmanref01_Hear.j3 : Nat → List Bool → List (S61) → Bool → Int → Int → Int → Bool → Option ((List (S61)) × Bool)
  | 0, _, _, _, _, _, _, _ => none
  | k + 1, x0, x4, x5, x6, x7, x8, x78 => if x78 = true then (signalmanref01_Hear.l0 k x0 x4 true (wrap64 (x8 + 1)) x7 (wrap64 (x8 + 1))) else (if x5 = true then (if (wrap64 ((wrap64 (x8 + 1)) - x6)) = 128 then (if x4.length < 3518437208883 then (signalmanref01_Hear.l0 k x0 (x4 ++ [(⟨2, ([] : List Int), wrap64 (x8 + 1)⟩ : S61)]) x5 (wrap64 (x8 + 1)) x7 (wrap64 (x8 + 1))) else (none)) else (signalmanref01_Hear.l0 k x0 x4 x5 x6 x7 (wrap64 (x8 + 1)))) else (signalmanref01_Hear.l0 k x0 x4 x5 x6 x7 (wrap64 (x8 + 1))))
end
def signalmanref01_Hear.f (k : Nat) (l0 : List Bool) : Option ((List (S61)) × Bool) := signalmanref01_Hear.l0 k l0 ([] : List (S61)) true 0 0 0
theorem signalmanref01_Hear.mono_l : ∀ k, (∀ y0 y1 y2 y3 y4 y5, LeO (signalmanref01_Hear.l0 k y0 y1 y2 y3 y4 y5) (signalmanref01_Hear.l0 (k + 1) y0 y1 y2 y3 y4 y5)) ∧ (∀ y0 y1 y2 y3 y4 y5 y6, LeO (signalmanref01_Hear.j1 k y0 y1 y2 y3 y4 y5 y6) (signalmanref01_Hear.j1 (k + 1) y0 y1 y2 y3 y4 y5 y6)) ∧ (∀ y0 y1 y2 y3 y4 y5, LeO (signalmanref01_Hear.j2 k y0 y1 y2 y3 y4 y5) (signalmanref01_Hear.j2 (k + 1) y0 y1 y2 y3 y4 y5)) ∧ (∀ y0 y1 y2 y3 y4 y5 y6, LeO (signalmanref01_Hear.j3 k y0 y1 y2 y3 y4 y5 y6) (signalmanref01_Hear.j3 (k + 1) y0 y1 y2 y3 y4 y5 y6))
  | 0 => ⟨fun _ _ _ _ _ _ r h => by simp [signalmanref01_Hear.l0] at h, fun _ _ _ _ _ _ _ r h => by simp [signalmanref01_Hear.j1] at h, fun _ _ _ _ _ _ r h => by simp [signalmanref01_Hear.j2] at h, fun _ _ _ _ _ _ _ r h => by simp [signalmanref01_Hear.j3] at h⟩
  | k + 1 => by
    obtain ⟨ih0, ih1, ih2, ih3⟩ := signalmanref01_Hear.mono_l k
    refine ⟨?_, ?_, ?_, ?_⟩
    · intro y0 y1 y2 y3 y4 y5
      unfold signalmanref01_Hear.l0
      repeat' first
      | (with_reducible exact ih0 _ _ _ _ _ _)
      | (with_reducible exact ih1 _ _ _ _ _ _ _)
      | (with_reducible exact ih2 _ _ _ _ _ _)
      | (with_reducible exact ih3 _ _ _ _ _ _ _)
      | (with_reducible exact signalmanref01_Judge.mono _ _)
      | (with_reducible exact LeO.refl _)
      | (with_reducible exact LeO.none _)
      | (with_reducible refine LeO.ite ?_ ?_)
      | (with_reducible refine LeO.bind ?_ (fun _ => ?_))
      | exact ih0 _ _ _ _ _ _
      | exact ih1 _ _ _ _ _ _ _
      | exact ih2 _ _ _ _ _ _
      | exact ih3 _ _ _ _ _ _ _
      | exact signalmanref01_Judge.mono _ _
      | exact LeO.none _
      | refine LeO.ite ?_ ?_
      | refine LeO.bind ?_ (fun _ => ?_)
    · intro y0 y1 y2 y3 y4 y5 y6
      unfold signalmanref01_Hear.j1
      repeat' first
      | (with_reducible exact ih0 _ _ _ _ _ _)
      | (with_reducible exact ih1 _ _ _ _ _ _ _)
      | (with_reducible exact ih2 _ _ _ _ _ _)
      | (with_reducible exact ih3 _ _ _ _ _ _ _)
      | (with_reducible exact signalmanref01_Judge.mono _ _)
      | (with_reducible exact LeO.refl _)
      | (with_reducible exact LeO.none _)
      | (with_reducible refine LeO.ite ?_ ?_)
      | (with_reducible refine LeO.bind ?_ (fun _ => ?_))
      | exact ih0 _ _ _ _ _ _
      | exact ih1 _ _ _ _ _ _ _
      | exact ih2 _ _ _ _ _ _
      | exact ih3 _ _ _ _ _ _ _
      | exact signalmanref01_Judge.mono _ _
      | exact LeO.none _
      | refine LeO.ite ?_ ?_
      | refine LeO.bind ?_ (fun _ => ?_)
    · intro y0 y1 y2 y3 y4 y5
      unfold signalmanref01_Hear.j2
      repeat' first
      | (with_reducible exact ih0 _ _ _ _ _ _)
      | (with_reducible exact ih1 _ _ _ _ _ _ _)
      | (with_reducible exact ih2 _ _ _ _ _ _)
      | (with_reducible exact ih3 _ _ _ _ _ _ _)
      | (with_reducible exact signalmanref01_Judge.mono _ _)
      | (with_reducible exact LeO.refl _)
      | (with_reducible exact LeO.none _)
      | (with_reducible refine LeO.ite ?_ ?_)
      | (with_reducible refine LeO.bind ?_ (fun _ => ?_))
      | exact ih0 _ _ _ _ _ _
      | exact ih1 _ _ _ _ _ _ _
      | exact ih2 _ _ _ _ _ _
      | exact ih3 _ _ _ _ _ _ _
      | exact signalmanref01_Judge.mono _ _
      | exact LeO.none _
      | refine LeO.ite ?_ ?_
      | refine LeO.bind ?_ (fun _ => ?_)
    · intro y0 y1 y2 y3 y4 y5 y6
      unfold signalmanref01_Hear.j3
      repeat' first
      | (with_reducible exact ih0 _ _ _ _ _ _)
      | (with_reducible exact ih1 _ _ _ _ _ _ _)
      | (with_reducible exact ih2 _ _ _ _ _ _)
      | (with_reducible exact ih3 _ _ _ _ _ _ _)
      | (with_reducible exact signalmanref01_Judge.mono _ _)
      | (with_reducible exact LeO.refl _)
      | (with_reducible exact LeO.none _)
      | (with_reducible refine LeO.ite ?_ ?_)
      | (with_reducible refine LeO.bind ?_ (fun _ => ?_))
      | exact ih0 _ _ _ _ _ _
      | exact ih1 _ _ _ _ _ _ _
      | exact ih2 _ _ _ _ _ _
      | exact ih3 _ _ _ _ _ _ _
      | exact signalmanref01_Judge.mono _ _
      | exact LeO.none _
      | refine LeO.ite ?_ ?_
      | refine LeO.bind ?_ (fun _ => ?_)
theorem signalmanref01_Hear.mono : ∀ a0 k, LeO (signalmanref01_Hear.f k a0) (signalmanref01_Hear.f (k + 1) a0) := by
  intro a0 k
  obtain ⟨ih0, ih1, ih2, ih3⟩ := signalmanref01_Hear.mono_l k
  unfold signalmanref01_Hear.f
  repeat' first
      | (with_reducible exact ih0 _ _ _ _ _ _)
      | (with_reducible exact ih1 _ _ _ _ _ _ _)
      | (with_reducible exact ih2 _ _ _ _ _ _)
      | (with_reducible exact ih3 _ _ _ _ _ _ _)
      | (with_reducible exact signalmanref01_Judge.mono _ _)
      | (with_reducible exact LeO.refl _)
      | (with_reducible exact LeO.none _)
      | (with_reducible refine LeO.ite ?_ ?_)
      | (with_reducible refine LeO.bind ?_ (fun _ => ?_))
      | exact ih0 _ _ _ _ _ _
      | exact ih1 _ _ _ _ _ _ _
      | exact ih2 _ _ _ _ _ _
      | exact ih3 _ _ _ _ _ _ _
      | exact signalmanref01_Judge.mono _ _
      | exact LeO.none _
      | refine LeO.ite ?_ ?_
      | refine LeO.bind ?_ (fun _ => ?_)
set_option maxHeartbeats 8000000 in
set_option maxRecDepth 100000 in
theorem signalmanref01_Hear.calls (k : Nat) (A0 : Option Addr) (c0 : Nat) (l0 : List Bool) (r1 : List (S61)) (r2 : Bool) (w : World) (hr0 : Kd.C Kd.bool w A0 l0.length l0) (hc0 : l0.length ≤ c0) (h : signalmanref01_Hear.f k l0 = some (r1, r2)) :
    Calls Try.prog 24 #[.slice A0 l0.length c0] w fun e w' => ∃ v0_ : Value, e = .returned (.tuple #[v0_, .bool r2]) ∧ Kd.S k61 61 w' w.heap.size (fun _ => True) v0_ r1 ∧ Below w.heap.size w w' := by
  have hu61 := Try.underlying61
  have HR0 := Aside0.mk hr0
  have HC0 := Aside0.mk hc0
  clear hr0 hc0
  have HB := Aside0.mk (Below.refl w.heap.size w)
  have H : (signalmanref01_Hear.l0 k l0 ([] : List (S61)) true 0 0 0) = some (r1, r2) := h
  clear h
  have H' := Aside0.mk H
  clear H
  go_enter Try.func24, Try.ntmps24
  go_wp2
  go_loopg [4, 5, 6, 7, 8] k (fun kq v4 v5 v6 v7 v8 w' => ∃ (x4_1 : List (S61)) (x5_1 : Bool) (x6_1 : Int) (x7_1 : Int) (x8_1 : Int), v5 = .bool x5_1 ∧ v6 = .int .i64 x6_1 ∧ v7 = .int .i64 x7_1 ∧ v8 = .int .i64 x8_1 ∧ Aside0 (signalmanref01_Hear.l0 kq l0 x4_1 x5_1 x6_1 x7_1 x8_1 = some (r1, r2)) ∧ Aside0 (kq ≤ k) ∧ Aside0 (Kd.S k61 61 w' w.heap.size (fun _ => True) v4 x4_1) ∧ Aside0 (Below w.heap.size w w'))
  case atStart => exact ⟨(([] : List (S61))), (true), (0), (0), (0), (by first | rfl | (simp; done) | (simp [*]; done) | (simp; omega)), (by first | rfl | (simp; done) | (simp [*]; done) | (simp; omega)), (by first | rfl | (simp; done) | (simp [*]; done) | (simp; omega)), (by first | rfl | (simp; done) | (simp [*]; done) | (simp; omega)), H', ⟨Nat.le_refl _⟩, ⟨by first | exact Kd.S_nil _ _ _ _ _ | exact Kd.N_nil _ _ _ _ _ | exact Kd.V_nil _ _ _ _ _ | exact Kd.Q_nil _ _ _ _ _ | exact Kd.R_nil _ _ _ _ _⟩, ⟨by repeat (first | (with_reducible first | exact HB.out | apply below_alloc | apply pw_below_drewN | apply below_drew1) | exact HB.out)⟩⟩
  case round =>
    clear H'
    obtain ⟨x4_1, x5_1, x6_1, x7_1, x8_1, rfl, rfl, rfl, rfl, HA, HK1, HO_4, HB⟩ := hrel
    cases gk with
    | zero => exact absurd HA.out (by simp [signalmanref01_Hear.l0])
    | succ k1 =>
      have H := HA.out
      clear HA
      simp only [signalmanref01_Hear.l0] at H
      by_cases c2 : x8_1 < (l0.length : Int)
      · rw [if_pos c2] at H
        have c2b0 : decide (x8_1 < (l0.length : Int)) = true := decide_eq_true c2
        clear c2
        by_cases c3 : 0 ≤ x8_1
        · rw [if_pos c3] at H
          have c3b0 : decide (0 ≤ x8_1) = true := decide_eq_true c3
          clear c3
          obtain ⟨bq4, hbq4⟩ : ∃ b_ : Bool, b_ = (rdOf false l0 x8_1) := ⟨_, rfl⟩
          replace H : (if bq4 = true then (if x5_1 = true then (signalmanref01_Hear.j1 k1 l0 x4_1 x5_1 x6_1 (wrap64 (x7_1 + 1)) x8_1 false) else (signalmanref01_Hear.j1 k1 l0 x4_1 x5_1 x6_1 (wrap64 (x7_1 + 1)) x8_1 ((wrap64 (x7_1 + 1)) == 7))) else (if x7_1 = 6 then (if x5_1 = true then (signalmanref01_Hear.j2 k1 l0 x4_1 x6_1 0 x8_1 false) else (signalmanref01_Hear.j2 k1 l0 x4_1 x6_1 0 x8_1 (decide ((wrap64 ((wrap64 (x8_1 + 1)) - x6_1)) > 8)))) else (if x5_1 = true then (signalmanref01_Hear.j3 k1 l0 x4_1 x5_1 x6_1 0 x8_1 false) else (signalmanref01_Hear.j3 k1 l0 x4_1 x5_1 x6_1 0 x8_1 (decide ((wrap64 ((wrap64 (x8_1 + 1)) - x6_1)) > 2687)))))) = some (r1, r2) := by rw [← hbq4] at H; exact H
          have Nbq4 := Aside0.mk hbq4
          clear hbq4
          by_cases c5 : bq4 = true
          · subst c5
            have H1 : (if x5_1 = true then (signalmanref01_Hear.j1 k1 l0 x4_1 x5_1 x6_1 (wrap64 (x7_1 + 1)) x8_1 false) else (signalmanref01_Hear.j1 k1 l0 x4_1 x5_1 x6_1 (wrap64 (x7_1 + 1)) x8_1 ((wrap64 (x7_1 + 1)) == 7))) = some (r1, r2) := by rw [if_pos rfl] at H; exact H
            clear H
            have H := H1
            clear H1
            have HC6 := Aside0.mk H
            clear H
            have p290 : 0 ≤ (x8_1 : Int) := of_decide_eq_true (by first | (with_reducible assumption) | assumption)
            have q290 : x8_1 < (l0.length : Int) := of_decide_eq_true (by first | (with_reducible assumption) | assumption)
            obtain ⟨ad290, e290, hx290_0⟩ := Kd.at_bool HR0.out x8_1 p290 q290
            (try rw [← Nbq4.out] at hx290_0)
            cases e290
            replace hx290_0 := (HB.out.cell (World.block_lt_of_cell? w _ hx290_0)).trans hx290_0
            replace p290 := eq_true p290
            replace q290 := eq_true q290
            go_upto_region 10 with (fail)
            go_cut [29] (fun v29 wc => ∃ (kq : Nat) (x29_5 : Bool), v29 = .bool x29_5 ∧ Aside0 (signalmanref01_Hear.j1 kq l0 x4_1 x5_1 x6_1 (wrap64 (x7_1 + 1)) x8_1 x29_5 = some (r1, r2)) ∧ Aside0 (kq ≤ k1) ∧ Aside0 (Kd.S k61 61 wc w.heap.size (fun _ => True) u4 x4_1) ∧ Aside0 (Below w.heap.size w wc))
            case first =>
              have H := HC6.out
              clear HC6
              by_cases c7 : x5_1 = true
              · subst c7
                have H1 : (signalmanref01_Hear.j1 k1 l0 x4_1 true x6_1 (wrap64 (x7_1 + 1)) x8_1 false) = some (r1, r2) := by rw [if_pos rfl] at H; exact H
                clear H
                have H := H1
                clear H1
                have H' := Aside0.mk H
                clear H
                go_wp2
                go_meet
                case rel => exact ⟨_, (false), (by first | rfl | (simp; done) | (simp [*]; done) | (simp; omega)), H', ⟨by have := HK1.out; first | omega | exact Nat.le_refl _⟩, ⟨by (with_reducible repeat (first | apply Kd.S_alloc | apply Kd.S_drewN | apply Kd.S_drew)); exact HO_4.out⟩, ⟨by repeat (first | (with_reducible first | exact HB.out | apply below_alloc | apply pw_below_drewN | apply below_drew1) | exact HB.out)⟩⟩
              · replace c7 := Bool.eq_false_iff.mpr c7
                subst c7
                have H1 : (signalmanref01_Hear.j1 k1 l0 x4_1 false x6_1 (wrap64 (x7_1 + 1)) x8_1 ((wrap64 (x7_1 + 1)) == 7)) = some (r1, r2) := by rw [if_neg (show ¬ (false = true) by decide)] at H; exact H
                clear H
                have H := H1
                clear H1
                have H' := Aside0.mk H
                clear H
                go_wp2
                go_meet
                case rel => exact ⟨_, (((wrap64 (x7_1 + 1)) == 7)), (by first | rfl | (simp; done) | (simp [*]; done) | (simp; omega)), H', ⟨by have := HK1.out; first | omega | exact Nat.le_refl _⟩, ⟨by (with_reducible repeat (first | apply Kd.S_alloc | apply Kd.S_drewN | apply Kd.S_drew)); exact HO_4.out⟩, ⟨by repeat (first | (with_reducible first | exact HB.out | apply below_alloc | apply pw_below_drewN | apply below_drew1) | exact HB.out)⟩⟩
            case rest =>
              clear HC6
              try clear c2
              try clear c2b0
              try clear p2
              try clear q2
              try clear hx2
              try clear c3
              try clear c3b0
              try clear q4
              try clear c5
              try clear p6
              try clear c7
              try clear hx290_0
              try clear p290
              try clear q290
              obtain ⟨kq, x29_5, rfl, HA, HJ5, HO_4, HB⟩ := hcut
              cases kq with
              | zero => exact absurd HA.out (by simp [signalmanref01_Hear.j1])
              | succ kj5 =>
                have H := HA.out
                clear HA
                simp only [signalmanref01_Hear.j1] at H
                by_cases c8 : x29_5 = true
                · subst c8
                  have H1 : (signalmanref01_Hear.l0 kj5 l0 x4_1 true (wrap64 (x8_1 + 1)) (wrap64 (x7_1 + 1)) (wrap64 (x8_1 + 1))) = some (r1, r2) := by rw [if_pos rfl] at H; exact H
                  clear H
                  have H := H1
                  clear H1
                  have H' := Aside0.mk H
                  clear H
                  go_wp2
                  go_roundg kj5
                  case measure => have := HK1.out; have := HJ5.out; omega
                  case rel => exact ⟨(x4_1), (true), (wrap64 (x8_1 + 1)), ((wrap64 (x7_1 + 1))), (wrap64 (x8_1 + 1)), (by first | rfl | (simp; done) | (simp [*]; done) | (simp; omega)), (by first | rfl | (simp; done) | (simp [*]; done) | (simp; omega)), (by first | rfl | (simp; done) | (simp [*]; done) | (simp; omega)), (by first | rfl | (simp; done) | (simp [*]; done) | (simp; omega)), H', ⟨by have := HK1.out; have := HJ5.out; omega⟩, ⟨by (with_reducible repeat (first | apply Kd.S_alloc | apply Kd.S_drewN | apply Kd.S_drew)); exact HO_4.out⟩, ⟨by repeat (first | (with_reducible first | exact HB.out | apply below_alloc | apply pw_below_drewN | apply below_drew1) | exact HB.out)⟩⟩
                · replace c8 := Bool.eq_false_iff.mpr c8
                  subst c8
                  have H1 : (if x5_1 = true then (if (wrap64 ((wrap64 (x8_1 + 1)) - x6_1)) = 128 then (if x4_1.length < 3518437208883 then (signalmanref01_Hear.l0 kj5 l0 (x4_1 ++ [(⟨2, ([] : List Int), wrap64 (x8_1 + 1)⟩ : S61)]) x5_1 (wrap64 (x8_1 + 1)) (wrap64 (x7_1 + 1)) (wrap64 (x8_1 + 1))) else (none)) else (signalmanref01_Hear.l0 kj5 l0 x4_1 x5_1 x6_1 (wrap64 (x7_1 + 1)) (wrap64 (x8_1 + 1)))) else (signalmanref01_Hear.l0 kj5 l0 x4_1 x5_1 x6_1 (wrap64 (x7_1 + 1)) (wrap64 (x8_1 + 1)))) = some (r1, r2) := by rw [if_neg (show ¬ (false = true) by decide)] at H; exact H
                  clear H
                  have H := H1
                  clear H1
                  by_cases c9 : x5_1 = true
                  · subst c9
                    have H1 : (if (wrap64 ((wrap64 (x8_1 + 1)) - x6_1)) = 128 then (if x4_1.length < 3518437208883 then (signalmanref01_Hear.l0 kj5 l0 (x4_1 ++ [(⟨2, ([] : List Int), wrap64 (x8_1 + 1)⟩ : S61)]) true (wrap64 (x8_1 + 1)) (wrap64 (x7_1 + 1)) (wrap64 (x8_1 + 1))) else (none)) else (signalmanref01_Hear.l0 kj5 l0 x4_1 true x6_1 (wrap64 (x7_1 + 1)) (wrap64 (x8_1 + 1)))) = some (r1, r2) := by rw [if_pos rfl] at H; exact H
                    clear H
                    have H := H1
                    clear H1
                    by_cases c10 : (wrap64 ((wrap64 (x8_1 + 1)) - x6_1)) = 128
                    · rw [if_pos c10] at H
                      have c10b0 : ((wrap64 ((wrap64 (x8_1 + 1)) - x6_1)) == 128) = true := beq_iff_eq.mpr c10
                      have c10b1 : ((wrap64 ((wrap64 (x8_1 + 1)) - x6_1)) != 128) = false := bne_eq_false_iff_eq.mpr c10
                      clear c10
                      by_cases c11 : x4_1.length < 3518437208883
                      · rw [if_pos c11] at H
                        have LMc11 := Aside0.mk c11
                        clear c11
                        obtain ⟨y291, hy291⟩ : ∃ y_ : List (S61), y_ = (x4_1 ++ [(⟨2, ([] : List Int), wrap64 (x8_1 + 1)⟩ : S61)]) := ⟨_, rfl⟩
                        replace H : (signalmanref01_Hear.l0 kj5 l0 y291 true (wrap64 (x8_1 + 1)) (wrap64 (x7_1 + 1)) (wrap64 (x8_1 + 1))) = some (r1, r2) := by first | (rw [hy291]; with_reducible exact H) | (have H2_ := (Option.bind_some _ _).symm.trans H; rw [hy291]; with_reducible exact H2_) | (have H2_ := (Option.bind_some _ _).symm.trans H; with_reducible exact H2_) | with_reducible exact H | (rw [hy291]; exact H) | exact H
                        have Ny291 := Aside0.mk hy291
                        clear hy291
                        have H' := Aside0.mk H
                        clear H
                        go_wp2_with (first | ((with_reducible refine gate_builtin (b := .append) (xs := #[.tmp 89, .tmp 93]) rfl ?_); at_builtin; refine Kd.S_append k61 (w0 := w) w.heap.size rfl (.tmp 89) (.tmp 93) 51 61 (.agg #[(.int .u8 0), (.slice none 0 0), (.int .i64 0)]) 40 rfl Try.underlying51 info61 rfl (by decide) (by omega) u4 x4_1 (⟨2, ([] : List Int), wrap64 (x8_1 + 1)⟩ : S61) [.int .u8 2, .slice none 0 0, .int .i64 (wrap64 (x8_1 + 1))] (fun _ => True) (fun _ => False) rfl rfl ?aP (fun k_ hk_ => hk_.elim) ?aF ?aO ?aB ?aS ?aL ?_; (case aP => exact k61_mkM _ _ _ (⟨2, ([] : List Int), wrap64 (x8_1 + 1)⟩ : S61) (Kd.R_nil _ _ _ _ _)); (case aB => exact (by repeat (first | (with_reducible first | exact HB.out | apply below_alloc | apply pw_below_drewN | apply below_drew1) | exact HB.out))); (case aF => exact (fun _ _ => trivial)); (case aO => exact (by (with_reducible repeat (first | apply Kd.S_alloc | apply Kd.S_drewN | apply Kd.S_drew)); exact Kd.S_mono HO_4.out (fun k_ hk => ⟨trivial, fun e_ => e_⟩))); (case aS => exact (below_size (by repeat (first | (with_reducible first | exact HB.out | apply below_alloc | apply pw_below_drewN | apply below_drew1) | exact HB.out)))); (case aL => have := LMc11.out; omega); intro v292 w12 ho hb hg hat; (first | rw [← Ny291.out] at ho | (have hy_ := Ny291.out; (try rw [← Nbq4.out] at hy_); rw [← hy_] at ho)); have n0_ := Aside0.mk (hb); have n1_ := Aside0.mk (ho); clear HB; clear HO_4; have HB := n0_; have HO293 := n1_; clear n0_ n1_; clear ho hb hg hat))
                        go_roundg kj5
                        case measure => have := HK1.out; have := HJ5.out; omega
                        case rel => exact ⟨(y291), (true), (wrap64 (x8_1 + 1)), ((wrap64 (x7_1 + 1))), (wrap64 (x8_1 + 1)), (by first | rfl | (simp; done) | (simp [*]; done) | (simp; omega)), (by first | rfl | (simp; done) | (simp [*]; done) | (simp; omega)), (by first | rfl | (simp; done) | (simp [*]; done) | (simp; omega)), (by first | rfl | (simp; done) | (simp [*]; done) | (simp; omega)), H', ⟨by have := HK1.out; have := HJ5.out; omega⟩, ⟨by (with_reducible repeat (first | apply Kd.S_alloc | apply Kd.S_drewN | apply Kd.S_drew)); exact HO293.out⟩, ⟨by repeat (first | (with_reducible first | exact HB.out | apply below_alloc | apply pw_below_drewN | apply below_drew1) | exact HB.out)⟩⟩
                      · rw [if_neg c11] at H
                        exact absurd H (by simp)
                    · rw [if_neg c10] at H
                      have c10b0 : ((wrap64 ((wrap64 (x8_1 + 1)) - x6_1)) == 128) = false := beq_eq_false_iff_ne.mpr c10
                      have c10b1 : ((wrap64 ((wrap64 (x8_1 + 1)) - x6_1)) != 128) = true := bne_iff_ne.mpr c10
                      have H' := Aside0.mk H
                      clear H
                      go_wp2
                      go_roundg kj5
                      case measure => have := HK1.out; have := HJ5.out; omega
                      case rel => exact ⟨(x4_1), (true), (x6_1), ((wrap64 (x7_1 + 1))), (wrap64 (x8_1 + 1)), (by first | rfl | (simp; done) | (simp [*]; done) | (simp; omega)), (by first | rfl | (simp; done) | (simp [*]; done) | (simp; omega)), (by first | rfl | (simp; done) | (simp [*]; done) | (simp; omega)), (by first | rfl | (simp; done) | (simp [*]; done) | (simp; omega)), H', ⟨by have := HK1.out; have := HJ5.out; omega⟩, ⟨by (with_reducible repeat (first | apply Kd.S_alloc | apply Kd.S_drewN | apply Kd.S_drew)); exact HO_4.out⟩, ⟨by repeat (first | (with_reducible first | exact HB.out | apply below_alloc | apply pw_below_drewN | apply below_drew1) | exact HB.out)⟩⟩
                  · replace c9 := Bool.eq_false_iff.mpr c9
                    subst c9
                    have H1 : (signalmanref01_Hear.l0 kj5 l0 x4_1 false x6_1 (wrap64 (x7_1 + 1)) (wrap64 (x8_1 + 1))) = some (r1, r2) := by rw [if_neg (show ¬ (false = true) by decide)] at H; exact H
                    clear H
                    have H := H1
                    clear H1
                    have H' := Aside0.mk H
                    clear H
                    go_wp2
                    go_roundg kj5
                    case measure => have := HK1.out; have := HJ5.out; omega
                    case rel => exact ⟨(x4_1), (false), (x6_1), ((wrap64 (x7_1 + 1))), (wrap64 (x8_1 + 1)), (by first | rfl | (simp; done) | (simp [*]; done) | (simp; omega)), (by first | rfl | (simp; done) | (simp [*]; done) | (simp; omega)), (by first | rfl | (simp; done) | (simp [*]; done) | (simp; omega)), (by first | rfl | (simp; done) | (simp [*]; done) | (simp; omega)), H', ⟨by have := HK1.out; have := HJ5.out; omega⟩, ⟨by (with_reducible repeat (first | apply Kd.S_alloc | apply Kd.S_drewN | apply Kd.S_drew)); exact HO_4.out⟩, ⟨by repeat (first | (with_reducible first | exact HB.out | apply below_alloc | apply pw_below_drewN | apply below_drew1) | exact HB.out)⟩⟩
          · replace c5 := Bool.eq_false_iff.mpr c5
            subst c5
            have H1 : (if x7_1 = 6 then (if x5_1 = true then (signalmanref01_Hear.j2 k1 l0 x4_1 x6_1 0 x8_1 false) else (signalmanref01_Hear.j2 k1 l0 x4_1 x6_1 0 x8_1 (decide ((wrap64 ((wrap64 (x8_1 + 1)) - x6_1)) > 8)))) else (if x5_1 = true then (signalmanref01_Hear.j3 k1 l0 x4_1 x5_1 x6_1 0 x8_1 false) else (signalmanref01_Hear.j3 k1 l0 x4_1 x5_1 x6_1 0 x8_1 (decide ((wrap64 ((wrap64 (x8_1 + 1)) - x6_1)) > 2687))))) = some (r1, r2) := by rw [if_neg (show ¬ (false = true) by decide)] at H; exact H
            clear H
            have H := H1
            clear H1
            by_cases c13 : x7_1 = 6
            · rw [if_pos c13] at H
              have c13b0 : (x7_1 == 6) = true := beq_iff_eq.mpr c13
              have c13b1 : (x7_1 != 6) = false := bne_eq_false_iff_eq.mpr c13
              clear c13
              have HC14 := Aside0.mk H
              clear H
              have p290 : 0 ≤ (x8_1 : Int) := of_decide_eq_true (by first | (with_reducible assumption) | assumption)
              have q290 : x8_1 < (l0.length : Int) := of_decide_eq_true (by first | (with_reducible assumption) | assumption)
              obtain ⟨ad290, e290, hx290_0⟩ := Kd.at_bool HR0.out x8_1 p290 q290
              (try rw [← Nbq4.out] at hx290_0)
              cases e290
              replace hx290_0 := (HB.out.cell (World.block_lt_of_cell? w _ hx290_0)).trans hx290_0
              replace p290 := eq_true p290
              replace q290 := eq_true q290
              go_upto_region 16 with (fail)
              go_cut [43] (fun v43 wc => ∃ (kq : Nat) (x43_13 : Bool), v43 = .bool x43_13 ∧ Aside0 (signalmanref01_Hear.j2 kq l0 x4_1 x6_1 0 x8_1 x43_13 = some (r1, r2)) ∧ Aside0 (kq ≤ k1) ∧ Aside0 (Kd.S k61 61 wc w.heap.size (fun _ => True) u4 x4_1) ∧ Aside0 (Below w.heap.size w wc))
              case first =>
                have H := HC14.out
                clear HC14
                by_cases c15 : x5_1 = true
                · subst c15
                  have H1 : (signalmanref01_Hear.j2 k1 l0 x4_1 x6_1 0 x8_1 false) = some (r1, r2) := by rw [if_pos rfl] at H; exact H
                  clear H
                  have H := H1
                  clear H1
                  have H' := Aside0.mk H
                  clear H
                  go_wp2
                  go_meet
                  case rel => exact ⟨_, (false), (by first | rfl | (simp; done) | (simp [*]; done) | (simp; omega)), H', ⟨by have := HK1.out; first | omega | exact Nat.le_refl _⟩, ⟨by (with_reducible repeat (first | apply Kd.S_alloc | apply Kd.S_drewN | apply Kd.S_drew)); exact HO_4.out⟩, ⟨by repeat (first | (with_reducible first | exact HB.out | apply below_alloc | apply pw_below_drewN | apply below_drew1) | exact HB.out)⟩⟩
                · replace c15 := Bool.eq_false_iff.mpr c15
                  subst c15
                  have H1 : (signalmanref01_Hear.j2 k1 l0 x4_1 x6_1 0 x8_1 (decide ((wrap64 ((wrap64 (x8_1 + 1)) - x6_1)) > 8))) = some (r1, r2) := by rw [if_neg (show ¬ (false = true) by decide)] at H; exact H
                  clear H
                  have H := H1
                  clear H1
                  have H' := Aside0.mk H
                  clear H
                  go_wp2
                  go_meet
                  case rel => exact ⟨_, (decide ((wrap64 ((wrap64 (x8_1 + 1)) - x6_1)) > 8)), (by first | rfl | (simp; done) | (simp [*]; done) | (simp; omega)), H', ⟨by have := HK1.out; first | omega | exact Nat.le_refl _⟩, ⟨by (with_reducible repeat (first | apply Kd.S_alloc | apply Kd.S_drewN | apply Kd.S_drew)); exact HO_4.out⟩, ⟨by repeat (first | (with_reducible first | exact HB.out | apply below_alloc | apply pw_below_drewN | apply below_drew1) | exact HB.out)⟩⟩
              case rest =>
                clear HC14
                try clear c1
                try clear c2
                try clear c2b0
                try clear p2
                try clear q2
                try clear hx2
                try clear c3
                try clear c3b0
                try clear q4
                try clear c5
                try clear p6
                try clear c7
                try clear c8
                try clear c9
                try clear c10
                try clear c10b0
                try clear c10b1
                try clear c11
                try clear c13
                try clear c13b0
                try clear c13b1
                try clear c15
                try clear hx290_0
                try clear p2
                try clear p290
                try clear p6
                try clear q2
                try clear q290
                try clear q4
                obtain ⟨kq, x43_13, rfl, HA, HJ13, HO_4, HB⟩ := hcut
                cases kq with
                | zero => exact absurd HA.out (by simp [signalmanref01_Hear.j2])
                | succ kj13 =>
                  have H := HA.out
                  clear HA
                  simp only [signalmanref01_Hear.j2] at H
                  by_cases c16 : x43_13 = true
                  · subst c16
                    have H1 : (if 0 ≤ x6_1 then (if x6_1 ≤ (wrap64 (x8_1 - 7)) then (if (wrap64 (x8_1 - 7)) ≤ (l0.length : Int) then ((signalmanref01_Judge.f kj13 ((l0.take ((wrap64 (x8_1 - 7)) : Int).toNat).drop (x6_1 : Int).toNat)).bind fun bt295 => (if bt295.2 = 0 then (if x4_1.length < 3518437208883 then (signalmanref01_Hear.l0 kj13 l0 (x4_1 ++ [(⟨0, bt295.1, wrap64 (x8_1 + 1)⟩ : S61)]) false (wrap64 (x8_1 + 1)) 0 (wrap64 (x8_1 + 1))) else (none)) else (if x4_1.length < 3518437208883 then (signalmanref01_Hear.l0 kj13 l0 (x4_1 ++ [(⟨1, ([] : List Int), wrap64 (x8_1 + 1)⟩ : S61)]) false (wrap64 (x8_1 + 1)) 0 (wrap64 (x8_1 + 1))) else (none)))) else (none)) else (none)) else (none)) = some (r1, r2) := by rw [if_pos rfl] at H; exact H
                    clear H
                    have H := H1
                    clear H1
                    by_cases c17 : 0 ≤ x6_1
                    · rw [if_pos c17] at H
                      have c17b0 := eq_true c17
                      have c17b1 : decide (0 ≤ x6_1) = true := decide_eq_true c17
                      clear c17
                      by_cases c18 : x6_1 ≤ (wrap64 (x8_1 - 7))
                      · rw [if_pos c18] at H
                        have c18b0 := eq_true c18
                        have c18b1 : decide (x6_1 ≤ (wrap64 (x8_1 - 7))) = true := decide_eq_true c18
                        clear c18
                        by_cases c19 : (wrap64 (x8_1 - 7)) ≤ (l0.length : Int)
                        · rw [if_pos c19] at H
                          have c19b0 := eq_true c19
                          have c19b1 : decide ((wrap64 (x8_1 - 7)) ≤ (l0.length : Int)) = true := decide_eq_true c19
                          clear c19
                          replace H := Option.bind_eq_some_iff.mp H
                          obtain ⟨⟨t295, t296⟩, A200, H⟩ := H
                          replace H : (if t296 = 0 then (if x4_1.length < 3518437208883 then (signalmanref01_Hear.l0 kj13 l0 (x4_1 ++ [(⟨0, t295, wrap64 (x8_1 + 1)⟩ : S61)]) false (wrap64 (x8_1 + 1)) 0 (wrap64 (x8_1 + 1))) else (none)) else (if x4_1.length < 3518437208883 then (signalmanref01_Hear.l0 kj13 l0 (x4_1 ++ [(⟨1, ([] : List Int), wrap64 (x8_1 + 1)⟩ : S61)]) false (wrap64 (x8_1 + 1)) 0 (wrap64 (x8_1 + 1))) else (none))) = some (r1, r2) := H
                          have A20 := Aside0.mk A200
                          clear A200
                          by_cases c21 : t296 = 0
                          · rw [if_pos c21] at H
                            have c21b0 : (t296 == 0) = true := beq_iff_eq.mpr c21
                            have c21b1 : (t296 != 0) = false := bne_eq_false_iff_eq.mpr c21
                            clear c21
                            by_cases c22 : x4_1.length < 3518437208883
                            · rw [if_pos c22] at H
                              have LMc22 := Aside0.mk c22
                              clear c22
                              obtain ⟨y299, hy299⟩ : ∃ y_ : List (S61), y_ = (x4_1 ++ [(⟨0, t295, wrap64 (x8_1 + 1)⟩ : S61)]) := ⟨_, rfl⟩
                              replace H : (signalmanref01_Hear.l0 kj13 l0 y299 false (wrap64 (x8_1 + 1)) 0 (wrap64 (x8_1 + 1))) = some (r1, r2) := by first | (rw [hy299]; with_reducible exact H) | (have H2_ := (Option.bind_some _ _).symm.trans H; rw [hy299]; with_reducible exact H2_) | (have H2_ := (Option.bind_some _ _).symm.trans H; with_reducible exact H2_) | with_reducible exact H | (rw [hy299]; exact H) | exact H
                              have Ny299 := Aside0.mk hy299
                              clear hy299
                              have H' := Aside0.mk H
                              clear H
                              obtain ⟨i023, hi023, _, hsz23, _⟩ := info_parts info4
                              obtain ⟨A23, hcut23, hA23, hC23⟩ := print_mid_of (P := Try.prog) Value.bool false 26 4 .i64 .i64 Try.underlying26 hi023 hsz23 (some ad290) c0 l0 x6_1 (wrap64 (x8_1 - 7)) (of_decide_eq_true (by first | (with_reducible assumption) | assumption)) (by first | omega | exact of_decide_eq_true (by first | (with_reducible assumption) | assumption)) (of_decide_eq_true (by first | (with_reducible assumption) | assumption)) HC0.out
                              have HR294 := Aside0.mk (Kd.C_of_reads (h1 := fun _ => rfl) (hA23 _ (Kd.reads_of_C HR0.out)))
                              have HC294 := Aside0.mk hC23
                              clear hA23 hC23 hi023 hsz23
                              go_wp2_with (first | ((with_reducible refine gate_callee (f := 20) rfl ?_); refine goesL_ (some 50) rfl rfl Try.func20 (by kernel_rfl) rfl #[.slice A23 ((l0.take ((wrap64 (x8_1 - 7)) : Int).toNat).drop (x6_1 : Int).toNat).length (c0 - x6_1.toNat)] rfl (by (try simp only [List.map_toArray, List.map_cons, List.map_nil]); first | done | (rw [show ((l0.take ((wrap64 (x8_1 - 7)) : Int).toNat).drop (x6_1 : Int).toNat).length = ((wrap64 (x8_1 - 7)).toNat - x6_1.toNat) from (by rw [List.length_drop, List.length_take]; have h_ : ((wrap64 (x8_1 - 7)) : Int) ≤ (l0.length : Int) := of_decide_eq_true (by first | (with_reducible assumption) | assumption); omega)] <;> rfl) | rfl | (simp only [List.length_drop, List.length_take]; rfl)) ?_; (with_reducible refine (signalmanref01_Judge.calls kj13 _ _ ((l0.take ((wrap64 (x8_1 - 7)) : Int).toNat).drop (x6_1 : Int).toNat) t295 t296 _ ?side1 ?side2 A20.out).mono ?_); (case side1 => repeat (first | exact (Kd.C_below HR294.out HB.out) | (with_reducible refine Kd.C_alloc ?_ _) | (with_reducible refine Kd.C_drewN ?_ _) | (with_reducible refine Kd.C_drew ?_))); (case side2 => exact HC294.out); rintro e w24 ⟨v297, rfl, ho0, hb⟩; refine ⟨_, rfl, ?_⟩; have n0_ := Aside0.mk (Kd.S_elder' (by (with_reducible repeat (first | apply Kd.S_alloc | apply Kd.S_drewN | apply Kd.S_drew)); exact HO_4.out) (Kd.R_base ho0) hb); have n1_ := Aside0.mk (Kd.R_lower ho0 (below_size (by repeat (first | (with_reducible first | exact HB.out | apply below_alloc | apply pw_below_drewN | apply below_drew1) | exact HB.out)))); have n2_ := Aside0.mk (below_step (by repeat (first | (with_reducible first | exact HB.out | apply below_alloc | apply pw_below_drewN | apply below_drew1) | exact HB.out)) hb); clear HO_4; clear HB; have HO_4 := n0_; have HO298 := n1_; have HB := n2_; clear n0_ n1_ n2_; (try clear hb); (try clear hb2); (try clear hk); (try clear hi); (try clear ho0); obtain ⟨Ao25, co25, eo25⟩ := Kd.R_slice HO298.out; subst eo25) | ((with_reducible refine gate_builtin (b := .append) (xs := #[.tmp 55, .tmp 60]) rfl ?_); at_builtin; refine Kd.S_append k61 (w0 := w) w.heap.size rfl (.tmp 55) (.tmp 60) 51 61 (.agg #[(.int .u8 0), (.slice none 0 0), (.int .i64 0)]) 40 rfl Try.underlying51 info61 rfl (by decide) (by omega) u4 x4_1 (⟨0, t295, wrap64 (x8_1 + 1)⟩ : S61) [.int .u8 0, .slice Ao25 t295.length co25, .int .i64 (wrap64 (x8_1 + 1))] (fun _ => True) (fun k_ => some k_ = (.slice Ao25 t295.length co25 : Value).ownBlock) rfl rfl ?aP (fun k_ hk_ => ((Kd.R_mono (ok' := fun k_ => ((fun _ => True)) k_ ∧ some k_ ≠ (u4 : Value).ownBlock) (Kd.R_apart' (HO298.out) (Kd.S_typed HO_4.out) (by decide)) (fun k_ hk => ⟨trivial, hk.2⟩))).1 k_ hk_.symm) ?aF ?aO ?aB ?aS ?aL ?_; (case aP => exact k61_mkM _ _ _ (⟨0, t295, wrap64 (x8_1 + 1)⟩ : S61) (Kd.R_mono (Kd.R_tight rfl (Kd.R_mono (ok' := fun k_ => ((fun _ => True)) k_ ∧ some k_ ≠ (u4 : Value).ownBlock) (Kd.R_apart' (HO298.out) (Kd.S_typed HO_4.out) (by decide)) (fun k_ hk => ⟨trivial, hk.2⟩))) (fun _ h_ => h_))); (case aB => exact (by repeat (first | (with_reducible first | exact HB.out | apply below_alloc | apply pw_below_drewN | apply below_drew1) | exact HB.out))); (case aF => exact (fun _ _ => trivial)); (case aO => exact (by (with_reducible repeat (first | apply Kd.S_alloc | apply Kd.S_drewN | apply Kd.S_drew)); exact Kd.S_mono HO_4.out (fun k_ hk => ⟨trivial, fun e_ => hk.2 e_⟩))); (case aS => exact (below_size (by repeat (first | (with_reducible first | exact HB.out | apply below_alloc | apply pw_below_drewN | apply below_drew1) | exact HB.out)))); (case aL => have := LMc22.out; omega); intro v300 w26 ho hb hg hat; (first | rw [← Ny299.out] at ho | (have hy_ := Ny299.out; (try rw [← Nbq4.out] at hy_); rw [← hy_] at ho)); have n0_ := Aside0.mk (hb); have n1_ := Aside0.mk (ho); clear HB; clear HO_4; clear HO298; have HB := n0_; have HO301 := n1_; clear n0_ n1_; clear ho hb hg hat))
                              go_roundg kj13
                              case measure => have := HK1.out; have := HJ13.out; omega
                              case rel => exact ⟨(y299), (false), (wrap64 (x8_1 + 1)), (0), (wrap64 (x8_1 + 1)), (by first | rfl | (simp; done) | (simp [*]; done) | (simp; omega)), (by first | rfl | (simp; done) | (simp [*]; done) | (simp; omega)), (by first | rfl | (simp; done) | (simp [*]; done) | (simp; omega)), (by first | rfl | (simp; done) | (simp [*]; done) | (simp; omega)), H', ⟨by have := HK1.out; have := HJ13.out; omega⟩, ⟨by (with_reducible repeat (first | apply Kd.S_alloc | apply Kd.S_drewN | apply Kd.S_drew)); exact HO301.out⟩, ⟨by repeat (first | (with_reducible first | exact HB.out | apply below_alloc | apply pw_below_drewN | apply below_drew1) | exact HB.out)⟩⟩
                            · rw [if_neg c22] at H
                              exact absurd H (by simp)
                          · rw [if_neg c21] at H
                            have c21b0 : (t296 == 0) = false := beq_eq_false_iff_ne.mpr c21
                            have c21b1 : (t296 != 0) = true := bne_iff_ne.mpr c21
                            by_cases c27 : x4_1.length < 3518437208883
                            · rw [if_pos c27] at H
                              have LMc27 := Aside0.mk c27
                              clear c27
                              obtain ⟨y302, hy302⟩ : ∃ y_ : List (S61), y_ = (x4_1 ++ [(⟨1, ([] : List Int), wrap64 (x8_1 + 1)⟩ : S61)]) := ⟨_, rfl⟩
                              replace H : (signalmanref01_Hear.l0 kj13 l0 y302 false (wrap64 (x8_1 + 1)) 0 (wrap64 (x8_1 + 1))) = some (r1, r2) := by first | (rw [hy302]; with_reducible exact H) | (have H2_ := (Option.bind_some _ _).symm.trans H; rw [hy302]; with_reducible exact H2_) | (have H2_ := (Option.bind_some _ _).symm.trans H; with_reducible exact H2_) | with_reducible exact H | (rw [hy302]; exact H) | exact H
                              have Ny302 := Aside0.mk hy302
                              clear hy302
                              have H' := Aside0.mk H
                              clear H
                              obtain ⟨i028, hi028, _, hsz28, _⟩ := info_parts info4
                              obtain ⟨A28, hcut28, hA28, hC28⟩ := print_mid_of (P := Try.prog) Value.bool false 26 4 .i64 .i64 Try.underlying26 hi028 hsz28 (some ad290) c0 l0 x6_1 (wrap64 (x8_1 - 7)) (of_decide_eq_true (by first | (with_reducible assumption) | assumption)) (by first | omega | exact of_decide_eq_true (by first | (with_reducible assumption) | assumption)) (of_decide_eq_true (by first | (with_reducible assumption) | assumption)) HC0.out
                              have HR294 := Aside0.mk (Kd.C_of_reads (h1 := fun _ => rfl) (hA28 _ (Kd.reads_of_C HR0.out)))
                              have HC294 := Aside0.mk hC28
                              clear hA28 hC28 hi028 hsz28
                              go_wp2_with (first | ((with_reducible refine gate_callee (f := 20) rfl ?_); refine goesL_ (some 50) rfl rfl Try.func20 (by kernel_rfl) rfl #[.slice A28 ((l0.take ((wrap64 (x8_1 - 7)) : Int).toNat).drop (x6_1 : Int).toNat).length (c0 - x6_1.toNat)] rfl (by (try simp only [List.map_toArray, List.map_cons, List.map_nil]); first | done | (rw [show ((l0.take ((wrap64 (x8_1 - 7)) : Int).toNat).drop (x6_1 : Int).toNat).length = ((wrap64 (x8_1 - 7)).toNat - x6_1.toNat) from (by rw [List.length_drop, List.length_take]; have h_ : ((wrap64 (x8_1 - 7)) : Int) ≤ (l0.length : Int) := of_decide_eq_true (by first | (with_reducible assumption) | assumption); omega)] <;> rfl) | rfl | (simp only [List.length_drop, List.length_take]; rfl)) ?_; (with_reducible refine (signalmanref01_Judge.calls kj13 _ _ ((l0.take ((wrap64 (x8_1 - 7)) : Int).toNat).drop (x6_1 : Int).toNat) t295 t296 _ ?side1 ?side2 A20.out).mono ?_); (case side1 => repeat (first | exact (Kd.C_below HR294.out HB.out) | (with_reducible refine Kd.C_alloc ?_ _) | (with_reducible refine Kd.C_drewN ?_ _) | (with_reducible refine Kd.C_drew ?_))); (case side2 => exact HC294.out); rintro e w29 ⟨v297, rfl, ho0, hb⟩; refine ⟨_, rfl, ?_⟩; have n0_ := Aside0.mk (Kd.S_elder' (by (with_reducible repeat (first | apply Kd.S_alloc | apply Kd.S_drewN | apply Kd.S_drew)); exact HO_4.out) (Kd.R_base ho0) hb); have n1_ := Aside0.mk (Kd.R_lower ho0 (below_size (by repeat (first | (with_reducible first | exact HB.out | apply below_alloc | apply pw_below_drewN | apply below_drew1) | exact HB.out)))); have n2_ := Aside0.mk (below_step (by repeat (first | (with_reducible first | exact HB.out | apply below_alloc | apply pw_below_drewN | apply below_drew1) | exact HB.out)) hb); clear HO_4; clear HB; have HO_4 := n0_; have HO298 := n1_; have HB := n2_; clear n0_ n1_ n2_; (try clear hb); (try clear hb2); (try clear hk); (try clear hi); (try clear ho0)) | ((with_reducible refine gate_builtin (b := .append) (xs := #[.tmp 62, .tmp 66]) rfl ?_); at_builtin; refine Kd.S_append k61 (w0 := w) w.heap.size rfl (.tmp 62) (.tmp 66) 51 61 (.agg #[(.int .u8 0), (.slice none 0 0), (.int .i64 0)]) 40 rfl Try.underlying51 info61 rfl (by decide) (by omega) u4 x4_1 (⟨1, ([] : List Int), wrap64 (x8_1 + 1)⟩ : S61) [.int .u8 1, .slice none 0 0, .int .i64 (wrap64 (x8_1 + 1))] (fun k_ => some k_ ≠ (v297 : Value).ownBlock) (fun _ => False) rfl rfl ?aP (fun k_ hk_ => hk_.elim) ?aF ?aO ?aB ?aS ?aL ?_; (case aP => exact k61_mkM _ _ _ (⟨1, ([] : List Int), wrap64 (x8_1 + 1)⟩ : S61) (Kd.R_nil _ _ _ _ _)); (case aB => exact (by repeat (first | (with_reducible first | exact HB.out | apply below_alloc | apply pw_below_drewN | apply below_drew1) | exact HB.out))); (case aF => exact (fun k_ hk => Kd.fresh' (Kd.R_lt (by (with_reducible repeat (first | apply Kd.R_alloc | apply Kd.R_drewN | apply Kd.R_drew)); exact HO298.out)) k_ hk)); (case aO => exact (by (with_reducible repeat (first | apply Kd.S_alloc | apply Kd.S_drewN | apply Kd.S_drew)); exact Kd.S_mono HO_4.out (fun k_ hk => ⟨hk.2, fun e_ => e_⟩))); (case aS => exact (below_size (by repeat (first | (with_reducible first | exact HB.out | apply below_alloc | apply pw_below_drewN | apply below_drew1) | exact HB.out)))); (case aL => have := LMc27.out; omega); intro v303 w30 ho hb hg hat; (first | rw [← Ny302.out] at ho | (have hy_ := Ny302.out; (try rw [← Nbq4.out] at hy_); rw [← hy_] at ho)); have n0_ := Aside0.mk (Kd.R_over' (by (with_reducible repeat (first | apply Kd.R_alloc | apply Kd.R_drewN | apply Kd.R_drew)); exact HO298.out) (Kd.S_typed (by (with_reducible repeat (first | apply Kd.S_alloc | apply Kd.S_drewN | apply Kd.S_drew)); exact HO_4.out)) (by decide) hg); have n1_ := Aside0.mk (hb); have n2_ := Aside0.mk (ho); clear HO298; clear HB; clear HO_4; have HO298 := n0_; have HB := n1_; have HO304 := n2_; clear n0_ n1_ n2_; clear ho hb hg hat))
                              go_roundg kj13
                              case measure => have := HK1.out; have := HJ13.out; omega
                              case rel => exact ⟨(y302), (false), (wrap64 (x8_1 + 1)), (0), (wrap64 (x8_1 + 1)), (by first | rfl | (simp; done) | (simp [*]; done) | (simp; omega)), (by first | rfl | (simp; done) | (simp [*]; done) | (simp; omega)), (by first | rfl | (simp; done) | (simp [*]; done) | (simp; omega)), (by first | rfl | (simp; done) | (simp [*]; done) | (simp; omega)), H', ⟨by have := HK1.out; have := HJ13.out; omega⟩, ⟨by (with_reducible repeat (first | apply Kd.S_alloc | apply Kd.S_drewN | apply Kd.S_drew)); exact Kd.S_mono HO304.out (fun _ hk => trivial)⟩, ⟨by repeat (first | (with_reducible first | exact HB.out | apply below_alloc | apply pw_below_drewN | apply below_drew1) | exact HB.out)⟩⟩
                            · rw [if_neg c27] at H
                              exact absurd H (by simp)
                        · rw [if_neg c19] at H
                          exact absurd H (by simp)
                      · rw [if_neg c18] at H
                        exact absurd H (by simp)
                    · rw [if_neg c17] at H
                      exact absurd H (by simp)
                  · replace c16 := Bool.eq_false_iff.mpr c16
                    subst c16
                    have H1 : (signalmanref01_Hear.l0 kj13 l0 x4_1 false (wrap64 (x8_1 + 1)) 0 (wrap64 (x8_1 + 1))) = some (r1, r2) := by rw [if_neg (show ¬ (false = true) by decide)] at H; exact H
                    clear H
                    have H := H1
                    clear H1
                    have H' := Aside0.mk H
                    clear H
                    go_wp2
                    go_roundg kj13
                    case measure => have := HK1.out; have := HJ13.out; omega
                    case rel => exact ⟨(x4_1), (false), (wrap64 (x8_1 + 1)), (0), (wrap64 (x8_1 + 1)), (by first | rfl | (simp; done) | (simp [*]; done) | (simp; omega)), (by first | rfl | (simp; done) | (simp [*]; done) | (simp; omega)), (by first | rfl | (simp; done) | (simp [*]; done) | (simp; omega)), (by first | rfl | (simp; done) | (simp [*]; done) | (simp; omega)), H', ⟨by have := HK1.out; have := HJ13.out; omega⟩, ⟨by (with_reducible repeat (first | apply Kd.S_alloc | apply Kd.S_drewN | apply Kd.S_drew)); exact HO_4.out⟩, ⟨by repeat (first | (with_reducible first | exact HB.out | apply below_alloc | apply pw_below_drewN | apply below_drew1) | exact HB.out)⟩⟩
            · rw [if_neg c13] at H
              have c13b0 : (x7_1 == 6) = false := beq_eq_false_iff_ne.mpr c13
              have c13b1 : (x7_1 != 6) = true := bne_iff_ne.mpr c13
              have HC31 := Aside0.mk H
              clear H
              have p290 : 0 ≤ (x8_1 : Int) := of_decide_eq_true (by first | (with_reducible assumption) | assumption)
              have q290 : x8_1 < (l0.length : Int) := of_decide_eq_true (by first | (with_reducible assumption) | assumption)
              obtain ⟨ad290, e290, hx290_0⟩ := Kd.at_bool HR0.out x8_1 p290 q290
              (try rw [← Nbq4.out] at hx290_0)
              cases e290
              replace hx290_0 := (HB.out.cell (World.block_lt_of_cell? w _ hx290_0)).trans hx290_0
              replace p290 := eq_true p290
              replace q290 := eq_true q290
              go_upto_region 23 with (fail)
              go_cut [78] (fun v78 wc => ∃ (kq : Nat) (x78_30 : Bool), v78 = .bool x78_30 ∧ Aside0 (signalmanref01_Hear.j3 kq l0 x4_1 x5_1 x6_1 0 x8_1 x78_30 = some (r1, r2)) ∧ Aside0 (kq ≤ k1) ∧ Aside0 (Kd.S k61 61 wc w.heap.size (fun _ => True) u4 x4_1) ∧ Aside0 (Below w.heap.size w wc))
              case first =>
                have H := HC31.out
                clear HC31
                by_cases c32 : x5_1 = true
                · subst c32
                  have H1 : (signalmanref01_Hear.j3 k1 l0 x4_1 true x6_1 0 x8_1 false) = some (r1, r2) := by rw [if_pos rfl] at H; exact H
                  clear H
                  have H := H1
                  clear H1
                  have H' := Aside0.mk H
                  clear H
                  go_wp2
                  go_meet
                  case rel => exact ⟨_, (false), (by first | rfl | (simp; done) | (simp [*]; done) | (simp; omega)), H', ⟨by have := HK1.out; first | omega | exact Nat.le_refl _⟩, ⟨by (with_reducible repeat (first | apply Kd.S_alloc | apply Kd.S_drewN | apply Kd.S_drew)); exact HO_4.out⟩, ⟨by repeat (first | (with_reducible first | exact HB.out | apply below_alloc | apply pw_below_drewN | apply below_drew1) | exact HB.out)⟩⟩
                · replace c32 := Bool.eq_false_iff.mpr c32
                  subst c32
                  have H1 : (signalmanref01_Hear.j3 k1 l0 x4_1 false x6_1 0 x8_1 (decide ((wrap64 ((wrap64 (x8_1 + 1)) - x6_1)) > 2687))) = some (r1, r2) := by rw [if_neg (show ¬ (false = true) by decide)] at H; exact H
                  clear H
                  have H := H1
                  clear H1
                  have H' := Aside0.mk H
                  clear H
                  go_wp2
                  go_meet
                  case rel => exact ⟨_, (decide ((wrap64 ((wrap64 (x8_1 + 1)) - x6_1)) > 2687)), (by first | rfl | (simp; done) | (simp [*]; done) | (simp; omega)), H', ⟨by have := HK1.out; first | omega | exact Nat.le_refl _⟩, ⟨by (with_reducible repeat (first | apply Kd.S_alloc | apply Kd.S_drewN | apply Kd.S_drew)); exact HO_4.out⟩, ⟨by repeat (first | (with_reducible first | exact HB.out | apply below_alloc | apply pw_below_drewN | apply below_drew1) | exact HB.out)⟩⟩
              case rest =>
                clear HC31
                try clear c1
                try clear c2
                try clear c2b0
                try clear p2
                try clear q2
                try clear hx2
                try clear c3
                try clear c3b0
                try clear q4
                try clear c5
                try clear p6
                try clear c7
                try clear c8
                try clear c9
                try clear c10
                try clear c10b0
                try clear c10b1
                try clear c11
                try clear c13
                try clear c13b0
                try clear c13b1
                try clear c15
                try clear c16
                try clear c17
                try clear c17b0
                try clear c17b1
                try clear c18
                try clear c18b0
                try clear c18b1
                try clear c19
                try clear c19b0
                try clear c19b1
                try clear c20
                try clear c21
                try clear c21b0
                try clear c21b1
                try clear c22
                try clear c24
                try clear c27
                try clear p29
                try clear q29
                try clear hx29
                try clear c32
                try clear hx290_0
                try clear p2
                try clear p290
                try clear p6
                try clear q2
                try clear q290
                try clear q4
                obtain ⟨kq, x78_30, rfl, HA, HJ30, HO_4, HB⟩ := hcut
                cases kq with
                | zero => exact absurd HA.out (by simp [signalmanref01_Hear.j3])
                | succ kj30 =>
                  have H := HA.out
                  clear HA
                  simp only [signalmanref01_Hear.j3] at H
                  by_cases c33 : x78_30 = true
                  · subst c33
                    have H1 : (signalmanref01_Hear.l0 kj30 l0 x4_1 true (wrap64 (x8_1 + 1)) 0 (wrap64 (x8_1 + 1))) = some (r1, r2) := by rw [if_pos rfl] at H; exact H
                    clear H
                    have H := H1
                    clear H1
                    have H' := Aside0.mk H
                    clear H
                    go_wp2
                    go_roundg kj30
                    case measure => have := HK1.out; have := HJ30.out; omega
                    case rel => exact ⟨(x4_1), (true), (wrap64 (x8_1 + 1)), (0), (wrap64 (x8_1 + 1)), (by first | rfl | (simp; done) | (simp [*]; done) | (simp; omega)), (by first | rfl | (simp; done) | (simp [*]; done) | (simp; omega)), (by first | rfl | (simp; done) | (simp [*]; done) | (simp; omega)), (by first | rfl | (simp; done) | (simp [*]; done) | (simp; omega)), H', ⟨by have := HK1.out; have := HJ30.out; omega⟩, ⟨by (with_reducible repeat (first | apply Kd.S_alloc | apply Kd.S_drewN | apply Kd.S_drew)); exact HO_4.out⟩, ⟨by repeat (first | (with_reducible first | exact HB.out | apply below_alloc | apply pw_below_drewN | apply below_drew1) | exact HB.out)⟩⟩
                  · replace c33 := Bool.eq_false_iff.mpr c33
                    subst c33
                    have H1 : (if x5_1 = true then (if (wrap64 ((wrap64 (x8_1 + 1)) - x6_1)) = 128 then (if x4_1.length < 3518437208883 then (signalmanref01_Hear.l0 kj30 l0 (x4_1 ++ [(⟨2, ([] : List Int), wrap64 (x8_1 + 1)⟩ : S61)]) x5_1 (wrap64 (x8_1 + 1)) 0 (wrap64 (x8_1 + 1))) else (none)) else (signalmanref01_Hear.l0 kj30 l0 x4_1 x5_1 x6_1 0 (wrap64 (x8_1 + 1)))) else (signalmanref01_Hear.l0 kj30 l0 x4_1 x5_1 x6_1 0 (wrap64 (x8_1 + 1)))) = some (r1, r2) := by rw [if_neg (show ¬ (false = true) by decide)] at H; exact H
                    clear H
                    have H := H1
                    clear H1
                    by_cases c34 : x5_1 = true
                    · subst c34
                      have H1 : (if (wrap64 ((wrap64 (x8_1 + 1)) - x6_1)) = 128 then (if x4_1.length < 3518437208883 then (signalmanref01_Hear.l0 kj30 l0 (x4_1 ++ [(⟨2, ([] : List Int), wrap64 (x8_1 + 1)⟩ : S61)]) true (wrap64 (x8_1 + 1)) 0 (wrap64 (x8_1 + 1))) else (none)) else (signalmanref01_Hear.l0 kj30 l0 x4_1 true x6_1 0 (wrap64 (x8_1 + 1)))) = some (r1, r2) := by rw [if_pos rfl] at H; exact H
                      clear H
                      have H := H1
                      clear H1
                      by_cases c35 : (wrap64 ((wrap64 (x8_1 + 1)) - x6_1)) = 128
                      · rw [if_pos c35] at H
                        have c35b0 : ((wrap64 ((wrap64 (x8_1 + 1)) - x6_1)) == 128) = true := beq_iff_eq.mpr c35
                        have c35b1 : ((wrap64 ((wrap64 (x8_1 + 1)) - x6_1)) != 128) = false := bne_eq_false_iff_eq.mpr c35
                        clear c35
                        by_cases c36 : x4_1.length < 3518437208883
                        · rw [if_pos c36] at H
                          have LMc36 := Aside0.mk c36
                          clear c36
                          obtain ⟨y305, hy305⟩ : ∃ y_ : List (S61), y_ = (x4_1 ++ [(⟨2, ([] : List Int), wrap64 (x8_1 + 1)⟩ : S61)]) := ⟨_, rfl⟩
                          replace H : (signalmanref01_Hear.l0 kj30 l0 y305 true (wrap64 (x8_1 + 1)) 0 (wrap64 (x8_1 + 1))) = some (r1, r2) := by first | (rw [hy305]; with_reducible exact H) | (have H2_ := (Option.bind_some _ _).symm.trans H; rw [hy305]; with_reducible exact H2_) | (have H2_ := (Option.bind_some _ _).symm.trans H; with_reducible exact H2_) | with_reducible exact H | (rw [hy305]; exact H) | exact H
                          have Ny305 := Aside0.mk hy305
                          clear hy305
                          have H' := Aside0.mk H
                          clear H
                          go_wp2_with (first | ((with_reducible refine gate_builtin (b := .append) (xs := #[.tmp 89, .tmp 93]) rfl ?_); at_builtin; refine Kd.S_append k61 (w0 := w) w.heap.size rfl (.tmp 89) (.tmp 93) 51 61 (.agg #[(.int .u8 0), (.slice none 0 0), (.int .i64 0)]) 40 rfl Try.underlying51 info61 rfl (by decide) (by omega) u4 x4_1 (⟨2, ([] : List Int), wrap64 (x8_1 + 1)⟩ : S61) [.int .u8 2, .slice none 0 0, .int .i64 (wrap64 (x8_1 + 1))] (fun _ => True) (fun _ => False) rfl rfl ?aP (fun k_ hk_ => hk_.elim) ?aF ?aO ?aB ?aS ?aL ?_; (case aP => exact k61_mkM _ _ _ (⟨2, ([] : List Int), wrap64 (x8_1 + 1)⟩ : S61) (Kd.R_nil _ _ _ _ _)); (case aB => exact (by repeat (first | (with_reducible first | exact HB.out | apply below_alloc | apply pw_below_drewN | apply below_drew1) | exact HB.out))); (case aF => exact (fun _ _ => trivial)); (case aO => exact (by (with_reducible repeat (first | apply Kd.S_alloc | apply Kd.S_drewN | apply Kd.S_drew)); exact Kd.S_mono HO_4.out (fun k_ hk => ⟨trivial, fun e_ => e_⟩))); (case aS => exact (below_size (by repeat (first | (with_reducible first | exact HB.out | apply below_alloc | apply pw_below_drewN | apply below_drew1) | exact HB.out)))); (case aL => have := LMc36.out; omega); intro v306 w37 ho hb hg hat; (first | rw [← Ny305.out] at ho | (have hy_ := Ny305.out; (try rw [← Nbq4.out] at hy_); rw [← hy_] at ho)); have n0_ := Aside0.mk (hb); have n1_ := Aside0.mk (ho); clear HB; clear HO_4; have HB := n0_; have HO307 := n1_; clear n0_ n1_; clear ho hb hg hat))
                          go_roundg kj30
                          case measure => have := HK1.out; have := HJ30.out; omega
                          case rel => exact ⟨(y305), (true), (wrap64 (x8_1 + 1)), (0), (wrap64 (x8_1 + 1)), (by first | rfl | (simp; done) | (simp [*]; done) | (simp; omega)), (by first | rfl | (simp; done) | (simp [*]; done) | (simp; omega)), (by first | rfl | (simp; done) | (simp [*]; done) | (simp; omega)), (by first | rfl | (simp; done) | (simp [*]; done) | (simp; omega)), H', ⟨by have := HK1.out; have := HJ30.out; omega⟩, ⟨by (with_reducible repeat (first | apply Kd.S_alloc | apply Kd.S_drewN | apply Kd.S_drew)); exact HO307.out⟩, ⟨by repeat (first | (with_reducible first | exact HB.out | apply below_alloc | apply pw_below_drewN | apply below_drew1) | exact HB.out)⟩⟩
                        · rw [if_neg c36] at H
                          exact absurd H (by simp)
                      · rw [if_neg c35] at H
                        have c35b0 : ((wrap64 ((wrap64 (x8_1 + 1)) - x6_1)) == 128) = false := beq_eq_false_iff_ne.mpr c35
                        have c35b1 : ((wrap64 ((wrap64 (x8_1 + 1)) - x6_1)) != 128) = true := bne_iff_ne.mpr c35
                        have H' := Aside0.mk H
                        clear H
                        go_wp2
                        go_roundg kj30
                        case measure => have := HK1.out; have := HJ30.out; omega
                        case rel => exact ⟨(x4_1), (true), (x6_1), (0), (wrap64 (x8_1 + 1)), (by first | rfl | (simp; done) | (simp [*]; done) | (simp; omega)), (by first | rfl | (simp; done) | (simp [*]; done) | (simp; omega)), (by first | rfl | (simp; done) | (simp [*]; done) | (simp; omega)), (by first | rfl | (simp; done) | (simp [*]; done) | (simp; omega)), H', ⟨by have := HK1.out; have := HJ30.out; omega⟩, ⟨by (with_reducible repeat (first | apply Kd.S_alloc | apply Kd.S_drewN | apply Kd.S_drew)); exact HO_4.out⟩, ⟨by repeat (first | (with_reducible first | exact HB.out | apply below_alloc | apply pw_below_drewN | apply below_drew1) | exact HB.out)⟩⟩
                    · replace c34 := Bool.eq_false_iff.mpr c34
                      subst c34
                      have H1 : (signalmanref01_Hear.l0 kj30 l0 x4_1 false x6_1 0 (wrap64 (x8_1 + 1))) = some (r1, r2) := by rw [if_neg (show ¬ (false = true) by decide)] at H; exact H
                      clear H
                      have H := H1
                      clear H1
                      have H' := Aside0.mk H
                      clear H
                      go_wp2
                      go_roundg kj30
                      case measure => have := HK1.out; have := HJ30.out; omega
                      case rel => exact ⟨(x4_1), (false), (x6_1), (0), (wrap64 (x8_1 + 1)), (by first | rfl | (simp; done) | (simp [*]; done) | (simp; omega)), (by first | rfl | (simp; done) | (simp [*]; done) | (simp; omega)), (by first | rfl | (simp; done) | (simp [*]; done) | (simp; omega)), (by first | rfl | (simp; done) | (simp [*]; done) | (simp; omega)), H', ⟨by have := HK1.out; have := HJ30.out; omega⟩, ⟨by (with_reducible repeat (first | apply Kd.S_alloc | apply Kd.S_drewN | apply Kd.S_drew)); exact HO_4.out⟩, ⟨by repeat (first | (with_reducible first | exact HB.out | apply below_alloc | apply pw_below_drewN | apply below_drew1) | exact HB.out)⟩⟩
        · rw [if_neg c3] at H
          exact absurd H (by simp)
      · rw [if_neg c2] at H
        have c2b0 : decide (x8_1 < (l0.length : Int)) = false := decide_eq_false c2
        clear c2
        simp only [Option.some.injEq, Prod.mk.injEq] at H
        obtain ⟨rfl, rfl⟩ := H
        go_wp2
        go_ret2
        exact ⟨_, by first | rfl | (simp [errW_none, errW_some] <;> rfl) | (simp [*, errW_none, errW_some] <;> rfl), by (with_reducible repeat (first | apply Kd.S_alloc | apply Kd.S_drewN | apply Kd.S_drew)); exact HO_4.out, by repeat (first | (with_reducible first | exact HB.out | apply below_alloc | apply pw_below_drewN | apply below_drew1) | exact HB.out)⟩

end Go.Proofs.Ytonhgiclaieamaa.MFlagCuts
