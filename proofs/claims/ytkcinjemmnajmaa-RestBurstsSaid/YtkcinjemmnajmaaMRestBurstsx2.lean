/- A part of the proof of the given statement that each law names; no condition. Written by a program of this session's own (wip/tools/myprint.py, over the kit's print); Lean checks it. -/
import Derived.Test.YtkcinjemmnajmaaMRestBurstsx0
import Derived.Test.YtkcinjemmnajmaaMRestBurstsx1
namespace Go.Proofs.Ytkcinjemmnajmaa.MRestBursts
open Go.RowKit Go.Proofs.Ytkcinjemmnajmaa Go.Proofs.YtkcinjemmnajmaaW.PrintWords Go.Proofs.YtkcinjemmnajmaaW.PrintLast Go.Proofs.YtkcinjemmnajmaaW.PrintMore
attribute [local go_sem] max2_int min2_int max_two min_two max_three min_three max_four min_four   -- for this text's walks alone
set_option linter.unusedVariables false
set_option linter.unusedSimpArgs false

/-! ### signalmanref01_Octets: function 14 -/
mutual
def signalmanref01_Octets.l0 : Nat → List Bool → List Int → Int → Option (List Int)
  | 0, _, _, _ => none
  | k + 1, x0, x3, x4 => if (wrap64 (x4 + 8)) ≤ (x0.length : Int) then (signalmanref01_Octets.l1 k x0 x3 x4 0 7) else (some x3)
def signalmanref01_Octets.l1 : Nat → List Bool → List Int → Int → Int → Int → Option (List Int)
  | 0, _, _, _, _, _ => none
  | k + 1, x0, x3, x4, x5, x6 => if x6 ≥ 0 then (if 0 ≤ (wrap64 (x4 + x6)) then (if (wrap64 (x4 + x6)) < (x0.length : Int) then (if rdOf false x0 (wrap64 (x4 + x6)) = true then (signalmanref01_Octets.l1 k x0 x3 x4 ((((x5 * 2) % 256) + 1) % 256) (wrap64 (x6 - 1))) else (signalmanref01_Octets.l1 k x0 x3 x4 ((x5 * 2) % 256) (wrap64 (x6 - 1)))) else (none)) else (none)) else (if x3.length < 140737488355328 then (signalmanref01_Octets.l0 k x0 (x3 ++ [x5]) (wrap64 (x4 + 8))) else (none))
end
def signalmanref01_Octets.f (k : Nat) (l0 : List Bool) : Option (List Int) := signalmanref01_Octets.l0 k l0 ([] : List Int) 0
theorem signalmanref01_Octets.mono_l : ∀ k, (∀ y0 y1 y2, LeO (signalmanref01_Octets.l0 k y0 y1 y2) (signalmanref01_Octets.l0 (k + 1) y0 y1 y2)) ∧ (∀ y0 y1 y2 y3 y4, LeO (signalmanref01_Octets.l1 k y0 y1 y2 y3 y4) (signalmanref01_Octets.l1 (k + 1) y0 y1 y2 y3 y4))
  | 0 => ⟨fun _ _ _ r h => by simp [signalmanref01_Octets.l0] at h, fun _ _ _ _ _ r h => by simp [signalmanref01_Octets.l1] at h⟩
  | k + 1 => by
    obtain ⟨ih0, ih1⟩ := signalmanref01_Octets.mono_l k
    refine ⟨?_, ?_⟩
    · intro y0 y1 y2
      unfold signalmanref01_Octets.l0
      repeat' first
      | (with_reducible exact ih0 _ _ _)
      | (with_reducible exact ih1 _ _ _ _ _)
      | (with_reducible exact LeO.refl _)
      | (with_reducible exact LeO.none _)
      | (with_reducible refine LeO.ite ?_ ?_)
      | (with_reducible refine LeO.bind ?_ (fun _ => ?_))
      | exact ih0 _ _ _
      | exact ih1 _ _ _ _ _
      | exact LeO.none _
      | refine LeO.ite ?_ ?_
      | refine LeO.bind ?_ (fun _ => ?_)
    · intro y0 y1 y2 y3 y4
      unfold signalmanref01_Octets.l1
      repeat' first
      | (with_reducible exact ih0 _ _ _)
      | (with_reducible exact ih1 _ _ _ _ _)
      | (with_reducible exact LeO.refl _)
      | (with_reducible exact LeO.none _)
      | (with_reducible refine LeO.ite ?_ ?_)
      | (with_reducible refine LeO.bind ?_ (fun _ => ?_))
      | exact ih0 _ _ _
      | exact ih1 _ _ _ _ _
      | exact LeO.none _
      | refine LeO.ite ?_ ?_
      | refine LeO.bind ?_ (fun _ => ?_)
theorem signalmanref01_Octets.mono : ∀ a0 k, LeO (signalmanref01_Octets.f k a0) (signalmanref01_Octets.f (k + 1) a0) := by
  intro a0 k
  obtain ⟨ih0, ih1⟩ := signalmanref01_Octets.mono_l k
  unfold signalmanref01_Octets.f
  repeat' first
      | (with_reducible exact ih0 _ _ _)
      | (with_reducible exact ih1 _ _ _ _ _)
      | (with_reducible exact LeO.refl _)
      | (with_reducible exact LeO.none _)
      | (with_reducible refine LeO.ite ?_ ?_)
      | (with_reducible refine LeO.bind ?_ (fun _ => ?_))
      | exact ih0 _ _ _
      | exact ih1 _ _ _ _ _
      | exact LeO.none _
      | refine LeO.ite ?_ ?_
      | refine LeO.bind ?_ (fun _ => ?_)
set_option maxHeartbeats 8000000 in
set_option maxRecDepth 100000 in
theorem signalmanref01_Octets.calls (k : Nat) (A0 : Option Addr) (c0 : Nat) (l0 : List Bool) (r : List Int) (w : World) (hr0 : Kd.C Kd.bool w A0 l0.length l0) (hc0 : l0.length ≤ c0) (h : signalmanref01_Octets.f k l0 = some r) :
    Calls Try.prog 14 #[.slice A0 l0.length c0] w fun e w' => ∃ v0_ : Value, e = .returned (v0_) ∧ Kd.R (Kd.int .u8) 5 w' w.heap.size (fun _ => True) v0_ r ∧ Below w.heap.size w w' := by
  have HR0 := Aside0.mk hr0
  have HC0 := Aside0.mk hc0
  clear hr0 hc0
  have HB := Aside0.mk (Below.refl w.heap.size w)
  have H : (signalmanref01_Octets.l0 k l0 ([] : List Int) 0) = some r := h
  clear h
  have H' := Aside0.mk H
  clear H
  go_enter Try.func14, Try.ntmps14
  go_wp2
  go_loopg [3, 4] k (fun kq v3 v4 w' => ∃ (x3_1 : List Int) (x4_1 : Int), v4 = .int .i64 x4_1 ∧ Aside0 (signalmanref01_Octets.l0 kq l0 x3_1 x4_1 = some r) ∧ Aside0 (kq ≤ k) ∧ Aside0 (Kd.R (Kd.int .u8) 5 w' w.heap.size (fun _ => True) v3 x3_1) ∧ Aside0 (Below w.heap.size w w'))
  case atStart => exact ⟨(([] : List Int)), (0), (by first | rfl | (simp; done) | (simp [*]; done) | (simp; omega)), H', ⟨Nat.le_refl _⟩, ⟨by first | exact Kd.R_nil _ _ _ _ _ | exact Kd.N_nil _ _ _ _ _ | exact Kd.V_nil _ _ _ _ _ | exact Kd.Q_nil _ _ _ _ _ | exact Kd.S_nil _ _ _ _ _⟩, ⟨by repeat (first | (with_reducible first | exact HB.out | apply below_alloc | apply pw_below_drewN | apply below_drew1) | exact HB.out)⟩⟩
  case round =>
    clear H'
    try clear c1
    obtain ⟨x3_1, x4_1, rfl, HA, HK1, HO_3, HB⟩ := hrel
    cases gk with
    | zero => exact absurd HA.out (by simp [signalmanref01_Octets.l0])
    | succ k1 =>
      have H := HA.out
      clear HA
      simp only [signalmanref01_Octets.l0] at H
      by_cases c2 : (wrap64 (x4_1 + 8)) ≤ (l0.length : Int)
      · rw [if_pos c2] at H
        have c2b0 : decide ((wrap64 (x4_1 + 8)) ≤ (l0.length : Int)) = true := decide_eq_true c2
        clear c2
        have H' := Aside0.mk H
        clear H
        go_wp2
        go_loopg [5, 6] k1 (fun kq v5 v6 w' => ∃ (x5_2 : Int) (x6_2 : Int), v5 = .int .u8 x5_2 ∧ v6 = .int .i64 x6_2 ∧ Aside0 (signalmanref01_Octets.l1 kq l0 x3_1 x4_1 x5_2 x6_2 = some r) ∧ Aside0 (kq ≤ k1) ∧ Aside0 (Kd.R (Kd.int .u8) 5 w' w.heap.size (fun _ => True) u3 x3_1) ∧ Aside0 (Below w.heap.size w w'))
        case atStart => exact ⟨(0), (7), (by first | rfl | (simp; done) | (simp [*]; done) | (simp; omega)), (by first | rfl | (simp; done) | (simp [*]; done) | (simp; omega)), H', ⟨Nat.le_refl _⟩, ⟨by (with_reducible repeat (first | apply Kd.R_alloc | apply Kd.R_drewN | apply Kd.R_drew)); exact HO_3.out⟩, ⟨by repeat (first | (with_reducible first | exact HB.out | apply below_alloc | apply pw_below_drewN | apply below_drew1) | exact HB.out)⟩⟩
        case round =>
          clear H'
          try clear c1
          try clear c2
          try clear c2b0
          try clear p2
          obtain ⟨x5_2, x6_2, rfl, rfl, HA, HK2, HO_3, HB⟩ := hrel
          cases gk with
          | zero => exact absurd HA.out (by simp [signalmanref01_Octets.l1])
          | succ k2 =>
            have H := HA.out
            clear HA
            simp only [signalmanref01_Octets.l1] at H
            by_cases c3 : x6_2 ≥ 0
            · rw [if_pos c3] at H
              have c3b0 : decide (0 ≤ x6_2) = true := decide_eq_true c3
              clear c3
              obtain ⟨ji4, hji4⟩ : ∃ j_ : Int, (wrap64 (x4_1 + x6_2)) = j_ := ⟨_, rfl⟩
              replace H : (if 0 ≤ (ji4) then (if (ji4) < (l0.length : Int) then (if rdOf false l0 (ji4) = true then (signalmanref01_Octets.l1 k2 l0 x3_1 x4_1 ((((x5_2 * 2) % 256) + 1) % 256) (wrap64 (x6_2 - 1))) else (signalmanref01_Octets.l1 k2 l0 x3_1 x4_1 ((x5_2 * 2) % 256) (wrap64 (x6_2 - 1)))) else (none)) else (none)) = some r := by first | (rw [hji4] at H; exact H) | (simp only [hji4] at H ⊢; exact H)
              have hji4w : (IntKind.i64.wrap (x4_1 + x6_2)) = ji4 := (i64_w _).trans hji4
              by_cases c5 : 0 ≤ (ji4)
              · rw [if_pos c5] at H
                have c5b0 : decide (0 ≤ (ji4)) = true := decide_eq_true c5
                clear c5
                by_cases c6 : (ji4) < (l0.length : Int)
                · rw [if_pos c6] at H
                  have c6b0 : decide ((ji4) < (l0.length : Int)) = true := decide_eq_true c6
                  clear c6
                  obtain ⟨bq7, hbq7⟩ : ∃ b_ : Bool, b_ = (rdOf false l0 (ji4)) := ⟨_, rfl⟩
                  replace H : (if bq7 = true then (signalmanref01_Octets.l1 k2 l0 x3_1 x4_1 ((((x5_2 * 2) % 256) + 1) % 256) (wrap64 (x6_2 - 1))) else (signalmanref01_Octets.l1 k2 l0 x3_1 x4_1 ((x5_2 * 2) % 256) (wrap64 (x6_2 - 1)))) = some r := by rw [← hbq7] at H; exact H
                  have Nbq7 := Aside0.mk hbq7
                  clear hbq7
                  by_cases c8 : bq7 = true
                  · subst c8
                    have H1 : (signalmanref01_Octets.l1 k2 l0 x3_1 x4_1 ((((x5_2 * 2) % 256) + 1) % 256) (wrap64 (x6_2 - 1))) = some r := by rw [if_pos rfl] at H; exact H
                    clear H
                    have H := H1
                    clear H1
                    have H' := Aside0.mk H
                    clear H
                    have p122 : 0 ≤ ((ji4) : Int) := of_decide_eq_true (by first | (with_reducible assumption) | assumption)
                    have q122 : (ji4) < (l0.length : Int) := of_decide_eq_true (by first | (with_reducible assumption) | assumption)
                    obtain ⟨ad122, e122, hx122_0⟩ := Kd.at_bool HR0.out (ji4) p122 q122
                    (try rw [← Nbq7.out] at hx122_0)
                    cases e122
                    replace hx122_0 := (HB.out.cell (World.block_lt_of_cell? w _ hx122_0)).trans hx122_0
                    replace p122 := eq_true p122
                    replace q122 := eq_true q122
                    go_wp2
                    go_roundg k2
                    case measure => have := HK1.out; have := HK2.out; omega
                    case rel => exact ⟨((((x5_2 * 2) % 256) + 1) % 256), (wrap64 (x6_2 - 1)), (by first | rfl | (simp; done) | (simp [*]; done) | (simp; omega)), (by first | rfl | (simp; done) | (simp [*]; done) | (simp; omega)), H', ⟨by have := HK1.out; have := HK2.out; omega⟩, ⟨by (with_reducible repeat (first | apply Kd.R_alloc | apply Kd.R_drewN | apply Kd.R_drew)); exact HO_3.out⟩, ⟨by repeat (first | (with_reducible first | exact HB.out | apply below_alloc | apply pw_below_drewN | apply below_drew1) | exact HB.out)⟩⟩
                  · replace c8 := Bool.eq_false_iff.mpr c8
                    subst c8
                    have H1 : (signalmanref01_Octets.l1 k2 l0 x3_1 x4_1 ((x5_2 * 2) % 256) (wrap64 (x6_2 - 1))) = some r := by rw [if_neg (show ¬ (false = true) by decide)] at H; exact H
                    clear H
                    have H := H1
                    clear H1
                    have H' := Aside0.mk H
                    clear H
                    have p122 : 0 ≤ ((ji4) : Int) := of_decide_eq_true (by first | (with_reducible assumption) | assumption)
                    have q122 : (ji4) < (l0.length : Int) := of_decide_eq_true (by first | (with_reducible assumption) | assumption)
                    obtain ⟨ad122, e122, hx122_0⟩ := Kd.at_bool HR0.out (ji4) p122 q122
                    (try rw [← Nbq7.out] at hx122_0)
                    cases e122
                    replace hx122_0 := (HB.out.cell (World.block_lt_of_cell? w _ hx122_0)).trans hx122_0
                    replace p122 := eq_true p122
                    replace q122 := eq_true q122
                    go_wp2
                    go_roundg k2
                    case measure => have := HK1.out; have := HK2.out; omega
                    case rel => exact ⟨((x5_2 * 2) % 256), (wrap64 (x6_2 - 1)), (by first | rfl | (simp; done) | (simp [*]; done) | (simp; omega)), (by first | rfl | (simp; done) | (simp [*]; done) | (simp; omega)), H', ⟨by have := HK1.out; have := HK2.out; omega⟩, ⟨by (with_reducible repeat (first | apply Kd.R_alloc | apply Kd.R_drewN | apply Kd.R_drew)); exact HO_3.out⟩, ⟨by repeat (first | (with_reducible first | exact HB.out | apply below_alloc | apply pw_below_drewN | apply below_drew1) | exact HB.out)⟩⟩
                · rw [if_neg c6] at H
                  exact absurd H (by simp)
              · rw [if_neg c5] at H
                exact absurd H (by simp)
            · rw [if_neg c3] at H
              have c3b0 : decide (0 ≤ x6_2) = false := decide_eq_false c3
              clear c3
              by_cases c9 : x3_1.length < 140737488355328
              · rw [if_pos c9] at H
                have LMc9 := Aside0.mk c9
                clear c9
                obtain ⟨y123, hy123⟩ : ∃ y_ : List Int, y_ = (x3_1 ++ [x5_2]) := ⟨_, rfl⟩
                replace H : (signalmanref01_Octets.l0 k2 l0 y123 (wrap64 (x4_1 + 8))) = some r := by first | (rw [hy123]; with_reducible exact H) | (have H2_ := (Option.bind_some _ _).symm.trans H; rw [hy123]; with_reducible exact H2_) | (have H2_ := (Option.bind_some _ _).symm.trans H; with_reducible exact H2_) | with_reducible exact H | (rw [hy123]; exact H) | exact H
                have Ny123 := Aside0.mk hy123
                clear hy123
                have H' := Aside0.mk H
                clear H
                go_wp2_with (first | ((with_reducible refine gate_builtin (b := .append) (xs := #[.tmp 28, .tmp 30]) rfl ?_); at_builtin; refine Kd.R_append (Kd.int .u8) (w0 := w) w.heap.size rfl (.tmp 28) (.tmp 30) 22 5 (.int .u8 0) 1 rfl Try.underlying22 info5 rfl (by decide) (by omega) u3 x3_1 x5_2 [.int .u8 x5_2] (fun _ => True) (fun _ => False) rfl rfl ?aP (fun _ hk => hk.elim) ?aF ?aO ?aB ?aS ?aL ?_; (case aP => exact rfl); (case aB => exact (by repeat (first | (with_reducible first | exact HB.out | apply below_alloc | apply pw_below_drewN | apply below_drew1) | exact HB.out))); (case aF => exact (fun _ _ => trivial)); (case aO => exact (by (with_reducible repeat (first | apply Kd.R_alloc | apply Kd.R_drewN | apply Kd.R_drew)); exact HO_3.out)); (case aS => exact (below_size (by repeat (first | (with_reducible first | exact HB.out | apply below_alloc | apply pw_below_drewN | apply below_drew1) | exact HB.out)))); (case aL => have := LMc9.out; omega); intro v124 w10 ho hb hg hat; rw [← Ny123.out] at ho; have n0_ := Aside0.mk (hb); have n1_ := Aside0.mk (ho); clear HB; clear HO_3; have HB := n0_; have HO125 := n1_; clear n0_ n1_; clear ho hb hg hat))
                go_roundg k2
                case measure => have := HK1.out; have := HK2.out; omega
                case rel => exact ⟨(y123), (wrap64 (x4_1 + 8)), (by first | rfl | (simp; done) | (simp [*]; done) | (simp; omega)), H', ⟨by have := HK1.out; have := HK2.out; omega⟩, ⟨by (with_reducible repeat (first | apply Kd.R_alloc | apply Kd.R_drewN | apply Kd.R_drew)); exact HO125.out⟩, ⟨by repeat (first | (with_reducible first | exact HB.out | apply below_alloc | apply pw_below_drewN | apply below_drew1) | exact HB.out)⟩⟩
              · rw [if_neg c9] at H
                exact absurd H (by simp)
      · rw [if_neg c2] at H
        have c2b0 : decide ((wrap64 (x4_1 + 8)) ≤ (l0.length : Int)) = false := decide_eq_false c2
        clear c2
        obtain rfl := Option.some.inj H
        go_wp2
        go_ret
        exact ⟨_, by first | rfl | (simp [errW_none, errW_some] <;> rfl) | (simp [*, errW_none, errW_some] <;> rfl), by (with_reducible repeat (first | apply Kd.R_alloc | apply Kd.R_drewN | apply Kd.R_drew)); exact HO_3.out, by repeat (first | (with_reducible first | exact HB.out | apply below_alloc | apply pw_below_drewN | apply below_drew1) | exact HB.out)⟩

/-! ### signalmanref01_Check: function 17 -/
def signalmanref01_Check.f (k : Nat) (l0 : List Int) : Option (List Int) := (signalmanref01_Bits.f k l0).bind fun t => signalmanref01_Octets.f k (Crc.outBits t)
theorem signalmanref01_Check.mono : ∀ a0 k, LeO (signalmanref01_Check.f k a0) (signalmanref01_Check.f (k + 1) a0) := by
  intro a0 k
  unfold signalmanref01_Check.f
  exact LeO.bind (signalmanref01_Bits.mono a0 k) (fun _ => signalmanref01_Octets.mono _ k)
def signalmanref01_Check.arr (R m : Nat) : Array Value := ((List.range 16).map fun i => Value.bool (if i < m then Nat.testBit (65535 - R) (15 - i) else false)).toArray
theorem signalmanref01_Check.arr_size (R m : Nat) : (signalmanref01_Check.arr R m).size = 16 := by simp [signalmanref01_Check.arr]
theorem signalmanref01_Check.arr_get (R m i : Nat) (h : i < 16) : (signalmanref01_Check.arr R m)[i]? = some (Value.bool (if i < m then Nat.testBit (65535 - R) (15 - i) else false)) := by
  simp [signalmanref01_Check.arr, List.getElem?_range h]
theorem signalmanref01_Check.arr_set (R m : Nat) (h : m < 16) : (signalmanref01_Check.arr R m).setIfInBounds m (.bool (Nat.testBit (65535 - R) (15 - m))) = signalmanref01_Check.arr R (m + 1) := by
  apply Array.ext
  · simp [signalmanref01_Check.arr_size]
  · intro i h1 h2
    have h3 : i < 16 := by rw [signalmanref01_Check.arr_size] at h2; exact h2
    have e1 := signalmanref01_Check.arr_get R (m + 1) i h3
    rw [Array.getElem?_eq_getElem h2] at e1
    rw [Option.some.inj e1, Array.getElem_setIfInBounds (by rw [signalmanref01_Check.arr_size]; exact h3)]
    by_cases h4 : m = i
    · subst h4; simp
    · rw [if_neg h4]
      have e2 := signalmanref01_Check.arr_get R m i h3
      rw [Array.getElem?_eq_getElem (by rw [signalmanref01_Check.arr_size]; exact h3)] at e2
      rw [Option.some.inj e2]
      congr 1
      by_cases h5 : i < m
      · rw [if_pos h5, if_pos (by omega)]
      · rw [if_neg h5, if_neg (by omega)]
theorem signalmanref01_Check.bit (R m : Nat) (hR : R < 65536) (h : m < 16) : ((65535 - (R : Int)) / 2 ^ (15 - m) % 2 == 1) = Nat.testBit (65535 - R) (15 - m) := by
  rw [Nat.testBit_eq_decide_div_mod_eq]
  have e : (65535 - (R : Int)) / 2 ^ (15 - m) % 2 = (((65535 - R) / 2 ^ (15 - m) % 2 : Nat) : Int) := by
    have : (65535 - (R : Int)) = ((65535 - R : Nat) : Int) := by omega
    rw [this]; simp
  rw [e]
  have h2 : (65535 - R) / 2 ^ (15 - m) % 2 = 0 ∨ (65535 - R) / 2 ^ (15 - m) % 2 = 1 := by omega
  rcases h2 with h2 | h2 <;> rw [h2] <;> rfl
theorem signalmanref01_Check.reads (w : World) (R : Nat) (t : List Bool) (h : Crc.outBits t = (List.range 16).map fun i => Nat.testBit (65535 - R) (15 - i)) :
    Kd.C Kd.bool (w.alloc (.cells (signalmanref01_Check.arr R 16) 38)) (some ⟨w.heap.size, 0, none⟩) (Crc.outBits t).length (Crc.outBits t) := by
  have hL : (Crc.outBits t).length = 16 := by simp [Crc.outBits]
  refine Kd.C_of_reads (enc := Value.bool) (d := false) (h1 := fun _ => rfl) ⟨rfl, by omega, fun _ => ⟨_, rfl, fun j hj => ?_⟩⟩
  rw [hL] at hj
  rw [Addr.add_lit, World.cell?_alloc_mark, Nat.zero_add, signalmanref01_Check.arr_get R 16 j hj, if_pos hj, h]
  simp [List.getD_eq_getElem?_getD, List.getElem?_map, List.getElem?_range hj]
theorem signalmanref01_Check.turn (R : Nat) (b : Bool) (hR : R < 65536) (h : ((R : Int) / 32768 % 2 != (if b then 1 else 0)) = true) : Go.bits .xor .u32 ((R : Int) * 2 % 65536) 4129 = ((Crc.stepM R b : Nat) : Int) := by
  have e : ((R : Int) * 2 % 65536) = ((R * 2 % 65536 : Nat) : Int) := by omega
  have x : Go.bits .xor .u32 ((R * 2 % 65536 : Nat) : Int) 4129 = ((R * 2 % 65536 ^^^ 4129 : Nat) : Int) := u32_xor_nat _ 4129 (by omega) (by decide)
  rw [e, x, Crc.stepM_eq, if_pos]
  simp at h
  intro h2
  apply h
  cases b <;> simp at h2 ⊢ <;> omega
theorem signalmanref01_Check.keep (R : Nat) (b : Bool) (hR : R < 65536) (h : ((R : Int) / 32768 % 2 != (if b then 1 else 0)) = false) : ((R : Int) * 2 % 65536) = ((Crc.stepM R b : Nat) : Int) := by
  rw [Crc.stepM_eq, if_neg]
  · omega
  · simp at h
    intro h2
    apply h2
    cases b <;> simp at h ⊢ <;> omega
theorem signalmanref01_Check.next {t : List Bool} {n : Nat} {X : Int} {p : Prop} (hn : n < t.length) (hl : t.length ≤ 9223372036854775807) (hp : p) (hX : X = ((Crc.runM 65535 (t.take (n + 1)) : Nat) : Int)) :
    (∃ m : Nat, m ≤ t.length ∧ Value.int .i64 (wrap64 ((n : Int) + 1)) = .int .i64 (m : Int) ∧ Value.int .u32 X = .int .u32 ((Crc.runM 65535 (t.take m) : Nat) : Int) ∧ p) ∧ t.length - (intOf (Value.int .i64 (wrap64 ((n : Int) + 1)))).toNat < t.length - (intOf (Value.int .i64 (n : Int))).toNat := by
  have e : wrap64 ((n : Int) + 1) = ((n + 1 : Nat) : Int) := by unfold wrap64; omega
  rw [e]
  exact ⟨⟨n + 1, by omega, rfl, by rw [hX], hp⟩, by simp [intOf]; omega⟩
set_option maxHeartbeats 4000000 in
set_option maxRecDepth 100000 in
theorem signalmanref01_Check.calls (k : Nat) (A0 : Option Addr) (c0 : Nat) (l0 : List Int) (r : List Int) (w : World) (hr0 : Kd.C (Kd.int .u8) w A0 l0.length l0) (hc0 : l0.length ≤ c0) (h : signalmanref01_Check.f k l0 = some r) :
    Calls Try.prog 17 #[.slice A0 l0.length c0] w fun e w' => ∃ v0_ : Value, e = .returned (v0_) ∧ Kd.R (Kd.int .u8) 5 w' w.heap.size (fun _ => True) v0_ r ∧ Below w.heap.size w w' := by
  have HR0 := Aside0.mk hr0
  have HC0 := Aside0.mk hc0
  clear hr0 hc0
  obtain ⟨t, A1, A2⟩ := Option.bind_eq_some_iff.mp h
  clear h
  have HA := Aside0.mk A1
  have HO := Aside0.mk A2
  clear A1 A2
  go_enter Try.func17, Try.ntmps17
  go_wp2_with fail
  refine (signalmanref01_Bits.calls k A0 c0 l0 t _ HR0.out HC0.out HA.out).mono ?_
  rintro e w1 ⟨v, rfl, ho, hb⟩
  obtain ⟨Ao, co, rfl⟩ := Kd.R_slice ho
  have HT := Aside0.mk (Kd.R_reads' ho).2.2
  have HCo := Aside0.mk (Kd.R_reads' ho).2.1
  have HB := Aside0.mk hb
  clear ho hb
  go_wp2_with fail
  have HTL := Aside0.mk (show t.length ≤ 9223372036854775807 from HT.out.2.1)
  go_loopw [4, 5] (fun r i wr => ∃ n : Nat, n ≤ t.length ∧ i = .int .i64 n ∧ r = .int .u32 ((Crc.runM 65535 (t.take n) : Nat) : Int) ∧ wr = w1) (fun _ i _ => t.length - (intOf i).toNat)
  case atStart => exact ⟨0, Nat.zero_le _, rfl, rfl, rfl⟩
  case round =>
    obtain ⟨n, hn, rfl, rfl, rfl⟩ := hrel
    by_cases hlt : n < t.length
    · have hb0 : decide ((n : Int) < (t.length : Int)) = true := by simp; omega
      obtain ⟨ad, e, hx⟩ := Kd.at_bool HT.out (n : Int) (by omega) (by omega)
      cases e
      have p1 := eq_true (show 0 ≤ (n : Int) by omega)
      have p2 := eq_true (show (n : Int) < (t.length : Int) by omega)
      have hRl := Crc.runM_lt (t.take n) 65535 (by decide)
      have hS := Aside0.mk (show Crc.runM 65535 (t.take (n + 1)) = Crc.stepM (Crc.runM 65535 (t.take n)) t[n] by
        rw [List.take_succ_eq_append_getElem hlt]; unfold Crc.runM; rw [List.foldl_append]; rfl)
      have hb : rdOf false t (n : Int) = t[n] := by simp [rdOf, List.getD_eq_getElem?_getD, List.getElem?_eq_getElem hlt]
      rw [hb, Int.toNat_natCast] at hx
      clear hb
      generalize Crc.runM 65535 (t.take n) = R at hS hRl ⊢
      cases hbit : t[n] with
      | true =>
        rw [hbit] at hx hS
        clear hbit
        go_wp2
        · exact signalmanref01_Check.next hlt HTL.out trivial (by rw [hS.out]; exact signalmanref01_Check.turn R true hRl (by assumption))
        · exact signalmanref01_Check.next hlt HTL.out trivial (by rw [hS.out]; exact signalmanref01_Check.keep R true hRl (by assumption))
      | false =>
        rw [hbit] at hx hS
        clear hbit
        go_wp2
        · exact signalmanref01_Check.next hlt HTL.out trivial (by rw [hS.out]; exact signalmanref01_Check.turn R false hRl (by assumption))
        · exact signalmanref01_Check.next hlt HTL.out trivial (by rw [hS.out]; exact signalmanref01_Check.keep R false hRl (by assumption))
    · have hb0 : decide ((n : Int) < (t.length : Int)) = false := by simp; omega
      obtain rfl : n = t.length := by omega
      have hRl := Crc.runM_lt t 65535 (by decide)
      rw [List.take_length]
      have hO : Aside0 (Crc.outBits t = (List.range 16).map fun i => Nat.testBit (65535 - Crc.runM 65535 t) (15 - i)) := ⟨rfl⟩
      generalize Crc.runM 65535 t = R at hRl hO ⊢
      go_wp2
      go_loopw [9] (fun i wx => ∃ m : Nat, m ≤ 16 ∧ i = .int .i64 m ∧ wx = wr.alloc (.cells (signalmanref01_Check.arr R m) 38)) (fun i _ => 16 - (intOf i).toNat)
      case atStart => exact ⟨0, by omega, rfl, rfl⟩
      case round =>
        obtain ⟨m, hm, rfl, rfl⟩ := hrel
        by_cases hlt : m < 16
        · have hb1 : decide ((m : Int) < 16) = true := by simp; omega
          have hc : (wr.alloc (.cells (signalmanref01_Check.arr R m) 38)).cell? ⟨wr.heap.size, m, none⟩ = some (.bool false) := by
            rw [World.cell?_alloc_mark, signalmanref01_Check.arr_get R m m hlt, if_neg (Nat.lt_irrefl m)]
          have hf : (wr.alloc (.cells (signalmanref01_Check.arr R m) 38)).frozen? ⟨wr.heap.size, m, none⟩ = false := by simp [go_sem]
          go_wp2
          refine ⟨⟨m + 1, by omega, by simp, ?_⟩, by simp [intOf]; omega⟩
          rw [Int.tmod_eq_emod_of_nonneg (Int.ediv_nonneg (by omega) (Int.pow_nonneg (by decide))), signalmanref01_Check.bit R m hRl hlt, signalmanref01_Check.arr_set R m hlt]
        · obtain rfl : m = 16 := by omega
          have hb1 : decide (((16 : Nat) : Int) < 16) = false := by decide
          go_wp2_with fail
          have hL : (Crc.outBits t).length = 16 := by simp [Crc.outBits]
          have C := signalmanref01_Octets.calls k (some ⟨wr.heap.size, 0, none⟩) 16 (Crc.outBits t) r (wr.alloc (.cells (signalmanref01_Check.arr R 16) 38)) (signalmanref01_Check.reads wr R t hO.out) (by rw [hL]; exact Nat.le_refl _) HO.out
          rw [hL] at C
          refine C.mono ?_
          rintro e w2 ⟨v, rfl, ho2, hb2⟩
          have HB2 := Aside0.mk (below_step (below_alloc HB.out _) hb2)
          have HO2 := Aside0.mk (Kd.R_lower ho2 (below_size (below_alloc HB.out _)))
          clear ho2 hb2 C hL
          go_wp2
          go_ret
          exact ⟨_, rfl, HO2.out, HB2.out⟩

/-! ### signalmanref01_Whole: function 13 -/
def signalmanref01_Whole.f (k : Nat) (l0 : List Int) : Option (List Int) := if ([] : List Int).length + l0.length < 140737488355328 then ((some (([] : List Int) ++ l0 : List Int)).bind fun y126 => ((signalmanref01_Check.f k l0).bind fun t129 => (if y126.length + t129.length < 140737488355328 then (some (y126 ++ t129)) else (none)))) else (none)
theorem signalmanref01_Whole.mono : ∀ a0 k, LeO (signalmanref01_Whole.f k a0) (signalmanref01_Whole.f (k + 1) a0) := by
  intro a0 k
  unfold signalmanref01_Whole.f
  repeat' first
      | (with_reducible exact signalmanref01_Check.mono _ _)
      | (with_reducible exact LeO.refl _)
      | (with_reducible exact LeO.none _)
      | (with_reducible refine LeO.ite ?_ ?_)
      | (with_reducible refine LeO.bind ?_ (fun _ => ?_))
      | exact signalmanref01_Check.mono _ _
      | exact LeO.none _
      | refine LeO.ite ?_ ?_
      | refine LeO.bind ?_ (fun _ => ?_)
set_option maxHeartbeats 8000000 in
set_option maxRecDepth 100000 in
theorem signalmanref01_Whole.calls (k : Nat) (A0 : Option Addr) (c0 : Nat) (l0 : List Int) (r : List Int) (w : World) (hr0 : Kd.C (Kd.int .u8) w A0 l0.length l0) (hc0 : l0.length ≤ c0) (h : signalmanref01_Whole.f k l0 = some r) :
    Calls Try.prog 13 #[.slice A0 l0.length c0] w fun e w' => ∃ v0_ : Value, e = .returned (v0_) ∧ Kd.R (Kd.int .u8) 5 w' w.heap.size (fun _ => True) v0_ r ∧ Below w.heap.size w w' := by
  have HR0 := Aside0.mk hr0
  have HC0 := Aside0.mk hc0
  clear hr0 hc0
  have HB := Aside0.mk (Below.refl w.heap.size w)
  have H : (if ([] : List Int).length + l0.length < 140737488355328 then ((some (([] : List Int) ++ l0 : List Int)).bind fun y126 => ((signalmanref01_Check.f k l0).bind fun t129 => (if y126.length + t129.length < 140737488355328 then (some (y126 ++ t129)) else (none)))) else (none)) = some r := h
  clear h
  by_cases c2 : ([] : List Int).length + l0.length < 140737488355328
  · rw [if_pos c2] at H
    have LMc2 := Aside0.mk c2
    clear c2
    obtain ⟨y126, hy126⟩ : ∃ y_ : List Int, y_ = (([] : List Int) ++ l0) := ⟨_, rfl⟩
    replace H : ((signalmanref01_Check.f k l0).bind fun t129 => (if y126.length + t129.length < 140737488355328 then (some (y126 ++ t129)) else (none))) = some r := by first | (rw [hy126]; with_reducible exact H) | (have H2_ := (Option.bind_some _ _).symm.trans H; rw [hy126]; with_reducible exact H2_) | (have H2_ := (Option.bind_some _ _).symm.trans H; with_reducible exact H2_) | with_reducible exact H | (rw [hy126]; exact H) | exact H
    have Ny126 := Aside0.mk hy126
    clear hy126
    replace H := Option.bind_eq_some_iff.mp H
    obtain ⟨t129, A30, H⟩ := H
    replace H : (if y126.length + t129.length < 140737488355328 then (some (y126 ++ t129)) else (none)) = some r := H
    have A3 := Aside0.mk A30
    clear A30
    by_cases c4 : y126.length + t129.length < 140737488355328
    · rw [if_pos c4] at H
      have LMc4 := Aside0.mk c4
      clear c4
      obtain ⟨y132, hy132⟩ : ∃ y_ : List Int, y_ = (y126 ++ t129) := ⟨_, rfl⟩
      replace H : (some y132) = some r := by first | (rw [hy132]; with_reducible exact H) | (have H2_ := (Option.bind_some _ _).symm.trans H; rw [hy132]; with_reducible exact H2_) | (have H2_ := (Option.bind_some _ _).symm.trans H; with_reducible exact H2_) | with_reducible exact H | (rw [hy132]; exact H) | exact H
      have Ny132 := Aside0.mk hy132
      clear hy132
      obtain rfl := Option.some.inj H
      go_enter Try.func13, Try.ntmps13
      go_wp2_with (first | ((with_reducible refine gate_builtin (b := .append) (xs := #[.tmp 4, .tmp 5]) rfl ?_); at_builtin; refine Kd.R_append_rows (Kd.int .u8) (w0 := w) w.heap.size rfl (.tmp 4) (.tmp 5) 22 5 (.int .u8 0) 1 rfl Try.underlying22 info5 rfl (by decide) (by omega) (.slice none 0 0) ([] : List Int) l0 _ _ _ (fun _ => True) (fun _ => False) rfl rfl ?aO ?aR (fun _ _ h => h) (fun _ h => h.elim) ?aF ?aB ?aS ?aL ?_; (case aR => repeat (first | exact HR0.out | (with_reducible refine Kd.C_alloc ?_ _) | (with_reducible refine Kd.C_drewN ?_ _) | (with_reducible refine Kd.C_drew ?_))); (case aB => exact (by repeat (first | (with_reducible first | exact HB.out | apply below_alloc | apply pw_below_drewN | apply below_drew1) | exact HB.out))); (case aF => exact (fun _ _ => trivial)); (case aO => exact ((Kd.R_nil _ _ _ _ (fun _ => True)))); (case aS => exact (below_size (by repeat (first | (with_reducible first | exact HB.out | apply below_alloc | apply pw_below_drewN | apply below_drew1) | exact HB.out)))); (case aL => have := LMc2.out; omega); intro v127 w5 ho hb hg hat; rw [← Ny126.out] at ho; have n0_ := Aside0.mk (hb); have n1_ := Aside0.mk (ho); clear HB; have HB := n0_; have HO128 := n1_; clear n0_ n1_; clear ho hb hg hat) | ((with_reducible refine gate_callee (f := 17) rfl ?_); refine goesL_ (some 9) rfl rfl Try.func17 (by kernel_rfl) rfl #[.slice A0 l0.length c0] rfl (by (try simp only [List.map_toArray, List.map_cons, List.map_nil]); first | done | rfl | (simp only [List.length_drop, List.length_take]; rfl) | (simp [Act.eval, *]; done)) ?_; (with_reducible refine (signalmanref01_Check.calls k _ _ l0 t129 _ ?side1 ?side2 A3.out).mono ?_); (case side1 => repeat (first | exact (Kd.C_below HR0.out HB.out) | (with_reducible refine Kd.C_alloc ?_ _) | (with_reducible refine Kd.C_drewN ?_ _) | (with_reducible refine Kd.C_drew ?_))); (case side2 => exact HC0.out); rintro e w6 ⟨v130, rfl, ho0, hb⟩; refine ⟨_, rfl, ?_⟩; have n0_ := Aside0.mk (Kd.R_elder' (by (with_reducible repeat (first | apply Kd.R_alloc | apply Kd.R_drewN | apply Kd.R_drew)); exact HO128.out) (Kd.R_base ho0) hb); have n1_ := Aside0.mk (Kd.R_lower (Kd.R_new' ho0 (Kd.R_lt (by (with_reducible repeat (first | apply Kd.R_alloc | apply Kd.R_drewN | apply Kd.R_drew)); exact HO128.out))) (below_size (by repeat (first | (with_reducible first | exact HB.out | apply below_alloc | apply pw_below_drewN | apply below_drew1) | exact HB.out)))); have n2_ := Aside0.mk (below_step (by repeat (first | (with_reducible first | exact HB.out | apply below_alloc | apply pw_below_drewN | apply below_drew1) | exact HB.out)) hb); clear HO128; clear HB; have HO128 := n0_; have HO131 := n1_; have HB := n2_; clear n0_ n1_ n2_; (try clear hb); (try clear hb2); (try clear hk); (try clear hi); (try clear ho0); obtain ⟨Ao8, co8, eo8⟩ := Kd.R_slice HO131.out; subst eo8) | ((with_reducible refine gate_builtin (b := .append) (xs := #[.tmp 7, .tmp 9]) rfl ?_); at_builtin; refine Kd.R_append_rows (Kd.int .u8) (w0 := w) w.heap.size rfl (.tmp 7) (.tmp 9) 22 5 (.int .u8 0) 1 rfl Try.underlying22 info5 rfl (by decide) (by omega) v127 y126 t129 _ _ _ (fun k_ => some k_ ≠ (.slice Ao8 t129.length co8 : Value).ownBlock) (fun _ => False) rfl rfl ?aO ?aR (fun _ _ h => h) (fun _ h => h.elim) ?aF ?aB ?aS ?aL ?_; (case aR => repeat (first | exact (Kd.R_reads' HO131.out).2.2 | (with_reducible refine Kd.C_alloc ?_ _) | (with_reducible refine Kd.C_drewN ?_ _) | (with_reducible refine Kd.C_drew ?_))); (case aB => exact (by repeat (first | (with_reducible first | exact HB.out | apply below_alloc | apply pw_below_drewN | apply below_drew1) | exact HB.out))); (case aF => exact (fun k_ hk => Kd.fresh' (Kd.R_lt (by (with_reducible repeat (first | apply Kd.R_alloc | apply Kd.R_drewN | apply Kd.R_drew)); exact HO131.out)) k_ hk)); (case aO => exact (by (with_reducible repeat (first | apply Kd.R_alloc | apply Kd.R_drewN | apply Kd.R_drew)); exact Kd.R_mono HO128.out (fun _ hk => (by first | exact hk.2 | exact fun e_ => hk.2 (e_.trans (own_len _ _ _ _)))))); (case aS => exact (below_size (by repeat (first | (with_reducible first | exact HB.out | apply below_alloc | apply pw_below_drewN | apply below_drew1) | exact HB.out)))); (case aL => have := LMc4.out; omega); intro v133 w7 ho hb hg hat; rw [← Ny132.out] at ho; have n0_ := Aside0.mk (Kd.R_after (ok := (fun _ => True)) (by (with_reducible repeat (first | apply Kd.R_alloc | apply Kd.R_drewN | apply Kd.R_drew)); exact HO131.out) hg hat); have n1_ := Aside0.mk (hb); have n2_ := Aside0.mk (ho); clear HO131; clear HB; clear HO128; have HO131 := n0_; have HB := n1_; have HO134 := n2_; clear n0_ n1_ n2_; clear ho hb hg hat))
      go_ret
      exact ⟨_, by first | rfl | (simp [errW_none, errW_some] <;> rfl) | (simp [*, errW_none, errW_some] <;> rfl), by (with_reducible repeat (first | apply Kd.R_alloc | apply Kd.R_drewN | apply Kd.R_drew)); exact Kd.R_mono HO134.out (fun _ hk => trivial), by repeat (first | (with_reducible first | exact HB.out | apply below_alloc | apply pw_below_drewN | apply below_drew1) | exact HB.out)⟩
    · rw [if_neg c4] at H
      exact absurd H (by simp)
  · rw [if_neg c2] at H
    exact absurd H (by simp)

/-! ### signalmanlaw03_RestBursts: function 5 -/
mutual
def signalmanlaw03_RestBursts.j0 : Nat → List Int → Int → Int → Bool → Option (Bool)
  | 0, _, _, _, _ => none
  | k + 1, x0, x1, x2, x21 => if x21 = true then ((signalmanlaw03_awake.f).bind fun t136 => (some t136)) else ((signalmanref01_Whole.f k x0).bind fun t137 => ((signalmanref01_Bits.f k t137).bind fun t140 => (if (t140.length : Int) = 0 then (none) else (signalmanlaw03_RestBursts.l0 k x2 t140 (Int.tmod (wrap64 (x1)) (t140.length : Int)) false 0))))
def signalmanlaw03_RestBursts.l0 : Nat → Int → List Bool → Int → Bool → Int → Option (Bool)
  | 0, _, _, _, _, _ => none
  | k + 1, x2, x7, x8, x9, x10 => if x10 < 16 then (signalmanlaw03_RestBursts.j2 k x2 x7 x8 x9 x10 (decide ((wrap64 (x8 + x10)) < (x7.length : Int)))) else (signalmanlaw03_RestBursts.j2 k x2 x7 x8 x9 x10 false)
def signalmanlaw03_RestBursts.j2 : Nat → Int → List Bool → Int → Bool → Int → Bool → Option (Bool)
  | 0, _, _, _, _, _, _ => none
  | k + 1, x2, x7, x8, x9, x10, x40 => if x40 = true then (if 0 ≤ x10 then (if (Int.tmod (shr .u16 x2 x10) 2) = 1 then (if 0 ≤ (wrap64 (x8 + x10)) then (if (wrap64 (x8 + x10)) < (x7.length : Int) then (signalmanlaw03_RestBursts.l0 k x2 (x7.set ((wrap64 (x8 + x10)) : Int).toNat (!(rdOf false x7 (wrap64 (x8 + x10))))) x8 true (wrap64 (x10 + 1))) else (none)) else (none)) else (signalmanlaw03_RestBursts.l0 k x2 x7 x8 x9 (wrap64 (x10 + 1)))) else (none)) else ((signalmanref01_Octets.f k x7).bind fun t145 => ((rest_Right.f k t145).bind fun t148 => (some (t148 == (!x9)))))
end
def signalmanlaw03_RestBursts.f (k : Nat) (l0 : List Int) (a1 : Int) (a2 : Int) : Option (Bool) := (signalmanlaw03_awake.f).bind fun t135 => (if t135 = true then (if (l0.length : Int) > 300 then (signalmanlaw03_RestBursts.j0 k l0 a1 a2 true) else (signalmanlaw03_RestBursts.j0 k l0 a1 a2 (a2 == 0))) else (signalmanlaw03_RestBursts.j0 k l0 a1 a2 true))
theorem signalmanlaw03_RestBursts.mono_l : ∀ k, (∀ y0 y1 y2 y3, LeO (signalmanlaw03_RestBursts.j0 k y0 y1 y2 y3) (signalmanlaw03_RestBursts.j0 (k + 1) y0 y1 y2 y3)) ∧ (∀ y0 y1 y2 y3 y4, LeO (signalmanlaw03_RestBursts.l0 k y0 y1 y2 y3 y4) (signalmanlaw03_RestBursts.l0 (k + 1) y0 y1 y2 y3 y4)) ∧ (∀ y0 y1 y2 y3 y4 y5, LeO (signalmanlaw03_RestBursts.j2 k y0 y1 y2 y3 y4 y5) (signalmanlaw03_RestBursts.j2 (k + 1) y0 y1 y2 y3 y4 y5))
  | 0 => ⟨fun _ _ _ _ r h => by simp [signalmanlaw03_RestBursts.j0] at h, fun _ _ _ _ _ r h => by simp [signalmanlaw03_RestBursts.l0] at h, fun _ _ _ _ _ _ r h => by simp [signalmanlaw03_RestBursts.j2] at h⟩
  | k + 1 => by
    obtain ⟨ih0, ih1, ih2⟩ := signalmanlaw03_RestBursts.mono_l k
    refine ⟨?_, ?_, ?_⟩
    · intro y0 y1 y2 y3
      unfold signalmanlaw03_RestBursts.j0
      repeat' first
      | (with_reducible exact ih0 _ _ _ _)
      | (with_reducible exact ih1 _ _ _ _ _)
      | (with_reducible exact ih2 _ _ _ _ _ _)
      | (with_reducible exact rest_Right.mono _ _)
      | (with_reducible exact signalmanref01_Bits.mono _ _)
      | (with_reducible exact signalmanref01_Octets.mono _ _)
      | (with_reducible exact signalmanref01_Whole.mono _ _)
      | (with_reducible exact LeO.refl _)
      | (with_reducible exact LeO.none _)
      | (with_reducible refine LeO.ite ?_ ?_)
      | (with_reducible refine LeO.bind ?_ (fun _ => ?_))
      | exact ih0 _ _ _ _
      | exact ih1 _ _ _ _ _
      | exact ih2 _ _ _ _ _ _
      | exact rest_Right.mono _ _
      | exact signalmanref01_Bits.mono _ _
      | exact signalmanref01_Octets.mono _ _
      | exact signalmanref01_Whole.mono _ _
      | exact LeO.none _
      | refine LeO.ite ?_ ?_
      | refine LeO.bind ?_ (fun _ => ?_)
    · intro y0 y1 y2 y3 y4
      unfold signalmanlaw03_RestBursts.l0
      repeat' first
      | (with_reducible exact ih0 _ _ _ _)
      | (with_reducible exact ih1 _ _ _ _ _)
      | (with_reducible exact ih2 _ _ _ _ _ _)
      | (with_reducible exact rest_Right.mono _ _)
      | (with_reducible exact signalmanref01_Bits.mono _ _)
      | (with_reducible exact signalmanref01_Octets.mono _ _)
      | (with_reducible exact signalmanref01_Whole.mono _ _)
      | (with_reducible exact LeO.refl _)
      | (with_reducible exact LeO.none _)
      | (with_reducible refine LeO.ite ?_ ?_)
      | (with_reducible refine LeO.bind ?_ (fun _ => ?_))
      | exact ih0 _ _ _ _
      | exact ih1 _ _ _ _ _
      | exact ih2 _ _ _ _ _ _
      | exact rest_Right.mono _ _
      | exact signalmanref01_Bits.mono _ _
      | exact signalmanref01_Octets.mono _ _
      | exact signalmanref01_Whole.mono _ _
      | exact LeO.none _
      | refine LeO.ite ?_ ?_
      | refine LeO.bind ?_ (fun _ => ?_)
    · intro y0 y1 y2 y3 y4 y5
      unfold signalmanlaw03_RestBursts.j2
      repeat' first
      | (with_reducible exact ih0 _ _ _ _)
      | (with_reducible exact ih1 _ _ _ _ _)
      | (with_reducible exact ih2 _ _ _ _ _ _)
      | (with_reducible exact rest_Right.mono _ _)
      | (with_reducible exact signalmanref01_Bits.mono _ _)
      | (with_reducible exact signalmanref01_Octets.mono _ _)
      | (with_reducible exact signalmanref01_Whole.mono _ _)
      | (with_reducible exact LeO.refl _)
      | (with_reducible exact LeO.none _)
      | (with_reducible refine LeO.ite ?_ ?_)
      | (with_reducible refine LeO.bind ?_ (fun _ => ?_))
      | exact ih0 _ _ _ _
      | exact ih1 _ _ _ _ _
      | exact ih2 _ _ _ _ _ _
      | exact rest_Right.mono _ _
      | exact signalmanref01_Bits.mono _ _
      | exact signalmanref01_Octets.mono _ _
      | exact signalmanref01_Whole.mono _ _
      | exact LeO.none _
      | refine LeO.ite ?_ ?_
      | refine LeO.bind ?_ (fun _ => ?_)
theorem signalmanlaw03_RestBursts.mono : ∀ a0 a1 a2 k, LeO (signalmanlaw03_RestBursts.f k a0 a1 a2) (signalmanlaw03_RestBursts.f (k + 1) a0 a1 a2) := by
  intro a0 a1 a2 k
  obtain ⟨ih0, ih1, ih2⟩ := signalmanlaw03_RestBursts.mono_l k
  unfold signalmanlaw03_RestBursts.f
  repeat' first
      | (with_reducible exact ih0 _ _ _ _)
      | (with_reducible exact ih1 _ _ _ _ _)
      | (with_reducible exact ih2 _ _ _ _ _ _)
      | (with_reducible exact rest_Right.mono _ _)
      | (with_reducible exact signalmanref01_Bits.mono _ _)
      | (with_reducible exact signalmanref01_Octets.mono _ _)
      | (with_reducible exact signalmanref01_Whole.mono _ _)
      | (with_reducible exact LeO.refl _)
      | (with_reducible exact LeO.none _)
      | (with_reducible refine LeO.ite ?_ ?_)
      | (with_reducible refine LeO.bind ?_ (fun _ => ?_))
      | exact ih0 _ _ _ _
      | exact ih1 _ _ _ _ _
      | exact ih2 _ _ _ _ _ _
      | exact rest_Right.mono _ _
      | exact signalmanref01_Bits.mono _ _
      | exact signalmanref01_Octets.mono _ _
      | exact signalmanref01_Whole.mono _ _
      | exact LeO.none _
      | refine LeO.ite ?_ ?_
      | refine LeO.bind ?_ (fun _ => ?_)
set_option maxHeartbeats 8000000 in
set_option maxRecDepth 100000 in
theorem signalmanlaw03_RestBursts.calls (k : Nat) (A0 : Option Addr) (c0 : Nat) (l0 : List Int) (a1 : Int) (a2 : Int) (r : Bool) (w : World) (hr0 : Kd.C (Kd.int .u8) w A0 l0.length l0) (hc0 : l0.length ≤ c0) (h : signalmanlaw03_RestBursts.f k l0 a1 a2 = some r) :
    Calls Try.prog 5 #[.slice A0 l0.length c0, .int .u16 a1, .int .u16 a2] w fun e w' => e = .returned (.bool r) ∧ Below w.heap.size w w' := by
  have HR0 := Aside0.mk hr0
  have HC0 := Aside0.mk hc0
  clear hr0 hc0
  have HB := Aside0.mk (Below.refl w.heap.size w)
  have H : ((signalmanlaw03_awake.f).bind fun t135 => (if t135 = true then (if (l0.length : Int) > 300 then (signalmanlaw03_RestBursts.j0 k l0 a1 a2 true) else (signalmanlaw03_RestBursts.j0 k l0 a1 a2 (a2 == 0))) else (signalmanlaw03_RestBursts.j0 k l0 a1 a2 true))) = some r := h
  clear h
  have HC4 := Aside0.mk H
  clear H
  go_enter Try.func5, Try.ntmps5
  go_upto_region 1 with (fail)
  go_cut [21] (fun v21 wc => ∃ (kq : Nat) (x21_3 : Bool), v21 = .bool x21_3 ∧ Aside0 (signalmanlaw03_RestBursts.j0 kq l0 a1 a2 x21_3 = some r) ∧ Aside0 (kq ≤ k) ∧ Aside0 (Below w.heap.size w wc))
  case first =>
    have H := HC4.out
    clear HC4
    replace H := Option.bind_eq_some_iff.mp H
    obtain ⟨t135, A50, H⟩ := H
    replace H : (if t135 = true then (if (l0.length : Int) > 300 then (signalmanlaw03_RestBursts.j0 k l0 a1 a2 true) else (signalmanlaw03_RestBursts.j0 k l0 a1 a2 (a2 == 0))) else (signalmanlaw03_RestBursts.j0 k l0 a1 a2 true)) = some r := H
    have A5 := Aside0.mk A50
    clear A50
    by_cases c6 : t135 = true
    · subst c6
      have H1 : (if (l0.length : Int) > 300 then (signalmanlaw03_RestBursts.j0 k l0 a1 a2 true) else (signalmanlaw03_RestBursts.j0 k l0 a1 a2 (a2 == 0))) = some r := by rw [if_pos rfl] at H; exact H
      clear H
      have H := H1
      clear H1
      by_cases c7 : (l0.length : Int) > 300
      · rw [if_pos c7] at H
        have c7b0 : decide (300 < (l0.length : Int)) = true := decide_eq_true c7
        have c7b1 : decide (300 < l0.length) = true := decide_eq_true (by omega)
        clear c7
        (first | rw [c7b0] | (simp only [i64_w, i32_w]; rw [c7b0]) | skip)
        have H' := Aside0.mk H
        clear H
        go_wp2_with (first | ((with_reducible refine gate_callee (f := 7) rfl ?_); refine goesL_ (some 11) rfl rfl Try.func7 (by kernel_rfl) rfl #[] rfl (by (try simp only [List.map_toArray, List.map_cons, List.map_nil]); first | done | rfl | (simp only [List.length_drop, List.length_take]; rfl) | (simp [Act.eval, *]; done)) ?_; (with_reducible refine (signalmanlaw03_awake.calls  true _ A5.out).mono ?_); rintro e w8 ⟨rfl, hb⟩; refine ⟨_, rfl, ?_⟩; have n0_ := Aside0.mk (below_step (by repeat (first | (with_reducible first | exact HB.out | apply below_alloc | apply pw_below_drewN | apply below_drew1) | exact HB.out)) hb); clear HB; have HB := n0_; clear n0_; (try clear hb); (try clear hb2); (try clear hk); (try clear hi)))
        go_meet
        case rel => exact ⟨_, (true), (by first | rfl | (simp; done) | (simp [*]; done) | (simp; omega)), H', ⟨by first | omega | exact Nat.le_refl _⟩, ⟨by repeat (first | (with_reducible first | exact HB.out | apply below_alloc | apply pw_below_drewN | apply below_drew1) | exact HB.out)⟩⟩
      · rw [if_neg c7] at H
        have c7b0 : decide (300 < (l0.length : Int)) = false := decide_eq_false c7
        have c7b1 : decide (300 < l0.length) = false := decide_eq_false (by omega)
        clear c7
        (first | rw [c7b0] | (simp only [i64_w, i32_w]; rw [c7b0]) | skip)
        have H' := Aside0.mk H
        clear H
        go_wp2_with (first | ((with_reducible refine gate_callee (f := 7) rfl ?_); refine goesL_ (some 11) rfl rfl Try.func7 (by kernel_rfl) rfl #[] rfl (by (try simp only [List.map_toArray, List.map_cons, List.map_nil]); first | done | rfl | (simp only [List.length_drop, List.length_take]; rfl) | (simp [Act.eval, *]; done)) ?_; (with_reducible refine (signalmanlaw03_awake.calls  true _ A5.out).mono ?_); rintro e w9 ⟨rfl, hb⟩; refine ⟨_, rfl, ?_⟩; have n0_ := Aside0.mk (below_step (by repeat (first | (with_reducible first | exact HB.out | apply below_alloc | apply pw_below_drewN | apply below_drew1) | exact HB.out)) hb); clear HB; have HB := n0_; clear n0_; (try clear hb); (try clear hb2); (try clear hk); (try clear hi)))
        go_meet
        case rel => exact ⟨_, ((a2 == 0)), (by first | rfl | (simp; done) | (simp [*]; done) | (simp; omega)), H', ⟨by first | omega | exact Nat.le_refl _⟩, ⟨by repeat (first | (with_reducible first | exact HB.out | apply below_alloc | apply pw_below_drewN | apply below_drew1) | exact HB.out)⟩⟩
    · replace c6 := Bool.eq_false_iff.mpr c6
      subst c6
      have H1 : (signalmanlaw03_RestBursts.j0 k l0 a1 a2 true) = some r := by rw [if_neg (show ¬ (false = true) by decide)] at H; exact H
      clear H
      have H := H1
      clear H1
      have H' := Aside0.mk H
      clear H
      go_wp2_with (first | ((with_reducible refine gate_callee (f := 7) rfl ?_); refine goesL_ (some 11) rfl rfl Try.func7 (by kernel_rfl) rfl #[] rfl (by (try simp only [List.map_toArray, List.map_cons, List.map_nil]); first | done | rfl | (simp only [List.length_drop, List.length_take]; rfl) | (simp [Act.eval, *]; done)) ?_; (with_reducible refine (signalmanlaw03_awake.calls  false _ A5.out).mono ?_); rintro e w10 ⟨rfl, hb⟩; refine ⟨_, rfl, ?_⟩; have n0_ := Aside0.mk (below_step (by repeat (first | (with_reducible first | exact HB.out | apply below_alloc | apply pw_below_drewN | apply below_drew1) | exact HB.out)) hb); clear HB; have HB := n0_; clear n0_; (try clear hb); (try clear hb2); (try clear hk); (try clear hi)))
      go_meet
      case rel => exact ⟨_, (true), (by first | rfl | (simp; done) | (simp [*]; done) | (simp; omega)), H', ⟨by first | omega | exact Nat.le_refl _⟩, ⟨by repeat (first | (with_reducible first | exact HB.out | apply below_alloc | apply pw_below_drewN | apply below_drew1) | exact HB.out)⟩⟩
  case rest =>
    clear HC4
    try clear p2
    try clear c5
    try clear c6
    try clear c7
    try clear c7b0
    try clear c7b1
    obtain ⟨kq, x21_3, rfl, HA, HJ3, HB⟩ := hcut
    cases kq with
    | zero => exact absurd HA.out (by simp [signalmanlaw03_RestBursts.j0])
    | succ kj3 =>
      have H := HA.out
      clear HA
      simp only [signalmanlaw03_RestBursts.j0] at H
      by_cases c11 : x21_3 = true
      · subst c11
        have H1 : ((signalmanlaw03_awake.f).bind fun t136 => (some t136)) = some r := by rw [if_pos rfl] at H; exact H
        clear H
        have H := H1
        clear H1
        replace H := Option.bind_eq_some_iff.mp H
        obtain ⟨t136, A120, H⟩ := H
        replace H : (some t136) = some r := H
        have A12 := Aside0.mk A120
        clear A120
        obtain rfl := Option.some.inj H
        go_wp2_with (first | ((with_reducible refine gate_callee (f := 7) rfl ?_); refine goesL_ (some 22) rfl rfl Try.func7 (by kernel_rfl) rfl #[] rfl (by (try simp only [List.map_toArray, List.map_cons, List.map_nil]); first | done | rfl | (simp only [List.length_drop, List.length_take]; rfl) | (simp [Act.eval, *]; done)) ?_; (with_reducible refine (signalmanlaw03_awake.calls  t136 _ A12.out).mono ?_); rintro e w13 ⟨rfl, hb⟩; refine ⟨_, rfl, ?_⟩; have n0_ := Aside0.mk (below_step (by repeat (first | (with_reducible first | exact HB.out | apply below_alloc | apply pw_below_drewN | apply below_drew1) | exact HB.out)) hb); clear HB; have HB := n0_; clear n0_; (try clear hb); (try clear hb2); (try clear hk); (try clear hi)))
        go_ret
        exact ⟨by first | rfl | (simp [errW_none, errW_some] <;> rfl) | (simp [*, errW_none, errW_some] <;> rfl), by repeat (first | (with_reducible first | exact HB.out | apply below_alloc | apply pw_below_drewN | apply below_drew1) | exact HB.out)⟩
      · replace c11 := Bool.eq_false_iff.mpr c11
        subst c11
        have H1 : ((signalmanref01_Whole.f kj3 l0).bind fun t137 => ((signalmanref01_Bits.f kj3 t137).bind fun t140 => (if (t140.length : Int) = 0 then (none) else (signalmanlaw03_RestBursts.l0 kj3 a2 t140 (Int.tmod (wrap64 (a1)) (t140.length : Int)) false 0)))) = some r := by rw [if_neg (show ¬ (false = true) by decide)] at H; exact H
        clear H
        have H := H1
        clear H1
        replace H := Option.bind_eq_some_iff.mp H
        obtain ⟨t137, A140, H⟩ := H
        replace H : ((signalmanref01_Bits.f kj3 t137).bind fun t140 => (if (t140.length : Int) = 0 then (none) else (signalmanlaw03_RestBursts.l0 kj3 a2 t140 (Int.tmod (wrap64 (a1)) (t140.length : Int)) false 0))) = some r := H
        have A14 := Aside0.mk A140
        clear A140
        replace H := Option.bind_eq_some_iff.mp H
        obtain ⟨t140, A150, H⟩ := H
        replace H : (if (t140.length : Int) = 0 then (none) else (signalmanlaw03_RestBursts.l0 kj3 a2 t140 (Int.tmod (wrap64 (a1)) (t140.length : Int)) false 0)) = some r := H
        have A15 := Aside0.mk A150
        clear A150
        by_cases c16 : (t140.length : Int) = 0
        · rw [if_pos c16] at H
          exact absurd H (by simp)
        · rw [if_neg c16] at H
          have c16b0 : ((t140.length : Int) == 0) = false := beq_eq_false_iff_ne.mpr c16
          have c16b1 : ((t140.length : Int) != 0) = true := bne_iff_ne.mpr c16
          have c16b2 : ¬ (t140 = []) := fun h_ => c16 (by rw [h_]; rfl)
          have H' := Aside0.mk H
          clear H
          go_wp2_with (first | ((with_reducible refine gate_callee (f := 13) rfl ?_); refine goesL_ (some 24) rfl rfl Try.func13 (by kernel_rfl) rfl #[.slice A0 l0.length c0] rfl (by (try simp only [List.map_toArray, List.map_cons, List.map_nil]); first | done | rfl | (simp only [List.length_drop, List.length_take]; rfl) | (simp [Act.eval, *]; done)) ?_; (with_reducible refine (signalmanref01_Whole.calls kj3 _ _ l0 t137 _ ?side1 ?side2 A14.out).mono ?_); (case side1 => repeat (first | exact (Kd.C_below HR0.out HB.out) | (with_reducible refine Kd.C_alloc ?_ _) | (with_reducible refine Kd.C_drewN ?_ _) | (with_reducible refine Kd.C_drew ?_))); (case side2 => exact HC0.out); rintro e w17 ⟨v138, rfl, ho0, hb⟩; refine ⟨_, rfl, ?_⟩; have n0_ := Aside0.mk (Kd.R_lower ho0 (below_size (by repeat (first | (with_reducible first | exact HB.out | apply below_alloc | apply pw_below_drewN | apply below_drew1) | exact HB.out)))); have n1_ := Aside0.mk (below_step (by repeat (first | (with_reducible first | exact HB.out | apply below_alloc | apply pw_below_drewN | apply below_drew1) | exact HB.out)) hb); clear HB; have HO139 := n0_; have HB := n1_; clear n0_ n1_; (try clear hb); (try clear hb2); (try clear hk); (try clear hi); (try clear ho0); obtain ⟨Ao18, co18, eo18⟩ := Kd.R_slice HO139.out; subst eo18) | ((with_reducible refine gate_callee (f := 8) rfl ?_); refine goesL_ (some 25) rfl rfl Try.func8 (by kernel_rfl) rfl #[.slice Ao18 t137.length co18] rfl (by (try simp only [List.map_toArray, List.map_cons, List.map_nil]); first | done | rfl | (simp only [List.length_drop, List.length_take]; rfl) | (simp [Act.eval, *]; done)) ?_; (with_reducible refine (signalmanref01_Bits.calls kj3 _ _ t137 t140 _ ?side1 ?side2 A15.out).mono ?_); (case side1 => repeat (first | exact (Kd.R_reads' HO139.out).2.2 | (with_reducible refine Kd.C_alloc ?_ _) | (with_reducible refine Kd.C_drewN ?_ _) | (with_reducible refine Kd.C_drew ?_))); (case side2 => exact (Kd.R_reads' HO139.out).2.1); rintro e w19 ⟨v141, rfl, ho0, hb⟩; refine ⟨_, rfl, ?_⟩; have n0_ := Aside0.mk (Kd.R_below (by (with_reducible repeat (first | apply Kd.R_alloc | apply Kd.R_drewN | apply Kd.R_drew)); exact HO139.out) hb); have n1_ := Aside0.mk (Kd.R_lower ho0 (below_size (by repeat (first | (with_reducible first | exact HB.out | apply below_alloc | apply pw_below_drewN | apply below_drew1) | exact HB.out)))); have n2_ := Aside0.mk (below_step (by repeat (first | (with_reducible first | exact HB.out | apply below_alloc | apply pw_below_drewN | apply below_drew1) | exact HB.out)) hb); clear HO139; clear HB; have HO139 := n0_; have HO142 := n1_; have HB := n2_; clear n0_ n1_ n2_; (try clear hb); (try clear hb2); (try clear hk); (try clear hi); (try clear ho0); obtain ⟨Ao20, co20, eo20⟩ := Kd.R_slice HO142.out; subst eo20))
          go_loopg [9, 10] kj3 (fun kq v9 v10 w' => ∃ (x7_2 : List Bool) (x9_2 : Bool) (x10_2 : Int), v9 = .bool x9_2 ∧ v10 = .int .i64 x10_2 ∧ Aside0 (signalmanlaw03_RestBursts.l0 kq a2 x7_2 (Int.tmod (wrap64 (a1)) (t140.length : Int)) x9_2 x10_2 = some r) ∧ Aside0 (kq ≤ kj3) ∧ Aside0 (Kd.R Kd.bool 4 w' w.heap.size (fun _ => True) (.slice Ao20 t140.length co20) x7_2) ∧ Aside0 (Below w.heap.size w w'))
          case atStart => exact ⟨(t140), (false), (0), (by first | rfl | (simp; done) | (simp [*]; done) | (simp; omega)), (by first | rfl | (simp; done) | (simp [*]; done) | (simp; omega)), H', ⟨Nat.le_refl _⟩, ⟨by (with_reducible repeat (first | apply Kd.R_alloc | apply Kd.R_drewN | apply Kd.R_drew)); exact HO142.out⟩, ⟨by repeat (first | (with_reducible first | exact HB.out | apply below_alloc | apply pw_below_drewN | apply below_drew1) | exact HB.out)⟩⟩
          case round =>
            clear H'
            try clear c1
            try clear p2
            try clear c5
            try clear c6
            try clear p6
            try clear c7
            try clear c7b0
            try clear c7b1
            try clear c8
            try clear c11
            try clear c13
            try clear c16
            try clear c16b0
            try clear c16b1
            try clear c16b2
            try clear p2
            obtain ⟨x7_2, x9_2, x10_2, rfl, rfl, HA, HK2, HO_7, HB⟩ := hrel
            have hl7_2 := (Kd.R_reads' HO_7.out).1
            rw [hl7_2] at HO_7
            (try simp only [hl7_2])
            cases gk with
            | zero => exact absurd HA.out (by simp [signalmanlaw03_RestBursts.l0])
            | succ k2 =>
              have H := HA.out
              clear HA
              simp only [signalmanlaw03_RestBursts.l0] at H
              have HC21 := Aside0.mk H
              clear H
              go_upto_region 7 with (fail)
              go_cut [40] (fun v40 wc => ∃ (kq : Nat) (x40_20 : Bool), v40 = .bool x40_20 ∧ Aside0 (signalmanlaw03_RestBursts.j2 kq a2 x7_2 (Int.tmod (wrap64 (a1)) (t140.length : Int)) x9_2 x10_2 x40_20 = some r) ∧ Aside0 (kq ≤ k2) ∧ Aside0 (Kd.R Kd.bool 4 wc w.heap.size (fun _ => True) (.slice Ao20 x7_2.length co20) x7_2) ∧ Aside0 (Below w.heap.size w wc))
              case first =>
                have H := HC21.out
                clear HC21
                by_cases c22 : x10_2 < 16
                · rw [if_pos c22] at H
                  have c22b0 : decide (x10_2 < 16) = true := decide_eq_true c22
                  clear c22
                  (first | rw [c22b0] | (simp only [i64_w, i32_w]; rw [c22b0]) | skip)
                  have H' := Aside0.mk H
                  clear H
                  go_wp2
                  go_meet
                  case rel => exact ⟨_, (decide ((wrap64 ((Int.tmod (wrap64 (a1)) (t140.length : Int)) + x10_2)) < (x7_2.length : Int))), (by first | rfl | (simp; done) | (simp [*]; done) | (simp; omega)), H', ⟨by have := HJ3.out; have := HK2.out; first | omega | exact Nat.le_refl _⟩, ⟨by (try simp only [hl7_2]); (with_reducible repeat (first | apply Kd.R_alloc | apply Kd.R_drewN | apply Kd.R_drew)); exact HO_7.out⟩, ⟨by repeat (first | (with_reducible first | exact HB.out | apply below_alloc | apply pw_below_drewN | apply below_drew1) | exact HB.out)⟩⟩
                · rw [if_neg c22] at H
                  have c22b0 : decide (x10_2 < 16) = false := decide_eq_false c22
                  clear c22
                  (first | rw [c22b0] | (simp only [i64_w, i32_w]; rw [c22b0]) | skip)
                  have H' := Aside0.mk H
                  clear H
                  go_wp2
                  go_meet
                  case rel => exact ⟨_, (false), (by first | rfl | (simp; done) | (simp [*]; done) | (simp; omega)), H', ⟨by have := HJ3.out; have := HK2.out; first | omega | exact Nat.le_refl _⟩, ⟨by (try simp only [hl7_2]); (with_reducible repeat (first | apply Kd.R_alloc | apply Kd.R_drewN | apply Kd.R_drew)); exact HO_7.out⟩, ⟨by repeat (first | (with_reducible first | exact HB.out | apply below_alloc | apply pw_below_drewN | apply below_drew1) | exact HB.out)⟩⟩
              case rest =>
                clear HC21
                try clear c1
                try clear c2
                try clear p2
                try clear c5
                try clear c6
                try clear p6
                try clear c7
                try clear c7b0
                try clear c7b1
                try clear c8
                try clear c11
                try clear c13
                try clear c16
                try clear c16b0
                try clear c16b1
                try clear c16b2
                try clear c22
                try clear c22b0
                try clear p2
                try clear p6
                obtain ⟨kq, x40_20, rfl, HA, HJ20, HO_7, HB⟩ := hcut
                cases kq with
                | zero => exact absurd HA.out (by simp [signalmanlaw03_RestBursts.j2])
                | succ kj20 =>
                  have H := HA.out
                  clear HA
                  simp only [signalmanlaw03_RestBursts.j2] at H
                  by_cases c23 : x40_20 = true
                  · subst c23
                    have H1 : (if 0 ≤ x10_2 then (if (Int.tmod (shr .u16 a2 x10_2) 2) = 1 then (if 0 ≤ (wrap64 ((Int.tmod (wrap64 (a1)) (t140.length : Int)) + x10_2)) then (if (wrap64 ((Int.tmod (wrap64 (a1)) (t140.length : Int)) + x10_2)) < (x7_2.length : Int) then (signalmanlaw03_RestBursts.l0 kj20 a2 (x7_2.set ((wrap64 ((Int.tmod (wrap64 (a1)) (t140.length : Int)) + x10_2)) : Int).toNat (!(rdOf false x7_2 (wrap64 ((Int.tmod (wrap64 (a1)) (t140.length : Int)) + x10_2))))) (Int.tmod (wrap64 (a1)) (t140.length : Int)) true (wrap64 (x10_2 + 1))) else (none)) else (none)) else (signalmanlaw03_RestBursts.l0 kj20 a2 x7_2 (Int.tmod (wrap64 (a1)) (t140.length : Int)) x9_2 (wrap64 (x10_2 + 1)))) else (none)) = some r := by rw [if_pos rfl] at H; exact H
                    clear H
                    have H := H1
                    clear H1
                    by_cases c24 : 0 ≤ x10_2
                    · rw [if_pos c24] at H
                      have c24b0 := eq_true c24
                      have c24b1 : decide (0 ≤ x10_2) = true := decide_eq_true c24
                      clear c24
                      obtain ⟨ji25, hji25⟩ : ∃ j_ : Int, (shr .u16 a2 x10_2) = j_ := ⟨_, rfl⟩
                      replace H : (if (Int.tmod (ji25) 2) = 1 then (if 0 ≤ (wrap64 ((Int.tmod (wrap64 (a1)) (t140.length : Int)) + x10_2)) then (if (wrap64 ((Int.tmod (wrap64 (a1)) (t140.length : Int)) + x10_2)) < (x7_2.length : Int) then (signalmanlaw03_RestBursts.l0 kj20 a2 (x7_2.set ((wrap64 ((Int.tmod (wrap64 (a1)) (t140.length : Int)) + x10_2)) : Int).toNat (!(rdOf false x7_2 (wrap64 ((Int.tmod (wrap64 (a1)) (t140.length : Int)) + x10_2))))) (Int.tmod (wrap64 (a1)) (t140.length : Int)) true (wrap64 (x10_2 + 1))) else (none)) else (none)) else (signalmanlaw03_RestBursts.l0 kj20 a2 x7_2 (Int.tmod (wrap64 (a1)) (t140.length : Int)) x9_2 (wrap64 (x10_2 + 1)))) = some r := by first | (rw [hji25] at H; exact H) | (simp only [hji25] at H ⊢; exact H)
                      have hji25_ : (a2 / 2 ^ min x10_2.toNat 16) = ji25 := hji25
                      have hji25z : x10_2 ≤ 16 → (a2 / 2 ^ x10_2.toNat) = ji25 := shr_small hji25
                      by_cases c26 : (Int.tmod (ji25) 2) = 1
                      · rw [if_pos c26] at H
                        have c26b0 : ((Int.tmod (ji25) 2) == 1) = true := beq_iff_eq.mpr c26
                        have c26b1 : ((Int.tmod (ji25) 2) != 1) = false := bne_eq_false_iff_eq.mpr c26
                        clear c26
                        obtain ⟨ji27, hji27⟩ : ∃ j_ : Int, (wrap64 ((Int.tmod (wrap64 (a1)) (t140.length : Int)) + x10_2)) = j_ := ⟨_, rfl⟩
                        replace H : (if 0 ≤ (ji27) then (if (ji27) < (x7_2.length : Int) then (signalmanlaw03_RestBursts.l0 kj20 a2 (x7_2.set ((ji27) : Int).toNat (!(rdOf false x7_2 (ji27)))) (Int.tmod (wrap64 (a1)) (t140.length : Int)) true (wrap64 (x10_2 + 1))) else (none)) else (none)) = some r := by first | (rw [hji27] at H; exact H) | (simp only [hji27] at H ⊢; exact H)
                        have hji27w : (IntKind.i64.wrap ((Int.tmod (wrap64 (a1)) (t140.length : Int)) + x10_2)) = ji27 := (i64_w _).trans hji27
                        by_cases c28 : 0 ≤ (ji27)
                        · rw [if_pos c28] at H
                          have c28b0 : decide (0 ≤ (ji27)) = true := decide_eq_true c28
                          clear c28
                          by_cases c29 : (ji27) < (x7_2.length : Int)
                          · rw [if_pos c29] at H
                            have c29b0 : decide ((ji27) < (x7_2.length : Int)) = true := decide_eq_true c29
                            clear c29
                            obtain ⟨y144, hy144⟩ : ∃ y_ : List Bool, y_ = (x7_2.set ((ji27) : Int).toNat (!(rdOf false x7_2 (ji27)))) := ⟨_, rfl⟩
                            replace H : (signalmanlaw03_RestBursts.l0 kj20 a2 y144 (Int.tmod (wrap64 (a1)) (t140.length : Int)) true (wrap64 (x10_2 + 1))) = some r := by first | (rw [hy144]; with_reducible exact H) | (have H2_ := (Option.bind_some _ _).symm.trans H; rw [hy144]; with_reducible exact H2_) | (have H2_ := (Option.bind_some _ _).symm.trans H; with_reducible exact H2_) | with_reducible exact H | (rw [hy144]; exact H) | exact H
                            have Ny144 := Aside0.mk hy144
                            clear hy144
                            have H' := Aside0.mk H
                            clear H
                            have p143 : 0 ≤ ((ji27) : Int) := of_decide_eq_true (by first | (with_reducible assumption) | assumption)
                            have q143 : (ji27) < (x7_2.length : Int) := of_decide_eq_true (by first | (with_reducible assumption) | assumption)
                            obtain ⟨ad143, e143, hx143_0⟩ := Kd.at_bool (Kd.R_reads' HO_7.out).2.2 (ji27) p143 q143
                            cases e143
                            replace p143 := eq_true p143
                            replace q143 := eq_true q143
                            have p30 : 0 ≤ ((ji27) : Int) := of_decide_eq_true (by first | (with_reducible assumption) | assumption)
                            have q30 : ((ji27) : Int) < ((x7_2.length : Int) : Int) := of_decide_eq_true (by first | (with_reducible assumption) | assumption)
                            obtain ⟨go30, co30, eo30, gb30, gl30, cl30, HG30⟩ := Kd.R_form HO_7.out (by omega)
                            (first | cases eo30 | (injection eo30 with ea_ en_ ec_; (first | subst ea_ | (injection ea_ with ea_; subst ea_)); subst ec_; clear en_))
                            have GB30 := Aside0.mk gb30
                            have GG30 := Aside0.mk HG30
                            clear gb30 gl30 HG30
                            (first | simp only [add_plain] at hx143_0 | skip)
                            obtain ⟨hx30_0, hf30_0⟩ := Kd.R_celln false HO_7.out ((ji27) : Int) p30 q30
                            replace p30 := eq_true p30
                            replace q30 := eq_true q30
                            have HP31 := Kd.R_putg HO_7.out ((ji27) : Int) (!(rdOf false x7_2 (ji27)))
                            (try simp only [hl7_2] at hji27 hji27w)
                            go_wp2_with (first | ((with_reducible refine gate_store (t := 4) (p := 59) rfl ?_); refine store_event (t := 4) (p := 59) (v := ?vo_w32) (w1 := (wc.setCell ⟨go30, ((ji27) : Int).toNat, none⟩ (.bool (!(rdOf false x7_2 (ji27)))))) ?hg ?ho ?hn ?hr ?_; (case ho => rfl); (case hg => rfl); (case hn => rfl); (case hr => first | (go_simp; done) | (go_simp; rfl)); intro w32 hw; have hg : wc.grownBy w32 (some go30) := (by rw [hw]; exact HP31.2); have hp_ : Kd.R Kd.bool 4 w32 w.heap.size (fun _ => True) (.slice (some ⟨go30, 0, none⟩) x7_2.length co20) y144 := (by rw [hw, Ny144.out]; exact HP31.1); clear HP31; have n0_ := Aside0.mk (hp_); have n1_ := Aside0.mk ((by rw [hw]; exact below_set (HB.out) GB30.out : Below w.heap.size w w32)); clear HO_7; clear HB; have HO_7 := n0_; have HB := n1_; clear n0_ n1_; clear hg hw hp_))
                            (try simp only [← hl7_2])
                            go_roundg kj20
                            case measure => have := HJ3.out; have := HK2.out; have := HJ20.out; omega
                            case rel => exact ⟨(y144), (true), (wrap64 (x10_2 + 1)), (by first | rfl | (simp; done) | (simp [*]; done) | (simp; omega)), (by first | rfl | (simp; done) | (simp [*]; done) | (simp; omega)), H', ⟨by have := HJ3.out; have := HK2.out; have := HJ20.out; omega⟩, ⟨by (try simp only [hl7_2]); (with_reducible repeat (first | apply Kd.R_alloc | apply Kd.R_drewN | apply Kd.R_drew)); exact HO_7.out⟩, ⟨by repeat (first | (with_reducible first | exact HB.out | apply below_alloc | apply pw_below_drewN | apply below_drew1) | exact HB.out)⟩⟩
                          · rw [if_neg c29] at H
                            exact absurd H (by simp)
                        · rw [if_neg c28] at H
                          exact absurd H (by simp)
                      · rw [if_neg c26] at H
                        have c26b0 : ((Int.tmod (ji25) 2) == 1) = false := beq_eq_false_iff_ne.mpr c26
                        have c26b1 : ((Int.tmod (ji25) 2) != 1) = true := bne_iff_ne.mpr c26
                        have H' := Aside0.mk H
                        clear H
                        go_wp2
                        (try simp only [← hl7_2])
                        go_roundg kj20
                        case measure => have := HJ3.out; have := HK2.out; have := HJ20.out; omega
                        case rel => exact ⟨(x7_2), (x9_2), (wrap64 (x10_2 + 1)), (by first | rfl | (simp; done) | (simp [*]; done) | (simp; omega)), (by first | rfl | (simp; done) | (simp [*]; done) | (simp; omega)), H', ⟨by have := HJ3.out; have := HK2.out; have := HJ20.out; omega⟩, ⟨by (try simp only [hl7_2]); (with_reducible repeat (first | apply Kd.R_alloc | apply Kd.R_drewN | apply Kd.R_drew)); exact HO_7.out⟩, ⟨by repeat (first | (with_reducible first | exact HB.out | apply below_alloc | apply pw_below_drewN | apply below_drew1) | exact HB.out)⟩⟩
                    · rw [if_neg c24] at H
                      exact absurd H (by simp)
                  · replace c23 := Bool.eq_false_iff.mpr c23
                    subst c23
                    have H1 : ((signalmanref01_Octets.f kj20 x7_2).bind fun t145 => ((rest_Right.f kj20 t145).bind fun t148 => (some (t148 == (!x9_2))))) = some r := by rw [if_neg (show ¬ (false = true) by decide)] at H; exact H
                    clear H
                    have H := H1
                    clear H1
                    replace H := Option.bind_eq_some_iff.mp H
                    obtain ⟨t145, A330, H⟩ := H
                    replace H : ((rest_Right.f kj20 t145).bind fun t148 => (some (t148 == (!x9_2)))) = some r := H
                    have A33 := Aside0.mk A330
                    clear A330
                    replace H := Option.bind_eq_some_iff.mp H
                    obtain ⟨t148, A340, H⟩ := H
                    replace H : (some (t148 == (!x9_2))) = some r := H
                    have A34 := Aside0.mk A340
                    clear A340
                    obtain rfl := Option.some.inj H
                    go_wp2_with (first | ((with_reducible refine gate_callee (f := 14) rfl ?_); refine goesL_ (some 61) rfl rfl Try.func14 (by kernel_rfl) rfl #[.slice Ao20 x7_2.length co20] rfl (by (try simp only [List.map_toArray, List.map_cons, List.map_nil]); first | done | rfl | (simp only [List.length_drop, List.length_take]; rfl) | (simp [Act.eval, *]; done)) ?_; (with_reducible refine (signalmanref01_Octets.calls kj20 _ _ x7_2 t145 _ ?side1 ?side2 A33.out).mono ?_); (case side1 => repeat (first | exact (Kd.R_reads' HO_7.out).2.2 | (with_reducible refine Kd.C_alloc ?_ _) | (with_reducible refine Kd.C_drewN ?_ _) | (with_reducible refine Kd.C_drew ?_))); (case side2 => exact (Kd.R_reads' HO_7.out).2.1); rintro e w35 ⟨v146, rfl, ho0, hb⟩; refine ⟨_, rfl, ?_⟩; have n0_ := Aside0.mk (Kd.R_below (by (with_reducible repeat (first | apply Kd.R_alloc | apply Kd.R_drewN | apply Kd.R_drew)); exact HO_7.out) hb); have n1_ := Aside0.mk (Kd.R_lower ho0 (below_size (by repeat (first | (with_reducible first | exact HB.out | apply below_alloc | apply pw_below_drewN | apply below_drew1) | exact HB.out)))); have n2_ := Aside0.mk (below_step (by repeat (first | (with_reducible first | exact HB.out | apply below_alloc | apply pw_below_drewN | apply below_drew1) | exact HB.out)) hb); clear HO_7; clear HB; have HO_7 := n0_; have HO147 := n1_; have HB := n2_; clear n0_ n1_ n2_; (try clear hb); (try clear hb2); (try clear hk); (try clear hi); (try clear ho0); obtain ⟨Ao36, co36, eo36⟩ := Kd.R_slice HO147.out; subst eo36) | ((with_reducible refine gate_callee (f := 11) rfl ?_); refine goesL_ (some 62) rfl rfl Try.func11 (by kernel_rfl) rfl #[.slice Ao36 t145.length co36] rfl (by (try simp only [List.map_toArray, List.map_cons, List.map_nil]); first | done | rfl | (simp only [List.length_drop, List.length_take]; rfl) | (simp [Act.eval, *]; done)) ?_; (with_reducible refine (rest_Right.calls kj20 _ _ t145 t148 _ ?side1 ?side2 A34.out).mono ?_); (case side1 => repeat (first | exact (Kd.R_reads' HO147.out).2.2 | (with_reducible refine Kd.C_alloc ?_ _) | (with_reducible refine Kd.C_drewN ?_ _) | (with_reducible refine Kd.C_drew ?_))); (case side2 => exact (Kd.R_reads' HO147.out).2.1); rintro e w37 ⟨rfl, hb⟩; refine ⟨_, rfl, ?_⟩; have n0_ := Aside0.mk (Kd.R_below (by (with_reducible repeat (first | apply Kd.R_alloc | apply Kd.R_drewN | apply Kd.R_drew)); exact HO_7.out) hb); have n1_ := Aside0.mk (Kd.R_below (by (with_reducible repeat (first | apply Kd.R_alloc | apply Kd.R_drewN | apply Kd.R_drew)); exact HO147.out) hb); have n2_ := Aside0.mk (below_step (by repeat (first | (with_reducible first | exact HB.out | apply below_alloc | apply pw_below_drewN | apply below_drew1) | exact HB.out)) hb); clear HO_7; clear HO147; clear HB; have HO_7 := n0_; have HO147 := n1_; have HB := n2_; clear n0_ n1_ n2_; (try clear hb); (try clear hb2); (try clear hk); (try clear hi)))
                    go_ret
                    exact ⟨by first | rfl | (simp [errW_none, errW_some] <;> rfl) | (simp [*, errW_none, errW_some] <;> rfl), by repeat (first | (with_reducible first | exact HB.out | apply below_alloc | apply pw_below_drewN | apply below_drew1) | exact HB.out)⟩

/-- THE ONE PURE STATEMENT of signalmanlaw03_RestBursts: yours. -/
def signalmanlaw03_RestBursts.Pure : Prop := ∀ (l0 : List Int) (a1 : Int) (a2 : Int), l0.length ≤ maxLen → l0.length * 1 ≤ 140737488351232 → (∀ x ∈ l0, (Lit.int .u8 x).wf = true) → (Lit.int .u16 a1).wf = true → (Lit.int .u16 a2).wf = true → ∃ k, signalmanlaw03_RestBursts.f k l0 a1 a2 = some true
theorem signalmanlaw03_RestBursts.walk (P : signalmanlaw03_RestBursts.Pure) (a0 : Option Addr) (len0 cap0 : Nat) (z0 : List Int) (a1 : Int) (a2 : Int) (w : World) (w0 : (a0 = none ∧ len0 = 0 ∧ cap0 = 0 ∧ z0 = []) ∨ ∃ x, a0 = some x ∧ len0 ≤ cap0 ∧ cap0 ≤ maxLen ∧ z0.length = cap0 ∧ (∀ i, i < z0.length → w.cell? (x.add i) = some (.int .u8 (z0.getD i 0))) ∧ ∀ n ∈ z0, (Lit.int .u8 n).wf = true) (y0 : len0 * 1 ≤ 140737488351232) (w1 : (Lit.int .u16 a1).wf = true) (w2 : (Lit.int .u16 a2).wf = true) :
    Calls Try.prog 5 #[.slice a0 len0 cap0, .int .u16 a1, .int .u16 a2] w fun e w' => e = .returned (.bool true) ∧ Below w.heap.size w w' := by
  obtain ⟨l0, rfl, hr0, hm0, hw0, hc0⟩ := ReadsInt.ofRowC w0
  obtain ⟨k, h⟩ := P l0 a1 a2 hm0 y0 hw0 w1 w2
  refine (signalmanlaw03_RestBursts.calls k _ _ l0 a1 a2 true w (Kd.C_of_reads (d := (0 : Int)) (h1 := fun _ => rfl) hr0) hc0 h).mono ?_
  rintro e w' ⟨rfl, hd⟩
  exact ⟨rfl, hd⟩

end Go.Proofs.Ytkcinjemmnajmaa.MRestBursts
