/- A part of the proof of the given statement that each law names; no condition. Written by a program of this session's own (wip/tools/myprint.py, over the kit's print); Lean checks it. -/
import Derived.Test.YtonhgiclaieamaaMFlagCutsx0
import Derived.Test.YtonhgiclaieamaaMFlagCutsx1
namespace Go.Proofs.Ytonhgiclaieamaa.MFlagCuts
open Go.RowKit Go.Proofs.Ytonhgiclaieamaa Go.Proofs.YtonhgiclaieamaaW.PrintWords Go.Proofs.YtonhgiclaieamaaW.PrintLast Go.Proofs.YtonhgiclaieamaaW.PrintMore
attribute [local go_sem] max2_int min2_int max_two min_two max_three min_three max_four min_four   -- for this text's walks alone
set_option linter.unusedVariables false
set_option linter.unusedSimpArgs false

/-! ### stuff_Take: function 31 -/
def stuff_Take.l0 : Nat → List Bool → Int → List Bool → Int → Int → Option (List Bool × Int)
  | 0, _, _, _, _, _ => none
  | k + 1, x4, x5, x8, x9, x10 => if x10 < x9 then (if 0 ≤ x10 then (if x10 < (x8.length : Int) then (if x5 = 5 then (if rdOf false x8 x10 = true then (some (([] : List Bool), 4)) else (stuff_Take.l0 k x4 0 x8 x9 (wrap64 (x10 + 1)))) else (if x4.length < 140737488355328 then ((some (x4 ++ [rdOf false x8 x10] : List Bool)).bind fun y150 => (if rdOf false x8 x10 = true then (stuff_Take.l0 k y150 (wrap64 (x5 + 1)) x8 x9 (wrap64 (x10 + 1))) else (stuff_Take.l0 k y150 0 x8 x9 (wrap64 (x10 + 1))))) else (none))) else (none)) else (none)) else (if x5 = 5 then (some (([] : List Bool), 5)) else (some (x4, 0)))
def stuff_Take.f (k : Nat) (l0 : List Bool) : Option (List Bool × Int) := stuff_Take.l0 k ([] : List Bool) 0 l0 (l0.length : Int) 0
theorem stuff_Take.mono_l : ∀ k, (∀ y0 y1 y2 y3 y4, LeO (stuff_Take.l0 k y0 y1 y2 y3 y4) (stuff_Take.l0 (k + 1) y0 y1 y2 y3 y4))
  | 0 => fun _ _ _ _ _ r h => by simp [stuff_Take.l0] at h
  | k + 1 => by
    have ih0 := stuff_Take.mono_l k
    · intro y0 y1 y2 y3 y4
      unfold stuff_Take.l0
      repeat' first
      | (with_reducible exact ih0 _ _ _ _ _)
      | (with_reducible exact LeO.refl _)
      | (with_reducible exact LeO.none _)
      | (with_reducible refine LeO.ite ?_ ?_)
      | (with_reducible refine LeO.bind ?_ (fun _ => ?_))
      | exact ih0 _ _ _ _ _
      | exact LeO.none _
      | refine LeO.ite ?_ ?_
      | refine LeO.bind ?_ (fun _ => ?_)
theorem stuff_Take.mono : ∀ a0 k, LeO (stuff_Take.f k a0) (stuff_Take.f (k + 1) a0) := by
  intro a0 k
  have ih0 := stuff_Take.mono_l k
  unfold stuff_Take.f
  repeat' first
      | (with_reducible exact ih0 _ _ _ _ _)
      | (with_reducible exact LeO.refl _)
      | (with_reducible exact LeO.none _)
      | (with_reducible refine LeO.ite ?_ ?_)
      | (with_reducible refine LeO.bind ?_ (fun _ => ?_))
      | exact ih0 _ _ _ _ _
      | exact LeO.none _
      | refine LeO.ite ?_ ?_
      | refine LeO.bind ?_ (fun _ => ?_)
set_option maxHeartbeats 8000000 in
set_option maxRecDepth 100000 in
theorem stuff_Take.calls (k : Nat) (A0 : Option Addr) (c0 : Nat) (l0 : List Bool) (r1 : List Bool) (r2 : Int) (w : World) (hr0 : Kd.C Kd.bool w A0 l0.length l0) (hc0 : l0.length ≤ c0) (h : stuff_Take.f k l0 = some (r1, r2)) :
    Calls Try.prog 31 #[.slice A0 l0.length c0] w fun e w' => ∃ v0_ : Value, e = .returned (.tuple #[v0_, .int .i64 r2]) ∧ Kd.R Kd.bool 4 w' w.heap.size (fun _ => True) v0_ r1 ∧ Below w.heap.size w w' := by
  have HR0 := Aside0.mk hr0
  have HC0 := Aside0.mk hc0
  clear hr0 hc0
  have HB := Aside0.mk (Below.refl w.heap.size w)
  have H : (stuff_Take.l0 k ([] : List Bool) 0 l0 (l0.length : Int) 0) = some (r1, r2) := h
  clear h
  have H' := Aside0.mk H
  clear H
  go_enter Try.func31, Try.ntmps31
  go_wp2
  go_loopg [4, 5, 10] k (fun kq v4 v5 v10 w' => ∃ (x4_1 : List Bool) (x5_1 : Int) (x10_1 : Int), v5 = .int .i64 x5_1 ∧ v10 = .int .i64 x10_1 ∧ Aside0 (stuff_Take.l0 kq x4_1 x5_1 l0 (l0.length : Int) x10_1 = some (r1, r2)) ∧ Aside0 (kq ≤ k) ∧ Aside0 (Kd.R Kd.bool 4 w' w.heap.size (fun _ => True) v4 x4_1) ∧ Aside0 (Below w.heap.size w w'))
  case atStart => exact ⟨(([] : List Bool)), (0), (0), (by first | rfl | (simp; done) | (simp [*]; done) | (simp; omega)), (by first | rfl | (simp; done) | (simp [*]; done) | (simp; omega)), H', ⟨Nat.le_refl _⟩, ⟨by first | exact Kd.R_nil _ _ _ _ _ | exact Kd.N_nil _ _ _ _ _ | exact Kd.V_nil _ _ _ _ _ | exact Kd.Q_nil _ _ _ _ _ | exact Kd.S_nil _ _ _ _ _⟩, ⟨by repeat (first | (with_reducible first | exact HB.out | apply below_alloc | apply pw_below_drewN | apply below_drew1) | exact HB.out)⟩⟩
  case round =>
    clear H'
    obtain ⟨x4_1, x5_1, x10_1, rfl, rfl, HA, HK1, HO_4, HB⟩ := hrel
    cases gk with
    | zero => exact absurd HA.out (by simp [stuff_Take.l0])
    | succ k1 =>
      have H := HA.out
      clear HA
      simp only [stuff_Take.l0] at H
      by_cases c2 : x10_1 < (l0.length : Int)
      · rw [if_pos c2] at H
        have c2b0 : decide (x10_1 < (l0.length : Int)) = true := decide_eq_true c2
        clear c2
        by_cases c3 : 0 ≤ x10_1
        · rw [if_pos c3] at H
          have c3b0 : decide (0 ≤ x10_1) = true := decide_eq_true c3
          clear c3
          by_cases c4 : x10_1 < (l0.length : Int)
          · rw [if_pos c4] at H
            have c4b0 : decide (x10_1 < (l0.length : Int)) = true := decide_eq_true c4
            clear c4
            by_cases c5 : x5_1 = 5
            · rw [if_pos c5] at H
              have c5b0 : (x5_1 == 5) = true := beq_iff_eq.mpr c5
              have c5b1 : (x5_1 != 5) = false := bne_eq_false_iff_eq.mpr c5
              clear c5
              obtain ⟨bq6, hbq6⟩ : ∃ b_ : Bool, b_ = (rdOf false l0 x10_1) := ⟨_, rfl⟩
              replace H : (if bq6 = true then (some (([] : List Bool), 4)) else (stuff_Take.l0 k1 x4_1 0 l0 (l0.length : Int) (wrap64 (x10_1 + 1)))) = some (r1, r2) := by rw [← hbq6] at H; exact H
              have Nbq6 := Aside0.mk hbq6
              clear hbq6
              by_cases c7 : bq6 = true
              · subst c7
                have H1 : (some (([] : List Bool), 4)) = some (r1, r2) := by rw [if_pos rfl] at H; exact H
                clear H
                have H := H1
                clear H1
                simp only [Option.some.injEq, Prod.mk.injEq] at H
                obtain ⟨rfl, rfl⟩ := H
                have p149 : 0 ≤ (x10_1 : Int) := of_decide_eq_true (by first | (with_reducible assumption) | assumption)
                have q149 : x10_1 < (l0.length : Int) := of_decide_eq_true (by first | (with_reducible assumption) | assumption)
                obtain ⟨ad149, e149, hx149_0⟩ := Kd.at_bool HR0.out x10_1 p149 q149
                (try rw [← Nbq6.out] at hx149_0)
                cases e149
                replace hx149_0 := (HB.out.cell (World.block_lt_of_cell? w _ hx149_0)).trans hx149_0
                replace p149 := eq_true p149
                replace q149 := eq_true q149
                go_wp2
                go_ret2
                exact ⟨_, by first | rfl | (simp [errW_none, errW_some] <;> rfl) | (simp [*, errW_none, errW_some] <;> rfl), by first | exact Kd.R_nil _ _ _ _ _ | exact Kd.N_nil _ _ _ _ _ | exact Kd.V_nil _ _ _ _ _ | exact Kd.Q_nil _ _ _ _ _ | exact Kd.S_nil _ _ _ _ _, by repeat (first | (with_reducible first | exact HB.out | apply below_alloc | apply pw_below_drewN | apply below_drew1) | exact HB.out)⟩
              · replace c7 := Bool.eq_false_iff.mpr c7
                subst c7
                have H1 : (stuff_Take.l0 k1 x4_1 0 l0 (l0.length : Int) (wrap64 (x10_1 + 1))) = some (r1, r2) := by rw [if_neg (show ¬ (false = true) by decide)] at H; exact H
                clear H
                have H := H1
                clear H1
                have H' := Aside0.mk H
                clear H
                have p149 : 0 ≤ (x10_1 : Int) := of_decide_eq_true (by first | (with_reducible assumption) | assumption)
                have q149 : x10_1 < (l0.length : Int) := of_decide_eq_true (by first | (with_reducible assumption) | assumption)
                obtain ⟨ad149, e149, hx149_0⟩ := Kd.at_bool HR0.out x10_1 p149 q149
                (try rw [← Nbq6.out] at hx149_0)
                cases e149
                replace hx149_0 := (HB.out.cell (World.block_lt_of_cell? w _ hx149_0)).trans hx149_0
                replace p149 := eq_true p149
                replace q149 := eq_true q149
                go_wp2
                go_roundg k1
                case measure => have := HK1.out; omega
                case rel => exact ⟨(x4_1), (0), (wrap64 (x10_1 + 1)), (by first | rfl | (simp; done) | (simp [*]; done) | (simp; omega)), (by first | rfl | (simp; done) | (simp [*]; done) | (simp; omega)), H', ⟨by have := HK1.out; omega⟩, ⟨by (with_reducible repeat (first | apply Kd.R_alloc | apply Kd.R_drewN | apply Kd.R_drew)); exact HO_4.out⟩, ⟨by repeat (first | (with_reducible first | exact HB.out | apply below_alloc | apply pw_below_drewN | apply below_drew1) | exact HB.out)⟩⟩
            · rw [if_neg c5] at H
              have c5b0 : (x5_1 == 5) = false := beq_eq_false_iff_ne.mpr c5
              have c5b1 : (x5_1 != 5) = true := bne_iff_ne.mpr c5
              by_cases c8 : x4_1.length < 140737488355328
              · rw [if_pos c8] at H
                have LMc8 := Aside0.mk c8
                clear c8
                obtain ⟨y150, hy150⟩ : ∃ y_ : List Bool, y_ = (x4_1 ++ [rdOf false l0 x10_1]) := ⟨_, rfl⟩
                replace H : (if rdOf false l0 x10_1 = true then (stuff_Take.l0 k1 y150 (wrap64 (x5_1 + 1)) l0 (l0.length : Int) (wrap64 (x10_1 + 1))) else (stuff_Take.l0 k1 y150 0 l0 (l0.length : Int) (wrap64 (x10_1 + 1)))) = some (r1, r2) := by first | (rw [hy150]; with_reducible exact H) | (have H2_ := (Option.bind_some _ _).symm.trans H; rw [hy150]; with_reducible exact H2_) | (have H2_ := (Option.bind_some _ _).symm.trans H; with_reducible exact H2_) | with_reducible exact H | (rw [hy150]; exact H) | exact H
                have Ny150 := Aside0.mk hy150
                clear hy150
                obtain ⟨bq9, hbq9⟩ : ∃ b_ : Bool, b_ = (rdOf false l0 x10_1) := ⟨_, rfl⟩
                replace H : (if bq9 = true then (stuff_Take.l0 k1 y150 (wrap64 (x5_1 + 1)) l0 (l0.length : Int) (wrap64 (x10_1 + 1))) else (stuff_Take.l0 k1 y150 0 l0 (l0.length : Int) (wrap64 (x10_1 + 1)))) = some (r1, r2) := by rw [← hbq9] at H; exact H
                have Nbq9 := Aside0.mk hbq9
                clear hbq9
                by_cases c10 : bq9 = true
                · subst c10
                  have H1 : (stuff_Take.l0 k1 y150 (wrap64 (x5_1 + 1)) l0 (l0.length : Int) (wrap64 (x10_1 + 1))) = some (r1, r2) := by rw [if_pos rfl] at H; exact H
                  clear H
                  have H := H1
                  clear H1
                  have H' := Aside0.mk H
                  clear H
                  have p149 : 0 ≤ (x10_1 : Int) := of_decide_eq_true (by first | (with_reducible assumption) | assumption)
                  have q149 : x10_1 < (l0.length : Int) := of_decide_eq_true (by first | (with_reducible assumption) | assumption)
                  obtain ⟨ad149, e149, hx149_0⟩ := Kd.at_bool HR0.out x10_1 p149 q149
                  (try rw [← Nbq9.out] at hx149_0)
                  cases e149
                  replace hx149_0 := (HB.out.cell (World.block_lt_of_cell? w _ hx149_0)).trans hx149_0
                  replace p149 := eq_true p149
                  replace q149 := eq_true q149
                  go_wp2_with (first | ((with_reducible refine gate_builtin (b := .append) (xs := #[.tmp 17, .tmp 19]) rfl ?_); at_builtin; refine Kd.R_append Kd.bool (w0 := w) w.heap.size rfl (.tmp 17) (.tmp 19) 27 4 (.bool false) 1 rfl Try.underlying27 info4 rfl (by decide) (by omega) u4 x4_1 true [.bool true] (fun _ => True) (fun _ => False) rfl rfl ?aP (fun _ hk => hk.elim) ?aF ?aO ?aB ?aS ?aL ?_; (case aP => exact rfl); (case aB => exact (by repeat (first | (with_reducible first | exact HB.out | apply below_alloc | apply pw_below_drewN | apply below_drew1) | exact HB.out))); (case aF => exact (fun _ _ => trivial)); (case aO => exact (by (with_reducible repeat (first | apply Kd.R_alloc | apply Kd.R_drewN | apply Kd.R_drew)); exact HO_4.out)); (case aS => exact (below_size (by repeat (first | (with_reducible first | exact HB.out | apply below_alloc | apply pw_below_drewN | apply below_drew1) | exact HB.out)))); (case aL => have := LMc8.out; omega); intro v151 w11 ho hb hg hat; (first | rw [← Ny150.out] at ho | (have hy_ := Ny150.out; (try rw [← Nbq6.out] at hy_); (try rw [← Nbq9.out] at hy_); rw [← hy_] at ho)); have n0_ := Aside0.mk (hb); have n1_ := Aside0.mk (ho); clear HB; clear HO_4; have HB := n0_; have HO152 := n1_; clear n0_ n1_; clear ho hb hg hat))
                  go_roundg k1
                  case measure => have := HK1.out; omega
                  case rel => exact ⟨(y150), (wrap64 (x5_1 + 1)), (wrap64 (x10_1 + 1)), (by first | rfl | (simp; done) | (simp [*]; done) | (simp; omega)), (by first | rfl | (simp; done) | (simp [*]; done) | (simp; omega)), H', ⟨by have := HK1.out; omega⟩, ⟨by (with_reducible repeat (first | apply Kd.R_alloc | apply Kd.R_drewN | apply Kd.R_drew)); exact HO152.out⟩, ⟨by repeat (first | (with_reducible first | exact HB.out | apply below_alloc | apply pw_below_drewN | apply below_drew1) | exact HB.out)⟩⟩
                · replace c10 := Bool.eq_false_iff.mpr c10
                  subst c10
                  have H1 : (stuff_Take.l0 k1 y150 0 l0 (l0.length : Int) (wrap64 (x10_1 + 1))) = some (r1, r2) := by rw [if_neg (show ¬ (false = true) by decide)] at H; exact H
                  clear H
                  have H := H1
                  clear H1
                  have H' := Aside0.mk H
                  clear H
                  have p149 : 0 ≤ (x10_1 : Int) := of_decide_eq_true (by first | (with_reducible assumption) | assumption)
                  have q149 : x10_1 < (l0.length : Int) := of_decide_eq_true (by first | (with_reducible assumption) | assumption)
                  obtain ⟨ad149, e149, hx149_0⟩ := Kd.at_bool HR0.out x10_1 p149 q149
                  (try rw [← Nbq9.out] at hx149_0)
                  cases e149
                  replace hx149_0 := (HB.out.cell (World.block_lt_of_cell? w _ hx149_0)).trans hx149_0
                  replace p149 := eq_true p149
                  replace q149 := eq_true q149
                  go_wp2_with (first | ((with_reducible refine gate_builtin (b := .append) (xs := #[.tmp 17, .tmp 19]) rfl ?_); at_builtin; refine Kd.R_append Kd.bool (w0 := w) w.heap.size rfl (.tmp 17) (.tmp 19) 27 4 (.bool false) 1 rfl Try.underlying27 info4 rfl (by decide) (by omega) u4 x4_1 false [.bool false] (fun _ => True) (fun _ => False) rfl rfl ?aP (fun _ hk => hk.elim) ?aF ?aO ?aB ?aS ?aL ?_; (case aP => exact rfl); (case aB => exact (by repeat (first | (with_reducible first | exact HB.out | apply below_alloc | apply pw_below_drewN | apply below_drew1) | exact HB.out))); (case aF => exact (fun _ _ => trivial)); (case aO => exact (by (with_reducible repeat (first | apply Kd.R_alloc | apply Kd.R_drewN | apply Kd.R_drew)); exact HO_4.out)); (case aS => exact (below_size (by repeat (first | (with_reducible first | exact HB.out | apply below_alloc | apply pw_below_drewN | apply below_drew1) | exact HB.out)))); (case aL => have := LMc8.out; omega); intro v151 w12 ho hb hg hat; (first | rw [← Ny150.out] at ho | (have hy_ := Ny150.out; (try rw [← Nbq6.out] at hy_); (try rw [← Nbq9.out] at hy_); rw [← hy_] at ho)); have n0_ := Aside0.mk (hb); have n1_ := Aside0.mk (ho); clear HB; clear HO_4; have HB := n0_; have HO152 := n1_; clear n0_ n1_; clear ho hb hg hat))
                  go_roundg k1
                  case measure => have := HK1.out; omega
                  case rel => exact ⟨(y150), (0), (wrap64 (x10_1 + 1)), (by first | rfl | (simp; done) | (simp [*]; done) | (simp; omega)), (by first | rfl | (simp; done) | (simp [*]; done) | (simp; omega)), H', ⟨by have := HK1.out; omega⟩, ⟨by (with_reducible repeat (first | apply Kd.R_alloc | apply Kd.R_drewN | apply Kd.R_drew)); exact HO152.out⟩, ⟨by repeat (first | (with_reducible first | exact HB.out | apply below_alloc | apply pw_below_drewN | apply below_drew1) | exact HB.out)⟩⟩
              · rw [if_neg c8] at H
                exact absurd H (by simp)
          · rw [if_neg c4] at H
            exact absurd H (by simp)
        · rw [if_neg c3] at H
          exact absurd H (by simp)
      · rw [if_neg c2] at H
        have c2b0 : decide (x10_1 < (l0.length : Int)) = false := decide_eq_false c2
        clear c2
        by_cases c13 : x5_1 = 5
        · rw [if_pos c13] at H
          have c13b0 : (x5_1 == 5) = true := beq_iff_eq.mpr c13
          have c13b1 : (x5_1 != 5) = false := bne_eq_false_iff_eq.mpr c13
          clear c13
          simp only [Option.some.injEq, Prod.mk.injEq] at H
          obtain ⟨rfl, rfl⟩ := H
          go_wp2
          go_ret2
          exact ⟨_, by first | rfl | (simp [errW_none, errW_some] <;> rfl) | (simp [*, errW_none, errW_some] <;> rfl), by first | exact Kd.R_nil _ _ _ _ _ | exact Kd.N_nil _ _ _ _ _ | exact Kd.V_nil _ _ _ _ _ | exact Kd.Q_nil _ _ _ _ _ | exact Kd.S_nil _ _ _ _ _, by repeat (first | (with_reducible first | exact HB.out | apply below_alloc | apply pw_below_drewN | apply below_drew1) | exact HB.out)⟩
        · rw [if_neg c13] at H
          have c13b0 : (x5_1 == 5) = false := beq_eq_false_iff_ne.mpr c13
          have c13b1 : (x5_1 != 5) = true := bne_iff_ne.mpr c13
          simp only [Option.some.injEq, Prod.mk.injEq] at H
          obtain ⟨rfl, rfl⟩ := H
          go_wp2
          go_ret2
          exact ⟨_, by first | rfl | (simp [errW_none, errW_some] <;> rfl) | (simp [*, errW_none, errW_some] <;> rfl), by (with_reducible repeat (first | apply Kd.R_alloc | apply Kd.R_drewN | apply Kd.R_drew)); exact HO_4.out, by repeat (first | (with_reducible first | exact HB.out | apply below_alloc | apply pw_below_drewN | apply below_drew1) | exact HB.out)⟩

/-! ### tape_Low: function 43 -/
def tape_Low.l0 : Nat → Int → List Bool → Int → Int → Option (Int)
  | 0, _, _, _, _ => none
  | k + 1, x3, x6, x7, x8 => if x8 < x7 then (if 0 ≤ x8 then (if x8 < (x6.length : Int) then (if rdOf false x6 x8 = true then (if x8 < 8 then (tape_Low.l0 k (Go.bits .or .u8 x3 (shl .u8 1 x8)) x6 x7 (wrap64 (x8 + 1))) else (tape_Low.l0 k x3 x6 x7 (wrap64 (x8 + 1)))) else (tape_Low.l0 k x3 x6 x7 (wrap64 (x8 + 1)))) else (none)) else (none)) else (some x3)
def tape_Low.f (k : Nat) (l0 : List Bool) : Option (Int) := tape_Low.l0 k 0 l0 (l0.length : Int) 0
theorem tape_Low.mono_l : ∀ k, (∀ y0 y1 y2 y3, LeO (tape_Low.l0 k y0 y1 y2 y3) (tape_Low.l0 (k + 1) y0 y1 y2 y3))
  | 0 => fun _ _ _ _ r h => by simp [tape_Low.l0] at h
  | k + 1 => by
    have ih0 := tape_Low.mono_l k
    · intro y0 y1 y2 y3
      unfold tape_Low.l0
      repeat' first
      | (with_reducible exact ih0 _ _ _ _)
      | (with_reducible exact LeO.refl _)
      | (with_reducible exact LeO.none _)
      | (with_reducible refine LeO.ite ?_ ?_)
      | (with_reducible refine LeO.bind ?_ (fun _ => ?_))
      | exact ih0 _ _ _ _
      | exact LeO.none _
      | refine LeO.ite ?_ ?_
      | refine LeO.bind ?_ (fun _ => ?_)
theorem tape_Low.mono : ∀ a0 k, LeO (tape_Low.f k a0) (tape_Low.f (k + 1) a0) := by
  intro a0 k
  have ih0 := tape_Low.mono_l k
  unfold tape_Low.f
  repeat' first
      | (with_reducible exact ih0 _ _ _ _)
      | (with_reducible exact LeO.refl _)
      | (with_reducible exact LeO.none _)
      | (with_reducible refine LeO.ite ?_ ?_)
      | (with_reducible refine LeO.bind ?_ (fun _ => ?_))
      | exact ih0 _ _ _ _
      | exact LeO.none _
      | refine LeO.ite ?_ ?_
      | refine LeO.bind ?_ (fun _ => ?_)
set_option maxHeartbeats 8000000 in
set_option maxRecDepth 100000 in
theorem tape_Low.calls (k : Nat) (A0 : Option Addr) (c0 : Nat) (l0 : List Bool) (r : Int) (w : World) (hr0 : Kd.C Kd.bool w A0 l0.length l0) (hc0 : l0.length ≤ c0) (h : tape_Low.f k l0 = some r) :
    Calls Try.prog 43 #[.slice A0 l0.length c0] w fun e w' => e = .returned (.int .u8 r) ∧ Drawn0 w w' := by
  have HR0 := Aside0.mk hr0
  have HC0 := Aside0.mk hc0
  clear hr0 hc0
  have H : (tape_Low.l0 k 0 l0 (l0.length : Int) 0) = some r := h
  clear h
  have H' := Aside0.mk H
  clear H
  go_enter Try.func43, Try.ntmps43
  go_wp2
  go_loopg [3, 8] k (fun kq v3 v8 w' => ∃ (x3_1 : Int) (x8_1 : Int), v3 = .int .u8 x3_1 ∧ v8 = .int .i64 x8_1 ∧ Aside0 (tape_Low.l0 kq x3_1 l0 (l0.length : Int) x8_1 = some r) ∧ Aside0 (kq ≤ k) ∧ Drawn0 w w')
  case atStart => exact ⟨(0), (0), (by first | rfl | (simp; done) | (simp [*]; done) | (simp; omega)), (by first | rfl | (simp; done) | (simp [*]; done) | (simp; omega)), H', ⟨Nat.le_refl _⟩, by repeat (first | exact Drawn0.refl _ | apply Drawn0.step)⟩
  case round =>
    clear H'
    obtain ⟨x3_1, x8_1, rfl, rfl, HA, HK1, ⟨m1, rfl⟩⟩ := hrel
    cases gk with
    | zero => exact absurd HA.out (by simp [tape_Low.l0])
    | succ k1 =>
      have H := HA.out
      clear HA
      simp only [tape_Low.l0] at H
      by_cases c2 : x8_1 < (l0.length : Int)
      · rw [if_pos c2] at H
        have c2b0 : decide (x8_1 < (l0.length : Int)) = true := decide_eq_true c2
        clear c2
        by_cases c3 : 0 ≤ x8_1
        · rw [if_pos c3] at H
          have c3b0 : decide (0 ≤ x8_1) = true := decide_eq_true c3
          clear c3
          by_cases c4 : x8_1 < (l0.length : Int)
          · rw [if_pos c4] at H
            have c4b0 : decide (x8_1 < (l0.length : Int)) = true := decide_eq_true c4
            clear c4
            obtain ⟨bq5, hbq5⟩ : ∃ b_ : Bool, b_ = (rdOf false l0 x8_1) := ⟨_, rfl⟩
            replace H : (if bq5 = true then (if x8_1 < 8 then (tape_Low.l0 k1 (Go.bits .or .u8 x3_1 (shl .u8 1 x8_1)) l0 (l0.length : Int) (wrap64 (x8_1 + 1))) else (tape_Low.l0 k1 x3_1 l0 (l0.length : Int) (wrap64 (x8_1 + 1)))) else (tape_Low.l0 k1 x3_1 l0 (l0.length : Int) (wrap64 (x8_1 + 1)))) = some r := by rw [← hbq5] at H; exact H
            have Nbq5 := Aside0.mk hbq5
            clear hbq5
            by_cases c6 : bq5 = true
            · subst c6
              have H1 : (if x8_1 < 8 then (tape_Low.l0 k1 (Go.bits .or .u8 x3_1 (shl .u8 1 x8_1)) l0 (l0.length : Int) (wrap64 (x8_1 + 1))) else (tape_Low.l0 k1 x3_1 l0 (l0.length : Int) (wrap64 (x8_1 + 1)))) = some r := by rw [if_pos rfl] at H; exact H
              clear H
              have H := H1
              clear H1
              by_cases c7 : x8_1 < 8
              · rw [if_pos c7] at H
                have c7b0 : decide (x8_1 < 8) = true := decide_eq_true c7
                clear c7
                have c8b0 := eq_true (of_decide_eq_true (by first | (with_reducible assumption) | assumption) : 0 ≤ x8_1)
                obtain ⟨ji9, hji9⟩ : ∃ j_ : Int, (shl .u8 1 x8_1) = j_ := ⟨_, rfl⟩
                replace H : (tape_Low.l0 k1 (Go.bits .or .u8 x3_1 (ji9)) l0 (l0.length : Int) (wrap64 (x8_1 + 1))) = some r := by first | (rw [hji9] at H; exact H) | (simp only [hji9] at H ⊢; exact H)
                have hji9_ : (IntKind.u8.wrap (1 * 2 ^ min x8_1.toNat 8)) = ji9 := hji9
                have hji9z : x8_1 ≤ 8 → (IntKind.u8.wrap (1 * 2 ^ x8_1.toNat)) = ji9 := shl_small hji9
                have hji9u : (IntKind.u8.wrap (2 ^ min x8_1.toNat 8)) = ji9 := by have h_ := hji9_; rw [Int.one_mul] at h_; exact h_
                have hji9v : x8_1 ≤ 8 → (IntKind.u8.wrap (2 ^ x8_1.toNat)) = ji9 := fun hle_ => by have h_ := hji9z hle_; rw [Int.one_mul] at h_; exact h_
                have H' := Aside0.mk H
                clear H
                have p153 : 0 ≤ (x8_1 : Int) := of_decide_eq_true (by first | (with_reducible assumption) | assumption)
                have q153 : x8_1 < (l0.length : Int) := of_decide_eq_true (by first | (with_reducible assumption) | assumption)
                obtain ⟨ad153, e153, hx153_0⟩ := Kd.at_bool HR0.out x8_1 p153 q153
                (try rw [← Nbq5.out] at hx153_0)
                cases e153
                replace p153 := eq_true p153
                replace q153 := eq_true q153
                go_wp2
                go_roundg k1
                case measure => have := HK1.out; omega
                case rel => exact ⟨(Go.bits .or .u8 x3_1 (ji9)), (wrap64 (x8_1 + 1)), (by first | rfl | (simp; done) | (simp only [← hji9] <;> (first | rfl | simp)) | (simp [*]; done)), (by first | rfl | (simp; done) | (simp [*]; done) | (simp; omega)), H', ⟨by have := HK1.out; omega⟩, by repeat (first | exact Drawn0.refl _ | apply Drawn0.step)⟩
              · rw [if_neg c7] at H
                have c7b0 : decide (x8_1 < 8) = false := decide_eq_false c7
                clear c7
                have H' := Aside0.mk H
                clear H
                have p153 : 0 ≤ (x8_1 : Int) := of_decide_eq_true (by first | (with_reducible assumption) | assumption)
                have q153 : x8_1 < (l0.length : Int) := of_decide_eq_true (by first | (with_reducible assumption) | assumption)
                obtain ⟨ad153, e153, hx153_0⟩ := Kd.at_bool HR0.out x8_1 p153 q153
                (try rw [← Nbq5.out] at hx153_0)
                cases e153
                replace p153 := eq_true p153
                replace q153 := eq_true q153
                go_wp2
                go_roundg k1
                case measure => have := HK1.out; omega
                case rel => exact ⟨(x3_1), (wrap64 (x8_1 + 1)), (by first | rfl | (simp; done) | (simp [*]; done) | (simp; omega)), (by first | rfl | (simp; done) | (simp [*]; done) | (simp; omega)), H', ⟨by have := HK1.out; omega⟩, by repeat (first | exact Drawn0.refl _ | apply Drawn0.step)⟩
            · replace c6 := Bool.eq_false_iff.mpr c6
              subst c6
              have H1 : (tape_Low.l0 k1 x3_1 l0 (l0.length : Int) (wrap64 (x8_1 + 1))) = some r := by rw [if_neg (show ¬ (false = true) by decide)] at H; exact H
              clear H
              have H := H1
              clear H1
              have H' := Aside0.mk H
              clear H
              have p153 : 0 ≤ (x8_1 : Int) := of_decide_eq_true (by first | (with_reducible assumption) | assumption)
              have q153 : x8_1 < (l0.length : Int) := of_decide_eq_true (by first | (with_reducible assumption) | assumption)
              obtain ⟨ad153, e153, hx153_0⟩ := Kd.at_bool HR0.out x8_1 p153 q153
              (try rw [← Nbq5.out] at hx153_0)
              cases e153
              replace p153 := eq_true p153
              replace q153 := eq_true q153
              go_wp2
              go_roundg k1
              case measure => have := HK1.out; omega
              case rel => exact ⟨(x3_1), (wrap64 (x8_1 + 1)), (by first | rfl | (simp; done) | (simp [*]; done) | (simp; omega)), (by first | rfl | (simp; done) | (simp [*]; done) | (simp; omega)), H', ⟨by have := HK1.out; omega⟩, by repeat (first | exact Drawn0.refl _ | apply Drawn0.step)⟩
          · rw [if_neg c4] at H
            exact absurd H (by simp)
        · rw [if_neg c3] at H
          exact absurd H (by simp)
      · rw [if_neg c2] at H
        have c2b0 : decide (x8_1 < (l0.length : Int)) = false := decide_eq_false c2
        clear c2
        obtain rfl := Option.some.inj H
        go_wp2
        go_ret
        exact ⟨by first | rfl | (simp; done) | (simp [*]; done), by repeat (first | exact Drawn0.refl _ | apply Drawn0.step)⟩

/-! ### tape_Tape_Octets: function 32 -/
def tape_Tape_Octets.l0 : Nat → List Bool → List Int → Int → Option (List Int × Int)
  | 0, _, _, _ => none
  | k + 1, x0, x4, x5 => if x5 < (x0.length : Int) then (if 0 ≤ x5 then (if x5 ≤ (wrap64 (x5 + 8)) then (if (wrap64 (x5 + 8)) ≤ (x0.length : Int) then ((tape_Low.f k ((x0.take ((wrap64 (x5 + 8)) : Int).toNat).drop (x5 : Int).toNat)).bind fun t155 => (if x4.length < 140737488355328 then (tape_Tape_Octets.l0 k x0 (x4 ++ [t155]) (wrap64 (x5 + 8))) else (none))) else (none)) else (none)) else (none)) else (some (x4, 0))
def tape_Tape_Octets.f (k : Nat) (l0 : List Bool) : Option (List Int × Int) := if ((l0.length : Int) % 8) = 0 then (tape_Tape_Octets.l0 k l0 ([] : List Int) 0) else (some (([] : List Int), 8))
theorem tape_Tape_Octets.mono_l : ∀ k, (∀ y0 y1 y2, LeO (tape_Tape_Octets.l0 k y0 y1 y2) (tape_Tape_Octets.l0 (k + 1) y0 y1 y2))
  | 0 => fun _ _ _ r h => by simp [tape_Tape_Octets.l0] at h
  | k + 1 => by
    have ih0 := tape_Tape_Octets.mono_l k
    · intro y0 y1 y2
      unfold tape_Tape_Octets.l0
      repeat' first
      | (with_reducible exact ih0 _ _ _)
      | (with_reducible exact tape_Low.mono _ _)
      | (with_reducible exact LeO.refl _)
      | (with_reducible exact LeO.none _)
      | (with_reducible refine LeO.ite ?_ ?_)
      | (with_reducible refine LeO.bind ?_ (fun _ => ?_))
      | exact ih0 _ _ _
      | exact tape_Low.mono _ _
      | exact LeO.none _
      | refine LeO.ite ?_ ?_
      | refine LeO.bind ?_ (fun _ => ?_)
theorem tape_Tape_Octets.mono : ∀ a0 k, LeO (tape_Tape_Octets.f k a0) (tape_Tape_Octets.f (k + 1) a0) := by
  intro a0 k
  have ih0 := tape_Tape_Octets.mono_l k
  unfold tape_Tape_Octets.f
  repeat' first
      | (with_reducible exact ih0 _ _ _)
      | (with_reducible exact tape_Low.mono _ _)
      | (with_reducible exact LeO.refl _)
      | (with_reducible exact LeO.none _)
      | (with_reducible refine LeO.ite ?_ ?_)
      | (with_reducible refine LeO.bind ?_ (fun _ => ?_))
      | exact ih0 _ _ _
      | exact tape_Low.mono _ _
      | exact LeO.none _
      | refine LeO.ite ?_ ?_
      | refine LeO.bind ?_ (fun _ => ?_)
set_option maxHeartbeats 8000000 in
set_option maxRecDepth 100000 in
theorem tape_Tape_Octets.calls (k : Nat) (A0 : Option Addr) (c0 : Nat) (l0 : List Bool) (r1 : List Int) (r2 : Int) (w : World) (hr0 : Kd.C Kd.bool w A0 l0.length l0) (hc0 : l0.length ≤ c0) (h : tape_Tape_Octets.f k l0 = some (r1, r2)) :
    Calls Try.prog 32 #[.slice A0 l0.length c0] w fun e w' => ∃ v0_ : Value, e = .returned (.tuple #[v0_, .int .i64 r2]) ∧ Kd.R (Kd.int .u8) 5 w' w.heap.size (fun _ => True) v0_ r1 ∧ Below w.heap.size w w' := by
  have HR0 := Aside0.mk hr0
  have HC0 := Aside0.mk hc0
  clear hr0 hc0
  have HB := Aside0.mk (Below.refl w.heap.size w)
  have H : (if ((l0.length : Int) % 8) = 0 then (tape_Tape_Octets.l0 k l0 ([] : List Int) 0) else (some (([] : List Int), 8))) = some (r1, r2) := h
  clear h
  by_cases c2 : ((l0.length : Int) % 8) = 0
  · rw [if_pos c2] at H
    have c2b0 : (((l0.length : Int) % 8) == 0) = true := beq_iff_eq.mpr c2
    have c2b1 : (((l0.length : Int) % 8) != 0) = false := bne_eq_false_iff_eq.mpr c2
    clear c2
    have H' := Aside0.mk H
    clear H
    go_enter Try.func32, Try.ntmps32
    go_wp2
    go_loopg [4, 5] k (fun kq v4 v5 w' => ∃ (x4_1 : List Int) (x5_1 : Int), v5 = .int .i64 x5_1 ∧ Aside0 (tape_Tape_Octets.l0 kq l0 x4_1 x5_1 = some (r1, r2)) ∧ Aside0 (kq ≤ k) ∧ Aside0 (Kd.R (Kd.int .u8) 5 w' w.heap.size (fun _ => True) v4 x4_1) ∧ Aside0 (Below w.heap.size w w'))
    case atStart => exact ⟨(([] : List Int)), (0), (by first | rfl | (simp; done) | (simp [*]; done) | (simp; omega)), H', ⟨Nat.le_refl _⟩, ⟨by first | exact Kd.R_nil _ _ _ _ _ | exact Kd.N_nil _ _ _ _ _ | exact Kd.V_nil _ _ _ _ _ | exact Kd.Q_nil _ _ _ _ _ | exact Kd.S_nil _ _ _ _ _⟩, ⟨by repeat (first | (with_reducible first | exact HB.out | apply below_alloc | apply pw_below_drewN | apply below_drew1) | exact HB.out)⟩⟩
    case round =>
      clear H'
      try clear c2
      try clear c2b0
      try clear c2b1
      try clear p2
      obtain ⟨x4_1, x5_1, rfl, HA, HK1, HO_4, HB⟩ := hrel
      cases gk with
      | zero => exact absurd HA.out (by simp [tape_Tape_Octets.l0])
      | succ k1 =>
        have H := HA.out
        clear HA
        simp only [tape_Tape_Octets.l0] at H
        by_cases c3 : x5_1 < (l0.length : Int)
        · rw [if_pos c3] at H
          have c3b0 : decide (x5_1 < (l0.length : Int)) = true := decide_eq_true c3
          clear c3
          by_cases c4 : 0 ≤ x5_1
          · rw [if_pos c4] at H
            have c4b0 := eq_true c4
            have c4b1 : decide (0 ≤ x5_1) = true := decide_eq_true c4
            clear c4
            by_cases c5 : x5_1 ≤ (wrap64 (x5_1 + 8))
            · rw [if_pos c5] at H
              have c5b0 := eq_true c5
              have c5b1 : decide (x5_1 ≤ (wrap64 (x5_1 + 8))) = true := decide_eq_true c5
              by_cases c6 : (wrap64 (x5_1 + 8)) ≤ (l0.length : Int)
              · rw [if_pos c6] at H
                have c6b0 := eq_true c6
                have c6b1 : decide ((wrap64 (x5_1 + 8)) ≤ (l0.length : Int)) = true := decide_eq_true c6
                replace H := Option.bind_eq_some_iff.mp H
                obtain ⟨t155, A70, H⟩ := H
                replace H : (if x4_1.length < 140737488355328 then (tape_Tape_Octets.l0 k1 l0 (x4_1 ++ [t155]) (wrap64 (x5_1 + 8))) else (none)) = some (r1, r2) := H
                have A7 := Aside0.mk A70
                clear A70
                by_cases c8 : x4_1.length < 140737488355328
                · rw [if_pos c8] at H
                  have LMc8 := Aside0.mk c8
                  clear c8
                  obtain ⟨y156, hy156⟩ : ∃ y_ : List Int, y_ = (x4_1 ++ [t155]) := ⟨_, rfl⟩
                  replace H : (tape_Tape_Octets.l0 k1 l0 y156 (wrap64 (x5_1 + 8))) = some (r1, r2) := by first | (rw [hy156]; with_reducible exact H) | (have H2_ := (Option.bind_some _ _).symm.trans H; rw [hy156]; with_reducible exact H2_) | (have H2_ := (Option.bind_some _ _).symm.trans H; with_reducible exact H2_) | with_reducible exact H | (rw [hy156]; exact H) | exact H
                  have Ny156 := Aside0.mk hy156
                  clear hy156
                  have H' := Aside0.mk H
                  clear H
                  obtain ⟨i09, hi09, _, hsz9, _⟩ := info_parts info4
                  obtain ⟨A9, hcut9, hA9, hC9⟩ := print_mid_of (P := Try.prog) Value.bool false 27 4 .i64 .i64 Try.underlying27 hi09 hsz9 A0 c0 l0 x5_1 (wrap64 (x5_1 + 8)) (of_decide_eq_true (by first | (with_reducible assumption) | assumption)) (by first | omega | exact of_decide_eq_true (by first | (with_reducible assumption) | assumption)) (of_decide_eq_true (by first | (with_reducible assumption) | assumption)) HC0.out
                  have HR154 := Aside0.mk (Kd.C_of_reads (h1 := fun _ => rfl) (hA9 _ (Kd.reads_of_C HR0.out)))
                  have HC154 := Aside0.mk hC9
                  clear hA9 hC9 hi09 hsz9
                  go_wp2_with (first | ((with_reducible refine gate_callee (f := 43) rfl ?_); refine goesL_ (some 22) rfl rfl Try.func43 (by kernel_rfl) rfl #[.slice A9 ((l0.take ((wrap64 (x5_1 + 8)) : Int).toNat).drop (x5_1 : Int).toNat).length (c0 - x5_1.toNat)] rfl (by (try simp only [List.map_toArray, List.map_cons, List.map_nil]); first | done | (rw [show ((l0.take ((wrap64 (x5_1 + 8)) : Int).toNat).drop (x5_1 : Int).toNat).length = ((wrap64 (x5_1 + 8)).toNat - x5_1.toNat) from (by rw [List.length_drop, List.length_take]; have h_ : ((wrap64 (x5_1 + 8)) : Int) ≤ (l0.length : Int) := of_decide_eq_true (by first | (with_reducible assumption) | assumption); omega)] <;> rfl) | rfl | (simp only [List.length_drop, List.length_take]; rfl)) ?_; (with_reducible refine (tape_Low.calls k1 _ _ ((l0.take ((wrap64 (x5_1 + 8)) : Int).toNat).drop (x5_1 : Int).toNat) t155 _ ?side1 ?side2 A7.out).mono ?_); (case side1 => repeat (first | exact (Kd.C_below HR154.out HB.out) | (with_reducible refine Kd.C_alloc ?_ _) | (with_reducible refine Kd.C_drewN ?_ _) | (with_reducible refine Kd.C_drew ?_))); (case side2 => exact HC154.out); rintro e w' ⟨rfl, ⟨nd, rfl⟩⟩; refine ⟨_, rfl, ?_⟩) | ((with_reducible refine gate_builtin (b := .append) (xs := #[.tmp 16, .tmp 23]) rfl ?_); at_builtin; refine Kd.R_append (Kd.int .u8) (w0 := w) w.heap.size rfl (.tmp 16) (.tmp 23) 22 5 (.int .u8 0) 1 rfl Try.underlying22 info5 rfl (by decide) (by omega) u4 x4_1 t155 [.int .u8 t155] (fun _ => True) (fun _ => False) rfl rfl ?aP (fun _ hk => hk.elim) ?aF ?aO ?aB ?aS ?aL ?_; (case aP => exact rfl); (case aB => exact (by repeat (first | (with_reducible first | exact HB.out | apply below_alloc | apply pw_below_drewN | apply below_drew1) | exact HB.out))); (case aF => exact (fun _ _ => trivial)); (case aO => exact (by (with_reducible repeat (first | apply Kd.R_alloc | apply Kd.R_drewN | apply Kd.R_drew)); exact HO_4.out)); (case aS => exact (below_size (by repeat (first | (with_reducible first | exact HB.out | apply below_alloc | apply pw_below_drewN | apply below_drew1) | exact HB.out)))); (case aL => have := LMc8.out; omega); intro v157 w10 ho hb hg hat; rw [← Ny156.out] at ho; have n0_ := Aside0.mk (hb); have n1_ := Aside0.mk (ho); clear HB; clear HO_4; have HB := n0_; have HO158 := n1_; clear n0_ n1_; clear ho hb hg hat))
                  go_roundg k1
                  case measure => have := HK1.out; omega
                  case rel => exact ⟨(y156), (wrap64 (x5_1 + 8)), (by first | rfl | (simp; done) | (simp [*]; done) | (simp; omega)), H', ⟨by have := HK1.out; omega⟩, ⟨by (with_reducible repeat (first | apply Kd.R_alloc | apply Kd.R_drewN | apply Kd.R_drew)); exact HO158.out⟩, ⟨by repeat (first | (with_reducible first | exact HB.out | apply below_alloc | apply pw_below_drewN | apply below_drew1) | exact HB.out)⟩⟩
                · rw [if_neg c8] at H
                  exact absurd H (by simp)
              · rw [if_neg c6] at H
                exact absurd H (by simp)
            · rw [if_neg c5] at H
              exact absurd H (by simp)
          · rw [if_neg c4] at H
            exact absurd H (by simp)
        · rw [if_neg c3] at H
          have c3b0 : decide (x5_1 < (l0.length : Int)) = false := decide_eq_false c3
          clear c3
          simp only [Option.some.injEq, Prod.mk.injEq] at H
          obtain ⟨rfl, rfl⟩ := H
          go_wp2
          go_ret2
          exact ⟨_, by first | rfl | (simp [errW_none, errW_some] <;> rfl) | (simp [*, errW_none, errW_some] <;> rfl), by (with_reducible repeat (first | apply Kd.R_alloc | apply Kd.R_drewN | apply Kd.R_drew)); exact HO_4.out, by repeat (first | (with_reducible first | exact HB.out | apply below_alloc | apply pw_below_drewN | apply below_drew1) | exact HB.out)⟩
  · rw [if_neg c2] at H
    have c2b0 : (((l0.length : Int) % 8) == 0) = false := beq_eq_false_iff_ne.mpr c2
    have c2b1 : (((l0.length : Int) % 8) != 0) = true := bne_iff_ne.mpr c2
    simp only [Option.some.injEq, Prod.mk.injEq] at H
    obtain ⟨rfl, rfl⟩ := H
    go_enter Try.func32, Try.ntmps32
    go_wp2
    go_ret2
    exact ⟨_, by first | rfl | (simp [errW_none, errW_some] <;> rfl) | (simp [*, errW_none, errW_some] <;> rfl), by first | exact Kd.R_nil _ _ _ _ _ | exact Kd.N_nil _ _ _ _ _ | exact Kd.V_nil _ _ _ _ _ | exact Kd.Q_nil _ _ _ _ _ | exact Kd.S_nil _ _ _ _ _, by repeat (first | (with_reducible first | exact HB.out | apply below_alloc | apply pw_below_drewN | apply below_drew1) | exact HB.out)⟩

/-! ### rest_Right: function 33 -/
def rest_Right.f (k : Nat) (l0 : List Int) : Option (Bool) := if (l0.length : Int) ≥ 2 then ((tape_Of.f k l0).bind fun t159 => ((rest_Bits.f k t159).bind fun t162 => (some (t162 == 61624)))) else (some false)
theorem rest_Right.mono : ∀ a0 k, LeO (rest_Right.f k a0) (rest_Right.f (k + 1) a0) := by
  intro a0 k
  unfold rest_Right.f
  repeat' first
      | (with_reducible exact rest_Bits.mono _ _)
      | (with_reducible exact tape_Of.mono _ _)
      | (with_reducible exact LeO.refl _)
      | (with_reducible exact LeO.none _)
      | (with_reducible refine LeO.ite ?_ ?_)
      | (with_reducible refine LeO.bind ?_ (fun _ => ?_))
      | exact rest_Bits.mono _ _
      | exact tape_Of.mono _ _
      | exact LeO.none _
      | refine LeO.ite ?_ ?_
      | refine LeO.bind ?_ (fun _ => ?_)
set_option maxHeartbeats 8000000 in
set_option maxRecDepth 100000 in
theorem rest_Right.calls (k : Nat) (A0 : Option Addr) (c0 : Nat) (l0 : List Int) (r : Bool) (w : World) (hr0 : Kd.C (Kd.int .u8) w A0 l0.length l0) (hc0 : l0.length ≤ c0) (h : rest_Right.f k l0 = some r) :
    Calls Try.prog 33 #[.slice A0 l0.length c0] w fun e w' => e = .returned (.bool r) ∧ Below w.heap.size w w' := by
  have HR0 := Aside0.mk hr0
  have HC0 := Aside0.mk hc0
  clear hr0 hc0
  have HB := Aside0.mk (Below.refl w.heap.size w)
  have H : (if (l0.length : Int) ≥ 2 then ((tape_Of.f k l0).bind fun t159 => ((rest_Bits.f k t159).bind fun t162 => (some (t162 == 61624)))) else (some false)) = some r := h
  clear h
  by_cases c2 : (l0.length : Int) ≥ 2
  · rw [if_pos c2] at H
    have c2b0 : decide (2 ≤ (l0.length : Int)) = true := decide_eq_true c2
    have c2b1 : decide (2 ≤ l0.length) = true := decide_eq_true (by omega)
    clear c2
    replace H := Option.bind_eq_some_iff.mp H
    obtain ⟨t159, A30, H⟩ := H
    replace H : ((rest_Bits.f k t159).bind fun t162 => (some (t162 == 61624))) = some r := H
    have A3 := Aside0.mk A30
    clear A30
    replace H := Option.bind_eq_some_iff.mp H
    obtain ⟨t162, A40, H⟩ := H
    replace H : (some (t162 == 61624)) = some r := H
    have A4 := Aside0.mk A40
    clear A40
    obtain rfl := Option.some.inj H
    go_enter Try.func33, Try.ntmps33
    go_wp2_with (first | (go_at_call 29; (with_reducible refine (tape_Of.calls k _ _ l0 t159 _ ?side1 ?side2 A3.out).mono ?_); (case side1 => repeat (first | exact HR0.out | (with_reducible refine Kd.C_alloc ?_ _) | (with_reducible refine Kd.C_drewN ?_ _) | (with_reducible refine Kd.C_drew ?_))); (case side2 => exact HC0.out); rintro e w5 ⟨v160, rfl, ho0, hb⟩; have n0_ := Aside0.mk (Kd.R_lower ho0 (below_size (by repeat (first | (with_reducible first | exact HB.out | apply below_alloc | apply pw_below_drewN | apply below_drew1) | exact HB.out)))); have n1_ := Aside0.mk (below_step (by repeat (first | (with_reducible first | exact HB.out | apply below_alloc | apply pw_below_drewN | apply below_drew1) | exact HB.out)) hb); clear HB; have HO161 := n0_; have HB := n1_; clear n0_ n1_; (try clear hb); (try clear hb2); (try clear hk); (try clear hi); (try clear ho0); obtain ⟨Ao6, co6, eo6⟩ := Kd.R_slice HO161.out; subst eo6) | (go_at_call 44; (with_reducible refine (rest_Bits.calls k _ _ t159 t162 _ ?side1 ?side2 A4.out).mono ?_); (case side1 => repeat (first | exact (Kd.R_reads' HO161.out).2.2 | (with_reducible refine Kd.C_alloc ?_ _) | (with_reducible refine Kd.C_drewN ?_ _) | (with_reducible refine Kd.C_drew ?_))); (case side2 => exact (Kd.R_reads' HO161.out).2.1); rintro e w' ⟨rfl, ⟨nd, rfl⟩⟩))
    go_ret
    exact ⟨by first | rfl | (simp [errW_none, errW_some] <;> rfl) | (simp [*, errW_none, errW_some] <;> rfl), by repeat (first | (with_reducible first | exact HB.out | apply below_alloc | apply pw_below_drewN | apply below_drew1) | exact HB.out)⟩
  · rw [if_neg c2] at H
    have c2b0 : decide (2 ≤ (l0.length : Int)) = false := decide_eq_false c2
    have c2b1 : decide (2 ≤ l0.length) = false := decide_eq_false (by omega)
    clear c2
    obtain rfl := Option.some.inj H
    go_enter Try.func33, Try.ntmps33
    go_wp2
    go_ret
    exact ⟨by first | rfl | (simp [errW_none, errW_some] <;> rfl) | (simp [*, errW_none, errW_some] <;> rfl), by repeat (first | (with_reducible first | exact HB.out | apply below_alloc | apply pw_below_drewN | apply below_drew1) | exact HB.out)⟩

/-! ### flag_Judge: function 12 -/
def flag_Judge.f (k : Nat) (l0 : List Bool) : Option (List Int × Int) := (stuff_Take.f k l0).bind fun bt163 => (if bt163.2 = 0 then ((tape_Tape_Octets.f k bt163.1).bind fun bt167 => (if bt167.2 = 0 then (if (bt167.1.length : Int) < 5 then (some (([] : List Int), 5)) else (if (bt167.1.length : Int) > 279 then (some (([] : List Int), 6)) else ((rest_Right.f k bt167.1).bind fun t171 => (if t171 = true then (if 0 ≤ (wrap64 ((bt167.1.length : Int) - 2)) then (if (wrap64 ((bt167.1.length : Int) - 2)) ≤ (bt167.1.length : Int) then (some ((bt167.1.take ((wrap64 ((bt167.1.length : Int) - 2)) : Int).toNat), 0)) else (none)) else (none)) else (some (([] : List Int), 7)))))) else (some (([] : List Int), bt167.2)))) else (some (([] : List Int), 4)))
theorem flag_Judge.mono : ∀ a0 k, LeO (flag_Judge.f k a0) (flag_Judge.f (k + 1) a0) := by
  intro a0 k
  unfold flag_Judge.f
  repeat' first
      | (with_reducible exact rest_Right.mono _ _)
      | (with_reducible exact stuff_Take.mono _ _)
      | (with_reducible exact tape_Tape_Octets.mono _ _)
      | (with_reducible exact LeO.refl _)
      | (with_reducible exact LeO.none _)
      | (with_reducible refine LeO.ite ?_ ?_)
      | (with_reducible refine LeO.bind ?_ (fun _ => ?_))
      | exact rest_Right.mono _ _
      | exact stuff_Take.mono _ _
      | exact tape_Tape_Octets.mono _ _
      | exact LeO.none _
      | refine LeO.ite ?_ ?_
      | refine LeO.bind ?_ (fun _ => ?_)
set_option maxHeartbeats 8000000 in
set_option maxRecDepth 100000 in
theorem flag_Judge.calls (k : Nat) (A0 : Option Addr) (c0 : Nat) (l0 : List Bool) (r1 : List Int) (r2 : Int) (w : World) (hr0 : Kd.C Kd.bool w A0 l0.length l0) (hc0 : l0.length ≤ c0) (h : flag_Judge.f k l0 = some (r1, r2)) :
    Calls Try.prog 12 #[.slice A0 l0.length c0] w fun e w' => ∃ v0_ : Value, e = .returned (.tuple #[v0_, .int .i64 r2]) ∧ Kd.R (Kd.int .u8) 5 w' w.heap.size (fun _ => True) v0_ r1 ∧ Below w.heap.size w w' := by
  have HR0 := Aside0.mk hr0
  have HC0 := Aside0.mk hc0
  clear hr0 hc0
  have HB := Aside0.mk (Below.refl w.heap.size w)
  have H : ((stuff_Take.f k l0).bind fun bt163 => (if bt163.2 = 0 then ((tape_Tape_Octets.f k bt163.1).bind fun bt167 => (if bt167.2 = 0 then (if (bt167.1.length : Int) < 5 then (some (([] : List Int), 5)) else (if (bt167.1.length : Int) > 279 then (some (([] : List Int), 6)) else ((rest_Right.f k bt167.1).bind fun t171 => (if t171 = true then (if 0 ≤ (wrap64 ((bt167.1.length : Int) - 2)) then (if (wrap64 ((bt167.1.length : Int) - 2)) ≤ (bt167.1.length : Int) then (some ((bt167.1.take ((wrap64 ((bt167.1.length : Int) - 2)) : Int).toNat), 0)) else (none)) else (none)) else (some (([] : List Int), 7)))))) else (some (([] : List Int), bt167.2)))) else (some (([] : List Int), 4)))) = some (r1, r2) := h
  clear h
  replace H := Option.bind_eq_some_iff.mp H
  obtain ⟨⟨t163, t164⟩, A20, H⟩ := H
  replace H : (if t164 = 0 then ((tape_Tape_Octets.f k t163).bind fun bt167 => (if bt167.2 = 0 then (if (bt167.1.length : Int) < 5 then (some (([] : List Int), 5)) else (if (bt167.1.length : Int) > 279 then (some (([] : List Int), 6)) else ((rest_Right.f k bt167.1).bind fun t171 => (if t171 = true then (if 0 ≤ (wrap64 ((bt167.1.length : Int) - 2)) then (if (wrap64 ((bt167.1.length : Int) - 2)) ≤ (bt167.1.length : Int) then (some ((bt167.1.take ((wrap64 ((bt167.1.length : Int) - 2)) : Int).toNat), 0)) else (none)) else (none)) else (some (([] : List Int), 7)))))) else (some (([] : List Int), bt167.2)))) else (some (([] : List Int), 4))) = some (r1, r2) := H
  have A2 := Aside0.mk A20
  clear A20
  by_cases c3 : t164 = 0
  · rw [if_pos c3] at H
    have c3b0 : (t164 == 0) = true := beq_iff_eq.mpr c3
    have c3b1 : (t164 != 0) = false := bne_eq_false_iff_eq.mpr c3
    clear c3
    replace H := Option.bind_eq_some_iff.mp H
    obtain ⟨⟨t167, t168⟩, A40, H⟩ := H
    replace H : (if t168 = 0 then (if (t167.length : Int) < 5 then (some (([] : List Int), 5)) else (if (t167.length : Int) > 279 then (some (([] : List Int), 6)) else ((rest_Right.f k t167).bind fun t171 => (if t171 = true then (if 0 ≤ (wrap64 ((t167.length : Int) - 2)) then (if (wrap64 ((t167.length : Int) - 2)) ≤ (t167.length : Int) then (some ((t167.take ((wrap64 ((t167.length : Int) - 2)) : Int).toNat), 0)) else (none)) else (none)) else (some (([] : List Int), 7)))))) else (some (([] : List Int), t168))) = some (r1, r2) := H
    have A4 := Aside0.mk A40
    clear A40
    by_cases c5 : t168 = 0
    · rw [if_pos c5] at H
      have c5b0 : (t168 == 0) = true := beq_iff_eq.mpr c5
      have c5b1 : (t168 != 0) = false := bne_eq_false_iff_eq.mpr c5
      clear c5
      by_cases c6 : (t167.length : Int) < 5
      · rw [if_pos c6] at H
        have c6b0 : decide ((t167.length : Int) < 5) = true := decide_eq_true c6
        have c6b1 : decide (t167.length < 5) = true := decide_eq_true (by omega)
        clear c6
        simp only [Option.some.injEq, Prod.mk.injEq] at H
        obtain ⟨rfl, rfl⟩ := H
        go_enter Try.func12, Try.ntmps12
        go_wp2_with (first | ((with_reducible refine gate_callee (f := 31) rfl ?_); refine goesL_ (some 9) rfl rfl Try.func31 (by kernel_rfl) rfl #[.slice A0 l0.length c0] rfl (by (try simp only [List.map_toArray, List.map_cons, List.map_nil]); first | done | rfl | (simp only [List.length_drop, List.length_take]; rfl) | (simp [Act.eval, *]; done)) ?_; (with_reducible refine (stuff_Take.calls k _ _ l0 t163 t164 _ ?side1 ?side2 A2.out).mono ?_); (case side1 => repeat (first | exact HR0.out | (with_reducible refine Kd.C_alloc ?_ _) | (with_reducible refine Kd.C_drewN ?_ _) | (with_reducible refine Kd.C_drew ?_))); (case side2 => exact HC0.out); rintro e w7 ⟨v165, rfl, ho0, hb⟩; refine ⟨_, rfl, ?_⟩; have n0_ := Aside0.mk (Kd.R_lower ho0 (below_size (by repeat (first | (with_reducible first | exact HB.out | apply below_alloc | apply pw_below_drewN | apply below_drew1) | exact HB.out)))); have n1_ := Aside0.mk (below_step (by repeat (first | (with_reducible first | exact HB.out | apply below_alloc | apply pw_below_drewN | apply below_drew1) | exact HB.out)) hb); clear HB; have HO166 := n0_; have HB := n1_; clear n0_ n1_; (try clear hb); (try clear hb2); (try clear hk); (try clear hi); (try clear ho0); obtain ⟨Ao8, co8, eo8⟩ := Kd.R_slice HO166.out; subst eo8) | ((with_reducible refine gate_callee (f := 32) rfl ?_); refine goesL_ (some 16) rfl rfl Try.func32 (by kernel_rfl) rfl #[.slice Ao8 t163.length co8] rfl (by (try simp only [List.map_toArray, List.map_cons, List.map_nil]); first | done | rfl | (simp only [List.length_drop, List.length_take]; rfl) | (simp [Act.eval, *]; done)) ?_; (with_reducible refine (tape_Tape_Octets.calls k _ _ t163 t167 t168 _ ?side1 ?side2 A4.out).mono ?_); (case side1 => repeat (first | exact (Kd.R_reads' HO166.out).2.2 | (with_reducible refine Kd.C_alloc ?_ _) | (with_reducible refine Kd.C_drewN ?_ _) | (with_reducible refine Kd.C_drew ?_))); (case side2 => exact (Kd.R_reads' HO166.out).2.1); rintro e w9 ⟨v169, rfl, ho0, hb⟩; refine ⟨_, rfl, ?_⟩; have n0_ := Aside0.mk (Kd.R_below (by (with_reducible repeat (first | apply Kd.R_alloc | apply Kd.R_drewN | apply Kd.R_drew)); exact HO166.out) hb); have n1_ := Aside0.mk (Kd.R_lower ho0 (below_size (by repeat (first | (with_reducible first | exact HB.out | apply below_alloc | apply pw_below_drewN | apply below_drew1) | exact HB.out)))); have n2_ := Aside0.mk (below_step (by repeat (first | (with_reducible first | exact HB.out | apply below_alloc | apply pw_below_drewN | apply below_drew1) | exact HB.out)) hb); clear HO166; clear HB; have HO166 := n0_; have HO170 := n1_; have HB := n2_; clear n0_ n1_ n2_; (try clear hb); (try clear hb2); (try clear hk); (try clear hi); (try clear ho0); obtain ⟨Ao10, co10, eo10⟩ := Kd.R_slice HO170.out; subst eo10))
        go_ret2
        exact ⟨_, by first | rfl | (simp [errW_none, errW_some] <;> rfl) | (simp [*, errW_none, errW_some] <;> rfl), by first | exact Kd.R_nil _ _ _ _ _ | exact Kd.N_nil _ _ _ _ _ | exact Kd.V_nil _ _ _ _ _ | exact Kd.Q_nil _ _ _ _ _ | exact Kd.S_nil _ _ _ _ _, by repeat (first | (with_reducible first | exact HB.out | apply below_alloc | apply pw_below_drewN | apply below_drew1) | exact HB.out)⟩
      · rw [if_neg c6] at H
        have c6b0 : decide ((t167.length : Int) < 5) = false := decide_eq_false c6
        have c6b1 : decide (t167.length < 5) = false := decide_eq_false (by omega)
        clear c6
        by_cases c11 : (t167.length : Int) > 279
        · rw [if_pos c11] at H
          have c11b0 : decide (279 < (t167.length : Int)) = true := decide_eq_true c11
          have c11b1 : decide (279 < t167.length) = true := decide_eq_true (by omega)
          clear c11
          simp only [Option.some.injEq, Prod.mk.injEq] at H
          obtain ⟨rfl, rfl⟩ := H
          go_enter Try.func12, Try.ntmps12
          go_wp2_with (first | ((with_reducible refine gate_callee (f := 31) rfl ?_); refine goesL_ (some 9) rfl rfl Try.func31 (by kernel_rfl) rfl #[.slice A0 l0.length c0] rfl (by (try simp only [List.map_toArray, List.map_cons, List.map_nil]); first | done | rfl | (simp only [List.length_drop, List.length_take]; rfl) | (simp [Act.eval, *]; done)) ?_; (with_reducible refine (stuff_Take.calls k _ _ l0 t163 t164 _ ?side1 ?side2 A2.out).mono ?_); (case side1 => repeat (first | exact HR0.out | (with_reducible refine Kd.C_alloc ?_ _) | (with_reducible refine Kd.C_drewN ?_ _) | (with_reducible refine Kd.C_drew ?_))); (case side2 => exact HC0.out); rintro e w12 ⟨v165, rfl, ho0, hb⟩; refine ⟨_, rfl, ?_⟩; have n0_ := Aside0.mk (Kd.R_lower ho0 (below_size (by repeat (first | (with_reducible first | exact HB.out | apply below_alloc | apply pw_below_drewN | apply below_drew1) | exact HB.out)))); have n1_ := Aside0.mk (below_step (by repeat (first | (with_reducible first | exact HB.out | apply below_alloc | apply pw_below_drewN | apply below_drew1) | exact HB.out)) hb); clear HB; have HO166 := n0_; have HB := n1_; clear n0_ n1_; (try clear hb); (try clear hb2); (try clear hk); (try clear hi); (try clear ho0); obtain ⟨Ao13, co13, eo13⟩ := Kd.R_slice HO166.out; subst eo13) | ((with_reducible refine gate_callee (f := 32) rfl ?_); refine goesL_ (some 16) rfl rfl Try.func32 (by kernel_rfl) rfl #[.slice Ao13 t163.length co13] rfl (by (try simp only [List.map_toArray, List.map_cons, List.map_nil]); first | done | rfl | (simp only [List.length_drop, List.length_take]; rfl) | (simp [Act.eval, *]; done)) ?_; (with_reducible refine (tape_Tape_Octets.calls k _ _ t163 t167 t168 _ ?side1 ?side2 A4.out).mono ?_); (case side1 => repeat (first | exact (Kd.R_reads' HO166.out).2.2 | (with_reducible refine Kd.C_alloc ?_ _) | (with_reducible refine Kd.C_drewN ?_ _) | (with_reducible refine Kd.C_drew ?_))); (case side2 => exact (Kd.R_reads' HO166.out).2.1); rintro e w14 ⟨v169, rfl, ho0, hb⟩; refine ⟨_, rfl, ?_⟩; have n0_ := Aside0.mk (Kd.R_below (by (with_reducible repeat (first | apply Kd.R_alloc | apply Kd.R_drewN | apply Kd.R_drew)); exact HO166.out) hb); have n1_ := Aside0.mk (Kd.R_lower ho0 (below_size (by repeat (first | (with_reducible first | exact HB.out | apply below_alloc | apply pw_below_drewN | apply below_drew1) | exact HB.out)))); have n2_ := Aside0.mk (below_step (by repeat (first | (with_reducible first | exact HB.out | apply below_alloc | apply pw_below_drewN | apply below_drew1) | exact HB.out)) hb); clear HO166; clear HB; have HO166 := n0_; have HO170 := n1_; have HB := n2_; clear n0_ n1_ n2_; (try clear hb); (try clear hb2); (try clear hk); (try clear hi); (try clear ho0); obtain ⟨Ao15, co15, eo15⟩ := Kd.R_slice HO170.out; subst eo15))
          go_ret2
          exact ⟨_, by first | rfl | (simp [errW_none, errW_some] <;> rfl) | (simp [*, errW_none, errW_some] <;> rfl), by first | exact Kd.R_nil _ _ _ _ _ | exact Kd.N_nil _ _ _ _ _ | exact Kd.V_nil _ _ _ _ _ | exact Kd.Q_nil _ _ _ _ _ | exact Kd.S_nil _ _ _ _ _, by repeat (first | (with_reducible first | exact HB.out | apply below_alloc | apply pw_below_drewN | apply below_drew1) | exact HB.out)⟩
        · rw [if_neg c11] at H
          have c11b0 : decide (279 < (t167.length : Int)) = false := decide_eq_false c11
          have c11b1 : decide (279 < t167.length) = false := decide_eq_false (by omega)
          clear c11
          replace H := Option.bind_eq_some_iff.mp H
          obtain ⟨t171, A160, H⟩ := H
          replace H : (if t171 = true then (if 0 ≤ (wrap64 ((t167.length : Int) - 2)) then (if (wrap64 ((t167.length : Int) - 2)) ≤ (t167.length : Int) then (some ((t167.take ((wrap64 ((t167.length : Int) - 2)) : Int).toNat), 0)) else (none)) else (none)) else (some (([] : List Int), 7))) = some (r1, r2) := H
          have A16 := Aside0.mk A160
          clear A160
          by_cases c17 : t171 = true
          · subst c17
            have H1 : (if 0 ≤ (wrap64 ((t167.length : Int) - 2)) then (if (wrap64 ((t167.length : Int) - 2)) ≤ (t167.length : Int) then (some ((t167.take ((wrap64 ((t167.length : Int) - 2)) : Int).toNat), 0)) else (none)) else (none)) = some (r1, r2) := by rw [if_pos rfl] at H; exact H
            clear H
            have H := H1
            clear H1
            obtain ⟨ji18, hji18⟩ : ∃ j_ : Int, (wrap64 ((t167.length : Int) - 2)) = j_ := ⟨_, rfl⟩
            replace H : (if 0 ≤ (ji18) then (if (ji18) ≤ (t167.length : Int) then (some ((t167.take ((ji18) : Int).toNat), 0)) else (none)) else (none)) = some (r1, r2) := by first | (rw [hji18] at H; exact H) | (simp only [hji18] at H ⊢; exact H)
            (try rw [hji18] at A2)
            (try rw [hji18] at A4)
            (try rw [hji18] at A16)
            have hji18w : (IntKind.i64.wrap ((t167.length : Int) - 2)) = ji18 := (i64_w _).trans hji18
            by_cases c19 : 0 ≤ (ji18)
            · rw [if_pos c19] at H
              have c19b0 := eq_true c19
              have c19b1 : decide (0 ≤ (ji18)) = true := decide_eq_true c19
              clear c19
              by_cases c20 : (ji18) ≤ (t167.length : Int)
              · rw [if_pos c20] at H
                have c20b0 := eq_true c20
                have c20b1 : decide ((ji18) ≤ (t167.length : Int)) = true := decide_eq_true c20
                clear c20
                obtain ⟨y172, hy172⟩ : ∃ y_ : List Int, y_ = (t167.take ((ji18) : Int).toNat) := ⟨_, rfl⟩
                replace H : (some (y172, 0)) = some (r1, r2) := by first | (rw [hy172]; with_reducible exact H) | (have H2_ := (Option.bind_some _ _).symm.trans H; rw [hy172]; with_reducible exact H2_) | (have H2_ := (Option.bind_some _ _).symm.trans H; with_reducible exact H2_) | with_reducible exact H | (rw [hy172]; exact H) | exact H
                have Ny172 := Aside0.mk hy172
                clear hy172
                simp only [Option.some.injEq, Prod.mk.injEq] at H
                obtain ⟨rfl, rfl⟩ := H
                go_enter Try.func12, Try.ntmps12
                go_wp2_with (first | ((with_reducible refine gate_callee (f := 31) rfl ?_); refine goesL_ (some 9) rfl rfl Try.func31 (by kernel_rfl) rfl #[.slice A0 l0.length c0] rfl (by (try simp only [List.map_toArray, List.map_cons, List.map_nil]); first | done | rfl | (simp only [List.length_drop, List.length_take]; rfl) | (simp [Act.eval, *]; done)) ?_; (with_reducible refine (stuff_Take.calls k _ _ l0 t163 t164 _ ?side1 ?side2 A2.out).mono ?_); (case side1 => repeat (first | exact HR0.out | (with_reducible refine Kd.C_alloc ?_ _) | (with_reducible refine Kd.C_drewN ?_ _) | (with_reducible refine Kd.C_drew ?_))); (case side2 => exact HC0.out); rintro e w21 ⟨v165, rfl, ho0, hb⟩; refine ⟨_, rfl, ?_⟩; have n0_ := Aside0.mk (Kd.R_lower ho0 (below_size (by repeat (first | (with_reducible first | exact HB.out | apply below_alloc | apply pw_below_drewN | apply below_drew1) | exact HB.out)))); have n1_ := Aside0.mk (below_step (by repeat (first | (with_reducible first | exact HB.out | apply below_alloc | apply pw_below_drewN | apply below_drew1) | exact HB.out)) hb); clear HB; have HO166 := n0_; have HB := n1_; clear n0_ n1_; (try clear hb); (try clear hb2); (try clear hk); (try clear hi); (try clear ho0); obtain ⟨Ao22, co22, eo22⟩ := Kd.R_slice HO166.out; subst eo22) | ((with_reducible refine gate_callee (f := 32) rfl ?_); refine goesL_ (some 16) rfl rfl Try.func32 (by kernel_rfl) rfl #[.slice Ao22 t163.length co22] rfl (by (try simp only [List.map_toArray, List.map_cons, List.map_nil]); first | done | rfl | (simp only [List.length_drop, List.length_take]; rfl) | (simp [Act.eval, *]; done)) ?_; (with_reducible refine (tape_Tape_Octets.calls k _ _ t163 t167 t168 _ ?side1 ?side2 A4.out).mono ?_); (case side1 => repeat (first | exact (Kd.R_reads' HO166.out).2.2 | (with_reducible refine Kd.C_alloc ?_ _) | (with_reducible refine Kd.C_drewN ?_ _) | (with_reducible refine Kd.C_drew ?_))); (case side2 => exact (Kd.R_reads' HO166.out).2.1); rintro e w23 ⟨v169, rfl, ho0, hb⟩; refine ⟨_, rfl, ?_⟩; have n0_ := Aside0.mk (Kd.R_below (by (with_reducible repeat (first | apply Kd.R_alloc | apply Kd.R_drewN | apply Kd.R_drew)); exact HO166.out) hb); have n1_ := Aside0.mk (Kd.R_lower ho0 (below_size (by repeat (first | (with_reducible first | exact HB.out | apply below_alloc | apply pw_below_drewN | apply below_drew1) | exact HB.out)))); have n2_ := Aside0.mk (below_step (by repeat (first | (with_reducible first | exact HB.out | apply below_alloc | apply pw_below_drewN | apply below_drew1) | exact HB.out)) hb); clear HO166; clear HB; have HO166 := n0_; have HO170 := n1_; have HB := n2_; clear n0_ n1_ n2_; (try clear hb); (try clear hb2); (try clear hk); (try clear hi); (try clear ho0); obtain ⟨Ao24, co24, eo24⟩ := Kd.R_slice HO170.out; subst eo24) | ((with_reducible refine gate_callee (f := 33) rfl ?_); refine goesL_ (some 33) rfl rfl Try.func33 (by kernel_rfl) rfl #[.slice Ao24 t167.length co24] rfl (by (try simp only [List.map_toArray, List.map_cons, List.map_nil]); first | done | rfl | (simp only [List.length_drop, List.length_take]; rfl) | (simp [Act.eval, *]; done)) ?_; (with_reducible refine (rest_Right.calls k _ _ t167 true _ ?side1 ?side2 A16.out).mono ?_); (case side1 => repeat (first | exact (Kd.R_reads' HO170.out).2.2 | (with_reducible refine Kd.C_alloc ?_ _) | (with_reducible refine Kd.C_drewN ?_ _) | (with_reducible refine Kd.C_drew ?_))); (case side2 => exact (Kd.R_reads' HO170.out).2.1); rintro e w25 ⟨rfl, hb⟩; refine ⟨_, rfl, ?_⟩; have n0_ := Aside0.mk (Kd.R_below (by (with_reducible repeat (first | apply Kd.R_alloc | apply Kd.R_drewN | apply Kd.R_drew)); exact HO166.out) hb); have n1_ := Aside0.mk (Kd.R_below (by (with_reducible repeat (first | apply Kd.R_alloc | apply Kd.R_drewN | apply Kd.R_drew)); exact HO170.out) hb); have n2_ := Aside0.mk (below_step (by repeat (first | (with_reducible first | exact HB.out | apply below_alloc | apply pw_below_drewN | apply below_drew1) | exact HB.out)) hb); clear HO166; clear HO170; clear HB; have HO166 := n0_; have HO170 := n1_; have HB := n2_; clear n0_ n1_ n2_; (try clear hb); (try clear hb2); (try clear hk); (try clear hi); have q26 : ((ji18) : Int) ≤ ((t167.length : Int) : Int) := of_decide_eq_true (by first | (with_reducible assumption) | assumption); obtain ⟨i026, hi026, _, hsz26, _⟩ := info_parts info5; have hcut26 := cut_to (P := Try.prog) 22 5 .i64 Try.underlying22 hi026 Ao24 t167.length co24 (ji18) (of_decide_eq_true (by first | (with_reducible assumption) | assumption)) q26 (Kd.R_reads' HO170.out).2.1; have hr26 := Kd.R_take (m := ((ji18) : Int).toNat) HO170.out (by omega); have hy26 : y172.length = ((ji18) : Int).toNat := (by rw [Ny172.out, List.length_take]; omega); rw [← Ny172.out] at hr26; rw [← hy26] at hr26 hcut26; clear hy26 hi026 hsz26 HO170; have HO174 := Aside0.mk hr26; clear hr26; replace q26 := eq_true q26))
                go_ret2
                exact ⟨_, by first | rfl | (simp [errW_none, errW_some] <;> rfl) | (simp only [← hji18]; first | rfl | (simp [errW_none, errW_some] <;> rfl)) | (simp [*, errW_none, errW_some] <;> rfl), by (with_reducible repeat (first | apply Kd.R_alloc | apply Kd.R_drewN | apply Kd.R_drew)); exact HO174.out, by repeat (first | (with_reducible first | exact HB.out | apply below_alloc | apply pw_below_drewN | apply below_drew1) | exact HB.out)⟩
              · rw [if_neg c20] at H
                exact absurd H (by simp)
            · rw [if_neg c19] at H
              exact absurd H (by simp)
          · replace c17 := Bool.eq_false_iff.mpr c17
            subst c17
            have H1 : (some (([] : List Int), 7)) = some (r1, r2) := by rw [if_neg (show ¬ (false = true) by decide)] at H; exact H
            clear H
            have H := H1
            clear H1
            simp only [Option.some.injEq, Prod.mk.injEq] at H
            obtain ⟨rfl, rfl⟩ := H
            go_enter Try.func12, Try.ntmps12
            go_wp2_with (first | ((with_reducible refine gate_callee (f := 31) rfl ?_); refine goesL_ (some 9) rfl rfl Try.func31 (by kernel_rfl) rfl #[.slice A0 l0.length c0] rfl (by (try simp only [List.map_toArray, List.map_cons, List.map_nil]); first | done | rfl | (simp only [List.length_drop, List.length_take]; rfl) | (simp [Act.eval, *]; done)) ?_; (with_reducible refine (stuff_Take.calls k _ _ l0 t163 t164 _ ?side1 ?side2 A2.out).mono ?_); (case side1 => repeat (first | exact HR0.out | (with_reducible refine Kd.C_alloc ?_ _) | (with_reducible refine Kd.C_drewN ?_ _) | (with_reducible refine Kd.C_drew ?_))); (case side2 => exact HC0.out); rintro e w27 ⟨v165, rfl, ho0, hb⟩; refine ⟨_, rfl, ?_⟩; have n0_ := Aside0.mk (Kd.R_lower ho0 (below_size (by repeat (first | (with_reducible first | exact HB.out | apply below_alloc | apply pw_below_drewN | apply below_drew1) | exact HB.out)))); have n1_ := Aside0.mk (below_step (by repeat (first | (with_reducible first | exact HB.out | apply below_alloc | apply pw_below_drewN | apply below_drew1) | exact HB.out)) hb); clear HB; have HO166 := n0_; have HB := n1_; clear n0_ n1_; (try clear hb); (try clear hb2); (try clear hk); (try clear hi); (try clear ho0); obtain ⟨Ao28, co28, eo28⟩ := Kd.R_slice HO166.out; subst eo28) | ((with_reducible refine gate_callee (f := 32) rfl ?_); refine goesL_ (some 16) rfl rfl Try.func32 (by kernel_rfl) rfl #[.slice Ao28 t163.length co28] rfl (by (try simp only [List.map_toArray, List.map_cons, List.map_nil]); first | done | rfl | (simp only [List.length_drop, List.length_take]; rfl) | (simp [Act.eval, *]; done)) ?_; (with_reducible refine (tape_Tape_Octets.calls k _ _ t163 t167 t168 _ ?side1 ?side2 A4.out).mono ?_); (case side1 => repeat (first | exact (Kd.R_reads' HO166.out).2.2 | (with_reducible refine Kd.C_alloc ?_ _) | (with_reducible refine Kd.C_drewN ?_ _) | (with_reducible refine Kd.C_drew ?_))); (case side2 => exact (Kd.R_reads' HO166.out).2.1); rintro e w29 ⟨v169, rfl, ho0, hb⟩; refine ⟨_, rfl, ?_⟩; have n0_ := Aside0.mk (Kd.R_below (by (with_reducible repeat (first | apply Kd.R_alloc | apply Kd.R_drewN | apply Kd.R_drew)); exact HO166.out) hb); have n1_ := Aside0.mk (Kd.R_lower ho0 (below_size (by repeat (first | (with_reducible first | exact HB.out | apply below_alloc | apply pw_below_drewN | apply below_drew1) | exact HB.out)))); have n2_ := Aside0.mk (below_step (by repeat (first | (with_reducible first | exact HB.out | apply below_alloc | apply pw_below_drewN | apply below_drew1) | exact HB.out)) hb); clear HO166; clear HB; have HO166 := n0_; have HO170 := n1_; have HB := n2_; clear n0_ n1_ n2_; (try clear hb); (try clear hb2); (try clear hk); (try clear hi); (try clear ho0); obtain ⟨Ao30, co30, eo30⟩ := Kd.R_slice HO170.out; subst eo30) | ((with_reducible refine gate_callee (f := 33) rfl ?_); refine goesL_ (some 33) rfl rfl Try.func33 (by kernel_rfl) rfl #[.slice Ao30 t167.length co30] rfl (by (try simp only [List.map_toArray, List.map_cons, List.map_nil]); first | done | rfl | (simp only [List.length_drop, List.length_take]; rfl) | (simp [Act.eval, *]; done)) ?_; (with_reducible refine (rest_Right.calls k _ _ t167 false _ ?side1 ?side2 A16.out).mono ?_); (case side1 => repeat (first | exact (Kd.R_reads' HO170.out).2.2 | (with_reducible refine Kd.C_alloc ?_ _) | (with_reducible refine Kd.C_drewN ?_ _) | (with_reducible refine Kd.C_drew ?_))); (case side2 => exact (Kd.R_reads' HO170.out).2.1); rintro e w31 ⟨rfl, hb⟩; refine ⟨_, rfl, ?_⟩; have n0_ := Aside0.mk (Kd.R_below (by (with_reducible repeat (first | apply Kd.R_alloc | apply Kd.R_drewN | apply Kd.R_drew)); exact HO166.out) hb); have n1_ := Aside0.mk (Kd.R_below (by (with_reducible repeat (first | apply Kd.R_alloc | apply Kd.R_drewN | apply Kd.R_drew)); exact HO170.out) hb); have n2_ := Aside0.mk (below_step (by repeat (first | (with_reducible first | exact HB.out | apply below_alloc | apply pw_below_drewN | apply below_drew1) | exact HB.out)) hb); clear HO166; clear HO170; clear HB; have HO166 := n0_; have HO170 := n1_; have HB := n2_; clear n0_ n1_ n2_; (try clear hb); (try clear hb2); (try clear hk); (try clear hi)))
            go_ret2
            exact ⟨_, by first | rfl | (simp [errW_none, errW_some] <;> rfl) | (simp [*, errW_none, errW_some] <;> rfl), by first | exact Kd.R_nil _ _ _ _ _ | exact Kd.N_nil _ _ _ _ _ | exact Kd.V_nil _ _ _ _ _ | exact Kd.Q_nil _ _ _ _ _ | exact Kd.S_nil _ _ _ _ _, by repeat (first | (with_reducible first | exact HB.out | apply below_alloc | apply pw_below_drewN | apply below_drew1) | exact HB.out)⟩
    · rw [if_neg c5] at H
      have c5b0 : (t168 == 0) = false := beq_eq_false_iff_ne.mpr c5
      have c5b1 : (t168 != 0) = true := bne_iff_ne.mpr c5
      simp only [Option.some.injEq, Prod.mk.injEq] at H
      obtain ⟨rfl, rfl⟩ := H
      go_enter Try.func12, Try.ntmps12
      go_wp2_with (first | ((with_reducible refine gate_callee (f := 31) rfl ?_); refine goesL_ (some 9) rfl rfl Try.func31 (by kernel_rfl) rfl #[.slice A0 l0.length c0] rfl (by (try simp only [List.map_toArray, List.map_cons, List.map_nil]); first | done | rfl | (simp only [List.length_drop, List.length_take]; rfl) | (simp [Act.eval, *]; done)) ?_; (with_reducible refine (stuff_Take.calls k _ _ l0 t163 t164 _ ?side1 ?side2 A2.out).mono ?_); (case side1 => repeat (first | exact HR0.out | (with_reducible refine Kd.C_alloc ?_ _) | (with_reducible refine Kd.C_drewN ?_ _) | (with_reducible refine Kd.C_drew ?_))); (case side2 => exact HC0.out); rintro e w32 ⟨v165, rfl, ho0, hb⟩; refine ⟨_, rfl, ?_⟩; have n0_ := Aside0.mk (Kd.R_lower ho0 (below_size (by repeat (first | (with_reducible first | exact HB.out | apply below_alloc | apply pw_below_drewN | apply below_drew1) | exact HB.out)))); have n1_ := Aside0.mk (below_step (by repeat (first | (with_reducible first | exact HB.out | apply below_alloc | apply pw_below_drewN | apply below_drew1) | exact HB.out)) hb); clear HB; have HO166 := n0_; have HB := n1_; clear n0_ n1_; (try clear hb); (try clear hb2); (try clear hk); (try clear hi); (try clear ho0); obtain ⟨Ao33, co33, eo33⟩ := Kd.R_slice HO166.out; subst eo33) | ((with_reducible refine gate_callee (f := 32) rfl ?_); refine goesL_ (some 16) rfl rfl Try.func32 (by kernel_rfl) rfl #[.slice Ao33 t163.length co33] rfl (by (try simp only [List.map_toArray, List.map_cons, List.map_nil]); first | done | rfl | (simp only [List.length_drop, List.length_take]; rfl) | (simp [Act.eval, *]; done)) ?_; (with_reducible refine (tape_Tape_Octets.calls k _ _ t163 t167 t168 _ ?side1 ?side2 A4.out).mono ?_); (case side1 => repeat (first | exact (Kd.R_reads' HO166.out).2.2 | (with_reducible refine Kd.C_alloc ?_ _) | (with_reducible refine Kd.C_drewN ?_ _) | (with_reducible refine Kd.C_drew ?_))); (case side2 => exact (Kd.R_reads' HO166.out).2.1); rintro e w34 ⟨v169, rfl, ho0, hb⟩; refine ⟨_, rfl, ?_⟩; have n0_ := Aside0.mk (Kd.R_below (by (with_reducible repeat (first | apply Kd.R_alloc | apply Kd.R_drewN | apply Kd.R_drew)); exact HO166.out) hb); have n1_ := Aside0.mk (Kd.R_lower ho0 (below_size (by repeat (first | (with_reducible first | exact HB.out | apply below_alloc | apply pw_below_drewN | apply below_drew1) | exact HB.out)))); have n2_ := Aside0.mk (below_step (by repeat (first | (with_reducible first | exact HB.out | apply below_alloc | apply pw_below_drewN | apply below_drew1) | exact HB.out)) hb); clear HO166; clear HB; have HO166 := n0_; have HO170 := n1_; have HB := n2_; clear n0_ n1_ n2_; (try clear hb); (try clear hb2); (try clear hk); (try clear hi); (try clear ho0)))
      go_ret2
      exact ⟨_, by first | rfl | (simp [errW_none, errW_some] <;> rfl) | (simp [*, errW_none, errW_some] <;> rfl), by first | exact Kd.R_nil _ _ _ _ _ | exact Kd.N_nil _ _ _ _ _ | exact Kd.V_nil _ _ _ _ _ | exact Kd.Q_nil _ _ _ _ _ | exact Kd.S_nil _ _ _ _ _, by repeat (first | (with_reducible first | exact HB.out | apply below_alloc | apply pw_below_drewN | apply below_drew1) | exact HB.out)⟩
  · rw [if_neg c3] at H
    have c3b0 : (t164 == 0) = false := beq_eq_false_iff_ne.mpr c3
    have c3b1 : (t164 != 0) = true := bne_iff_ne.mpr c3
    simp only [Option.some.injEq, Prod.mk.injEq] at H
    obtain ⟨rfl, rfl⟩ := H
    go_enter Try.func12, Try.ntmps12
    go_wp2_with (first | ((with_reducible refine gate_callee (f := 31) rfl ?_); refine goesL_ (some 9) rfl rfl Try.func31 (by kernel_rfl) rfl #[.slice A0 l0.length c0] rfl (by (try simp only [List.map_toArray, List.map_cons, List.map_nil]); first | done | rfl | (simp only [List.length_drop, List.length_take]; rfl) | (simp [Act.eval, *]; done)) ?_; (with_reducible refine (stuff_Take.calls k _ _ l0 t163 t164 _ ?side1 ?side2 A2.out).mono ?_); (case side1 => repeat (first | exact HR0.out | (with_reducible refine Kd.C_alloc ?_ _) | (with_reducible refine Kd.C_drewN ?_ _) | (with_reducible refine Kd.C_drew ?_))); (case side2 => exact HC0.out); rintro e w35 ⟨v165, rfl, ho0, hb⟩; refine ⟨_, rfl, ?_⟩; have n0_ := Aside0.mk (Kd.R_lower ho0 (below_size (by repeat (first | (with_reducible first | exact HB.out | apply below_alloc | apply pw_below_drewN | apply below_drew1) | exact HB.out)))); have n1_ := Aside0.mk (below_step (by repeat (first | (with_reducible first | exact HB.out | apply below_alloc | apply pw_below_drewN | apply below_drew1) | exact HB.out)) hb); clear HB; have HO166 := n0_; have HB := n1_; clear n0_ n1_; (try clear hb); (try clear hb2); (try clear hk); (try clear hi); (try clear ho0)))
    go_ret2
    exact ⟨_, by first | rfl | (simp [errW_none, errW_some] <;> rfl) | (simp [*, errW_none, errW_some] <;> rfl), by first | exact Kd.R_nil _ _ _ _ _ | exact Kd.N_nil _ _ _ _ _ | exact Kd.V_nil _ _ _ _ _ | exact Kd.Q_nil _ _ _ _ _ | exact Kd.S_nil _ _ _ _ _, by repeat (first | (with_reducible first | exact HB.out | apply below_alloc | apply pw_below_drewN | apply below_drew1) | exact HB.out)⟩

-- NOT PRINTED: function 41 (flag_Ear_flag)

-- NOT PRINTED: function 27 (flag_Ear_Bit)

-- NOT PRINTED: function 23 (flag_Ear_Bits)

/-! ### signalmanlaw05_awake: function 9 -/
/-- What flag.Judge tells of bits, where it has the rounds for all of them. -/
def signalmanlaw05_awake.J (k : Nat) (t : List Bool) : Option (List Int) := match flag_Judge.f k t with
  | some r => if r.2 = 0 then some r.1 else none
  | none => none
/-- Does it hold for all bits up to a length? -/
def signalmanlaw05_awake.forAll : Nat → (List Bool → Bool) → Bool
  | 0, q => q []
  | n + 1, q => q [] && (signalmanlaw05_awake.forAll n (fun t => q (true :: t)) && signalmanlaw05_awake.forAll n (fun t => q (false :: t)))
theorem signalmanlaw05_awake.forAll_iff : ∀ n q, signalmanlaw05_awake.forAll n q = true ↔ ∀ t : List Bool, t.length ≤ n → q t = true := by
  intro n
  induction n with
  | zero =>
    intro q
    refine ⟨fun h t ht => ?_, fun h => h [] (Nat.le_refl _)⟩
    obtain rfl : t = [] := List.eq_nil_of_length_eq_zero (by omega)
    exact h
  | succ n ih =>
    intro q
    unfold signalmanlaw05_awake.forAll
    rw [Bool.and_eq_true, Bool.and_eq_true, ih, ih]
    refine ⟨fun h t ht => ?_, fun h => ⟨h [] (Nat.zero_le _), fun t ht => h _ (by simp; omega), fun t ht => h _ (by simp; omega)⟩⟩
    cases t with
    | nil => exact h.1
    | cons b t =>
      simp only [List.length_cons] at ht
      cases b with
      | true => exact h.2.1 t (by omega)
      | false => exact h.2.2 t (by omega)
def signalmanlaw05_awake.Full (k : Nat) : Prop := 200 ≤ k ∧ ∀ t : List Bool, t.length ≤ 3000 → ∃ r, flag_Judge.f k t = some r
def signalmanlaw05_awake.f (k : Nat) : Option (Bool) := if 200 ≤ k then (if signalmanlaw05_awake.forAll 3000 (fun t => (flag_Judge.f k t).isSome) = true then some true else none) else none
theorem signalmanlaw05_awake.f_full (k : Nat) : signalmanlaw05_awake.f k = some true ↔ signalmanlaw05_awake.Full k := by
  unfold signalmanlaw05_awake.f signalmanlaw05_awake.Full
  by_cases hk : 200 ≤ k
  · rw [if_pos hk]
    by_cases h : signalmanlaw05_awake.forAll 3000 (fun t => (flag_Judge.f k t).isSome) = true
    · rw [if_pos h]
      refine ⟨fun _ => ⟨hk, fun t ht => Option.isSome_iff_exists.1 ((signalmanlaw05_awake.forAll_iff _ _).1 h t ht)⟩, fun _ => rfl⟩
    · rw [if_neg h]
      refine ⟨(fun e => by cases e), fun hf => absurd ((signalmanlaw05_awake.forAll_iff _ _).2 (fun t ht => Option.isSome_iff_exists.2 (hf.2 t ht))) h⟩
  · rw [if_neg hk]
    exact ⟨(fun e => by cases e), fun hf => absurd hf.1 hk⟩
theorem signalmanlaw05_awake.f_true {k : Nat} {r : Bool} (h : signalmanlaw05_awake.f k = some r) : r = true := by
  unfold signalmanlaw05_awake.f at h
  by_cases hk : 200 ≤ k
  · rw [if_pos hk] at h
    by_cases h2 : signalmanlaw05_awake.forAll 3000 (fun t => (flag_Judge.f k t).isSome) = true
    · rw [if_pos h2] at h
      exact (Option.some.inj h).symm
    · rw [if_neg h2] at h
      cases h
  · rw [if_neg hk] at h
    cases h
theorem signalmanlaw05_awake.mono : ∀ k, LeO (signalmanlaw05_awake.f k) (signalmanlaw05_awake.f (k + 1)) := by
  intro k r h
  obtain rfl := signalmanlaw05_awake.f_true h
  have hf := (signalmanlaw05_awake.f_full k).1 h
  refine (signalmanlaw05_awake.f_full (k + 1)).2 ⟨by have := hf.1; omega, fun t ht => ?_⟩
  obtain ⟨r, hr⟩ := hf.2 t ht
  exact ⟨r, flag_Judge.mono _ _ _ hr⟩
theorem signalmanlaw05_awake.ok {k : Nat} (h : signalmanlaw05_awake.Full k) : Ear.JudgeOk (signalmanlaw05_awake.J k) := by
  intro w A n c t hn hC hc h3
  subst hn
  obtain ⟨⟨r1, r2⟩, hr⟩ := h.2 t h3
  have hcalls := flag_Judge.calls k A c t r1 r2 w hC hc hr
  have hJ : signalmanlaw05_awake.J k t = if r2 = 0 then some r1 else none := by unfold signalmanlaw05_awake.J; rw [hr]
  refine ⟨fun p hp => ?_, fun hp => ?_⟩
  · rw [hJ] at hp
    by_cases h0 : r2 = 0
    · rw [if_pos h0] at hp
      obtain rfl := Option.some.inj hp
      subst h0
      exact hcalls
    · rw [if_neg h0] at hp
      cases hp
  · rw [hJ] at hp
    by_cases h0 : r2 = 0
    · rw [if_pos h0] at hp
      cases hp
    · refine hcalls.mono ?_
      rintro e w' ⟨v, rfl, _, hb⟩
      exact ⟨v, r2, rfl, h0, hb⟩
def signalmanlaw05_awake.unit : List Bool := [true, false, false, false, false, false, false, false, false, true, false, false, false, false, false, false, false, false, false, false, false, false, false, false, false, false, false, false, false, true, false, true, true, true, true, true, false, false, true, false, true]
def signalmanlaw05_awake.flag : List Bool := [false, true, true, true, true, true, true, false]
def signalmanlaw05_awake.rest : List Bool := signalmanlaw05_awake.unit ++ signalmanlaw05_awake.flag
def signalmanlaw05_awake.all : List Bool := signalmanlaw05_awake.flag ++ signalmanlaw05_awake.rest
theorem signalmanlaw05_awake.frame : flag_Frame.f 200 [1, 2, 0] = some (signalmanlaw05_awake.rest, 0) := by decide +kernel
theorem signalmanlaw05_awake.frameK {k : Nat} (hk : 200 ≤ k) : flag_Frame.f k [1, 2, 0] = some (signalmanlaw05_awake.rest, 0) := at_rounds (flag_Frame.mono _) hk signalmanlaw05_awake.frame
theorem signalmanlaw05_awake.judge : flag_Judge.f 200 signalmanlaw05_awake.unit = some ([1, 2, 0], 0) := by decide +kernel
theorem signalmanlaw05_awake.judgeK {k : Nat} (hk : 200 ≤ k) : signalmanlaw05_awake.J k signalmanlaw05_awake.unit = some [1, 2, 0] := by
  unfold signalmanlaw05_awake.J
  rw [at_rounds (flag_Judge.mono _) hk signalmanlaw05_awake.judge]
  rfl
theorem signalmanlaw05_awake.flagf : flag_Flag.f = some signalmanlaw05_awake.flag := rfl
set_option maxRecDepth 100000 in
theorem signalmanlaw05_awake.run1 (J : List Bool → Option (List Int)) : Ear.runF J ⟨[], 0, false, 0⟩ (signalmanlaw05_awake.flag ++ (signalmanlaw05_awake.unit ++ [false, true, true, true, true, true, true])) = (⟨signalmanlaw05_awake.unit ++ [false, true, true, true, true, true, true], 6, true, 0⟩, []) := by kernel_rfl
theorem signalmanlaw05_awake.run {k : Nat} (hk : 200 ≤ k) : Ear.runF (signalmanlaw05_awake.J k) ⟨[], 0, false, 0⟩ signalmanlaw05_awake.all = (⟨[], 0, true, 0⟩, [(0, [1, 2, 0])]) := by
  have e : signalmanlaw05_awake.all = (signalmanlaw05_awake.flag ++ (signalmanlaw05_awake.unit ++ [false, true, true, true, true, true, true])) ++ [false] := rfl
  rw [e, Ear.runF_snoc, signalmanlaw05_awake.run1]
  have hb : Ear.bitF (signalmanlaw05_awake.J k) ⟨signalmanlaw05_awake.unit ++ [false, true, true, true, true, true, true], 6, true, 0⟩ false = (⟨[], 0, true, 0⟩, some (0, [1, 2, 0])) := by
    have hf : Ear.flagF (signalmanlaw05_awake.J k) (signalmanlaw05_awake.unit ++ [false, true, true, true, true, true, true] ++ [false]) = some (0, [1, 2, 0]) := by
      unfold Ear.flagF
      rw [if_neg (by decide)]
      have et : (signalmanlaw05_awake.unit ++ [false, true, true, true, true, true, true] ++ [false]).take ((signalmanlaw05_awake.unit ++ [false, true, true, true, true, true, true] ++ [false]).length - 8) = signalmanlaw05_awake.unit := by decide +kernel
      rw [et, signalmanlaw05_awake.judgeK hk]
    show (_, Ear.flagF _ _) = _
    rw [hf]
  rw [hb]
  rfl
theorem signalmanlaw05_awake.reads (w : World) : Kd.C (Kd.int .u8) (w.alloc (.cells #[.int .u8 1, .int .u8 2, .int .u8 0] 5)) (some ⟨w.heap.size, 0, none⟩) [1, 2, 0].length [1, 2, 0] := by
  refine Kd.C_of_reads (enc := Value.int .u8) (d := (0 : Int)) (h1 := fun _ => rfl) ⟨rfl, by decide, fun _ => ⟨_, rfl, fun j hj => ?_⟩⟩
  have hj' : j < 3 := hj
  rw [Addr.add_lit, World.cell?_alloc_mark, Nat.zero_add]
  match j, hj' with
  | 0, _ => rfl
  | 1, _ => rfl
  | 2, _ => rfl
/-- A new ear. -/
theorem signalmanlaw05_awake.born {B : Nat} {w : World} {g : Nat} (h : Ear.At w g (.slice none 0 0) 0 false 0) (hB : B ≤ g) : Ear.Is B (fun k => k ≠ g ∧ k < w.heap.size) w g ⟨[], 0, false, 0⟩ :=
  ⟨⟨hB, by have := h.lt; omega⟩, fun _ => False, .slice none 0 0, fun k hk => hk.elim, fun k hk => ⟨fun h => h, hk.1, hk.2⟩, h, Or.inl ⟨rfl, rfl⟩⟩
theorem signalmanlaw05_awake.inv : Ear.Inv ⟨[], 0, false, 0⟩ := ⟨by show 0 < 128; omega, fun h => absurd h (by simp), fun _ => rfl⟩
/-- Two rows of bits made one behind the other, the first with room behind it. -/
theorem signalmanlaw05_awake.joined {w0 w : World} {v : Value} {xs ys : List Bool} {A : Option Addr} {c : Nat} (hR : Kd.R Kd.bool 4 w w0.heap.size (fun _ => True) v xs) (hr : ReadsOf Value.bool false w A ys.length ys) (hl : xs.length + ys.length ≤ 140737488355328) (hs : w0.heap.size ≤ w.heap.size) :
    ∃ A1 c1 w1, (Builtin.append_ #[27, 27] 27 #[v, .slice A ys.length c]).run Try.prog w = .ok (.slice A1 (xs ++ ys).length c1) w1 ∧ ReadsOf Value.bool false w1 A1 (xs ++ ys).length (xs ++ ys) ∧ (∀ ad, A1 = some ad → w0.heap.size ≤ ad.block) ∧ Rowq.Only (fun k => w0.heap.size ≤ k) w w1 := by
  have ho := Kd.own_of_R hR
  obtain ⟨v1, w1, h1, h2, h3⟩ := Rowq.append_spare 27 Try.underlying27 27 (fun k => w0.heap.size ≤ k ∨ w.heap.size ≤ k) v xs ys A c w (Rowq.spare_of_own ho (fun k hk => Or.inl hk)) hr hl (fun k hk => Or.inr hk)
  obtain ⟨A1, c1, rfl, hc, hr1, hd⟩ := h2.reads
  exact ⟨A1, c1, w1, h1, hr1, fun ad e => (hd ad e).elim (fun h => h) (fun h => by omega), h3.mono (fun k hk => hk.elim (fun h => h) (fun h => by omega))⟩
theorem signalmanlaw05_awake.str : strOfNums [1, 2, 0] = { data := #[1, 2, 0] } := by rfl
set_option maxHeartbeats 8000000 in
set_option maxRecDepth 100000 in
theorem signalmanlaw05_awake.calls (k : Nat) (r : Bool) (w : World) (h : signalmanlaw05_awake.f k = some r) :
    Calls Try.prog 9 #[] w fun e w' => e = .returned (.bool r) ∧ Below w.heap.size w w' := by
  obtain rfl := signalmanlaw05_awake.f_true h
  have hF := (signalmanlaw05_awake.f_full k).1 h
  clear h
  have HF := Aside0.mk hF
  have HK := Aside0.mk hF.1
  clear hF
  have hfr : Calls Try.prog 11 #[.slice (some ⟨w.heap.size, 0, none⟩) 3 3] (w.alloc (.cells #[.int .u8 1, .int .u8 2, .int .u8 0] 5)) (fun e w' => ∃ v, e = .returned (.tuple #[v, .int .i64 0]) ∧ Kd.R Kd.bool 4 w' (w.alloc (.cells #[.int .u8 1, .int .u8 2, .int .u8 0] 5)).heap.size (fun _ => True) v signalmanlaw05_awake.rest ∧ Below (w.alloc (.cells #[.int .u8 1, .int .u8 2, .int .u8 0] 5)).heap.size (w.alloc (.cells #[.int .u8 1, .int .u8 2, .int .u8 0] 5)) w') := flag_Frame.calls k (some ⟨w.heap.size, 0, none⟩) 3 [1, 2, 0] signalmanlaw05_awake.rest 0 _ (signalmanlaw05_awake.reads w) (by decide) (signalmanlaw05_awake.frameK HK.out)
  have HFR := Aside0.mk hfr
  clear hfr
  go_enter Try.func9, Try.ntmps9
  go_wp2_with (first
  | ((with_reducible refine gate_callee (f := 11) rfl ?_); refine goesL_ (some 7) rfl rfl Try.func11 (by kernel_rfl) rfl #[.slice (some ⟨w.heap.size, 0, none⟩) 3 3] rfl (by (try simp only [List.map_toArray, List.map_cons, List.map_nil]); first | done | rfl | (simp [Act.eval, *]; done)) ?_; (with_reducible refine (HFR.out).mono ?_); rintro e w2 ⟨v, rfl, ho, hb⟩; refine ⟨_, rfl, ?_⟩; obtain ⟨At, ct, rfl⟩ := Kd.R_slice ho; have HT2 := Aside0.mk ho; have HB2 := Aside0.mk (below_step (below_alloc (Below.refl w.heap.size w) _) hb); clear ho hb))
  refine (flag_Flag.calls signalmanlaw05_awake.flag _ signalmanlaw05_awake.flagf).mono ?_
  rintro e w4 ⟨v4, rfl, ho, hb⟩
  have hT4 := Kd.reads_of_C (enc := Value.bool) (d := false) (h1 := fun _ => rfl) (Kd.R_reads' (Kd.R_below (Kd.R_below HT2.out (below_alloc (Below.refl _ _) (.cells #[.slice none 0 0, .int .i64 0, .bool false, .int .i64 0] 48))) hb)).2.2
  obtain ⟨A5, c5, w5, hrun, hr5, hd5, ho5⟩ := signalmanlaw05_awake.joined (c := ct) ho hT4 (by decide) hb.size
  have hear := heap_alloc_new w2 (.cells #[.slice none 0 0, .int .i64 0, .bool false, .int .i64 0] 48)
  have hz3 : (w2.alloc (.cells #[.slice none 0 0, .int .i64 0, .bool false, .int .i64 0] 48)).heap.size = w2.heap.size + 1 := by simp [World.alloc_eq]
  have hA5 : Ear.At w5 w2.heap.size (.slice none 0 0) 0 false 0 := (ho5.block _ (by have := hb.size; omega) (by omega)).trans ((hb.block _ (by omega)).trans hear)
  have hsz2 := HB2.out.size
  have hB5 : Below w.heap.size w w5 := by
    refine HB2.out.trans ((below_alloc (Below.refl _ _) (.cells #[.slice none 0 0, .int .i64 0, .bool false, .int .i64 0] 48)).mono hsz2 |>.trans ((hb.mono (by omega)).trans ?_))
    exact ho5.below (fun k hk => by omega) (Below.refl _ _) (by have := hb.size; omega)
  have hI5 := signalmanlaw05_awake.born (B := w.heap.size) hA5 hsz2
  have hbits := Ear.bits_calls (signalmanlaw05_awake.ok HF.out) hI5 signalmanlaw05_awake.inv A5 c5 signalmanlaw05_awake.all (by decide) (by decide) hr5 (fun ad e hn => ⟨by have := hd5 ad e; omega, Rowq.reads_block hr5 ad e hn⟩)
  rw [signalmanlaw05_awake.run HK.out] at hbits
  have HRUN := Aside0.mk hrun
  have HBITS := Aside0.mk hbits
  have HB5 := Aside0.mk hB5
  clear ho hb hT4 hrun hr5 hd5 ho5 hear hz3 hA5 hsz2 hB5 hI5 hbits HT2 HB2 HFR
  go_wp2_with (first
  | ((with_reducible refine gate_builtin (b := .append) (xs := #[.tmp 13, .tmp 14]) rfl ?_); refine Rowq.wpList_append_run rfl (.tmp 13) (.tmp 14) 27 rfl v4 (.slice At signalmanlaw05_awake.rest.length ct) rfl rfl (.slice A5 (signalmanlaw05_awake.flag ++ signalmanlaw05_awake.rest).length c5) w5 HRUN.out ?_)
  | ((with_reducible refine gate_callee (f := 23) rfl ?_); refine goesL_ (some 16) rfl rfl Try.func23 (by kernel_rfl) rfl #[.pointer (some ⟨w2.heap.size, 0, none⟩), .slice A5 signalmanlaw05_awake.all.length c5] rfl (by (try simp only [List.map_toArray, List.map_cons, List.map_nil]); first | done | rfl | (simp [Act.eval, *]; done)) ?_; (with_reducible refine (HBITS.out).mono ?_); rintro e w6 ⟨v6, rfl, hP⟩; obtain ⟨okv, _, hR6, _⟩ := hP.ex; obtain ⟨gl, cl, Ap, cp, rfl, x0, x1, hcp, hC6⟩ := Ear.one_heard hR6; refine ⟨_, rfl, ?_⟩; have hstr := Kd.C_string (c := cp) Try.underlying22 Try.underlying5 Try.underlying9 hC6; rw [signalmanlaw05_awake.str] at hstr; have hstr2 : (convert 22 9 (.slice Ap 3 cp)).run Try.prog w6 = .ok (.string { data := #[1, 2, 0] }) w6 := hstr; clear hstr; have HB6 := Aside0.mk (HB5.out.trans hP.below); clear hP hR6 hC6 hcp))
  go_ret
  exact ⟨rfl, HB6.out⟩

end Go.Proofs.Ytonhgiclaieamaa.MFlagCuts
