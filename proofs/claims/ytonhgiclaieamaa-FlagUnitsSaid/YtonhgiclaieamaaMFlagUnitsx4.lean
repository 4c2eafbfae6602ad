/- A part of the proof of the given statement that each law names; no condition. Written by a program of this session's own (wip/tools/myprint.py, over the kit's print); Lean checks it. -/
import Derived.Test.YtonhgiclaieamaaMFlagUnitsx0
import Derived.Test.YtonhgiclaieamaaMFlagUnitsx2
import Derived.Test.YtonhgiclaieamaaMFlagUnitsx3
namespace Go.Proofs.Ytonhgiclaieamaa.MFlagUnits
open Go.RowKit Go.Proofs.Ytonhgiclaieamaa Go.Proofs.YtonhgiclaieamaaW.PrintWords Go.Proofs.YtonhgiclaieamaaW.PrintLast Go.Proofs.YtonhgiclaieamaaW.PrintMore
attribute [local go_sem] max2_int min2_int max_two min_two max_three min_three max_four min_four   -- for this text's walks alone
set_option linter.unusedVariables false
set_option linter.unusedSimpArgs false

/-! ### signalmanref01_Frame: function 14 -/
def signalmanref01_Frame.f (k : Nat) (l0 : List Int) : Option (List Bool) := (signalmanref01_Whole.f k l0).bind fun t206 => ((signalmanref01_Bits.f k t206).bind fun t209 => ((signalmanref01_Put.f k t209).bind fun t212 => ((signalmanref01_Flag.f).bind fun t215 => (if t212.length + t215.length < 140737488355328 then (some (t212 ++ t215)) else (none)))))
theorem signalmanref01_Frame.mono : ∀ a0 k, LeO (signalmanref01_Frame.f k a0) (signalmanref01_Frame.f (k + 1) a0) := by
  intro a0 k
  unfold signalmanref01_Frame.f
  repeat' first
      | (with_reducible exact signalmanref01_Bits.mono _ _)
      | (with_reducible exact signalmanref01_Put.mono _ _)
      | (with_reducible exact signalmanref01_Whole.mono _ _)
      | (with_reducible exact LeO.refl _)
      | (with_reducible exact LeO.none _)
      | (with_reducible refine LeO.ite ?_ ?_)
      | (with_reducible refine LeO.bind ?_ (fun _ => ?_))
      | exact signalmanref01_Bits.mono _ _
      | exact signalmanref01_Put.mono _ _
      | exact signalmanref01_Whole.mono _ _
      | exact LeO.none _
      | refine LeO.ite ?_ ?_
      | refine LeO.bind ?_ (fun _ => ?_)
set_option maxHeartbeats 8000000 in
set_option maxRecDepth 100000 in
theorem signalmanref01_Frame.calls (k : Nat) (A0 : Option Addr) (c0 : Nat) (l0 : List Int) (r : List Bool) (w : World) (hr0 : Kd.C (Kd.int .u8) w A0 l0.length l0) (hc0 : l0.length ≤ c0) (h : signalmanref01_Frame.f k l0 = some r) :
    Calls Try.prog 14 #[.slice A0 l0.length c0] w fun e w' => ∃ v0_ : Value, e = .returned (v0_) ∧ Kd.R Kd.bool 4 w' w.heap.size (fun _ => True) v0_ r ∧ Below w.heap.size w w' := by
  have HR0 := Aside0.mk hr0
  have HC0 := Aside0.mk hc0
  clear hr0 hc0
  have HB := Aside0.mk (Below.refl w.heap.size w)
  have H : ((signalmanref01_Whole.f k l0).bind fun t206 => ((signalmanref01_Bits.f k t206).bind fun t209 => ((signalmanref01_Put.f k t209).bind fun t212 => ((signalmanref01_Flag.f).bind fun t215 => (if t212.length + t215.length < 140737488355328 then (some (t212 ++ t215)) else (none)))))) = some r := h
  clear h
  replace H := Option.bind_eq_some_iff.mp H
  obtain ⟨t206, A20, H⟩ := H
  replace H : ((signalmanref01_Bits.f k t206).bind fun t209 => ((signalmanref01_Put.f k t209).bind fun t212 => ((signalmanref01_Flag.f).bind fun t215 => (if t212.length + t215.length < 140737488355328 then (some (t212 ++ t215)) else (none))))) = some r := H
  have A2 := Aside0.mk A20
  clear A20
  replace H := Option.bind_eq_some_iff.mp H
  obtain ⟨t209, A30, H⟩ := H
  replace H : ((signalmanref01_Put.f k t209).bind fun t212 => ((signalmanref01_Flag.f).bind fun t215 => (if t212.length + t215.length < 140737488355328 then (some (t212 ++ t215)) else (none)))) = some r := H
  have A3 := Aside0.mk A30
  clear A30
  replace H := Option.bind_eq_some_iff.mp H
  obtain ⟨t212, A40, H⟩ := H
  replace H : ((signalmanref01_Flag.f).bind fun t215 => (if t212.length + t215.length < 140737488355328 then (some (t212 ++ t215)) else (none))) = some r := H
  have A4 := Aside0.mk A40
  clear A40
  replace H := Option.bind_eq_some_iff.mp H
  obtain ⟨t215, A50, H⟩ := H
  replace H : (if t212.length + t215.length < 140737488355328 then (some (t212 ++ t215)) else (none)) = some r := H
  have A5 := Aside0.mk A50
  clear A50
  by_cases c6 : t212.length + t215.length < 140737488355328
  · rw [if_pos c6] at H
    have LMc6 := Aside0.mk c6
    clear c6
    obtain ⟨y218, hy218⟩ : ∃ y_ : List Bool, y_ = (t212 ++ t215) := ⟨_, rfl⟩
    replace H : (some y218) = some r := by first | (rw [hy218]; with_reducible exact H) | (have H2_ := (Option.bind_some _ _).symm.trans H; rw [hy218]; with_reducible exact H2_) | (have H2_ := (Option.bind_some _ _).symm.trans H; with_reducible exact H2_) | with_reducible exact H | (rw [hy218]; exact H) | exact H
    have Ny218 := Aside0.mk hy218
    clear hy218
    obtain rfl := Option.some.inj H
    go_enter Try.func14, Try.ntmps14
    go_wp2_with (first | ((with_reducible refine gate_callee (f := 19) rfl ?_); refine goesL_ (some 4) rfl rfl Try.func19 (by kernel_rfl) rfl #[.slice A0 l0.length c0] rfl (by (try simp only [List.map_toArray, List.map_cons, List.map_nil]); first | done | rfl | (simp only [List.length_drop, List.length_take]; rfl) | (simp [Act.eval, *]; done)) ?_; (with_reducible refine (signalmanref01_Whole.calls k _ _ l0 t206 _ ?side1 ?side2 A2.out).mono ?_); (case side1 => repeat (first | exact HR0.out | (with_reducible refine Kd.C_alloc ?_ _) | (with_reducible refine Kd.C_drewN ?_ _) | (with_reducible refine Kd.C_drew ?_))); (case side2 => exact HC0.out); rintro e w7 ⟨v207, rfl, ho0, hb⟩; refine ⟨_, rfl, ?_⟩; have n0_ := Aside0.mk (Kd.R_lower ho0 (below_size (by repeat (first | (with_reducible first | exact HB.out | apply below_alloc | apply pw_below_drewN | apply below_drew1) | exact HB.out)))); have n1_ := Aside0.mk (below_step (by repeat (first | (with_reducible first | exact HB.out | apply below_alloc | apply pw_below_drewN | apply below_drew1) | exact HB.out)) hb); clear HB; have HO208 := n0_; have HB := n1_; clear n0_ n1_; (try clear hb); (try clear hb2); (try clear hk); (try clear hi); (try clear ho0); obtain ⟨Ao8, co8, eo8⟩ := Kd.R_slice HO208.out; subst eo8) | ((with_reducible refine gate_callee (f := 17) rfl ?_); refine goesL_ (some 5) rfl rfl Try.func17 (by kernel_rfl) rfl #[.slice Ao8 t206.length co8] rfl (by (try simp only [List.map_toArray, List.map_cons, List.map_nil]); first | done | rfl | (simp only [List.length_drop, List.length_take]; rfl) | (simp [Act.eval, *]; done)) ?_; (with_reducible refine (signalmanref01_Bits.calls k _ _ t206 t209 _ ?side1 ?side2 A3.out).mono ?_); (case side1 => repeat (first | exact (Kd.R_reads' HO208.out).2.2 | (with_reducible refine Kd.C_alloc ?_ _) | (with_reducible refine Kd.C_drewN ?_ _) | (with_reducible refine Kd.C_drew ?_))); (case side2 => exact (Kd.R_reads' HO208.out).2.1); rintro e w9 ⟨v210, rfl, ho0, hb⟩; refine ⟨_, rfl, ?_⟩; have n0_ := Aside0.mk (Kd.R_below (by (with_reducible repeat (first | apply Kd.R_alloc | apply Kd.R_drewN | apply Kd.R_drew)); exact HO208.out) hb); have n1_ := Aside0.mk (Kd.R_lower ho0 (below_size (by repeat (first | (with_reducible first | exact HB.out | apply below_alloc | apply pw_below_drewN | apply below_drew1) | exact HB.out)))); have n2_ := Aside0.mk (below_step (by repeat (first | (with_reducible first | exact HB.out | apply below_alloc | apply pw_below_drewN | apply below_drew1) | exact HB.out)) hb); clear HO208; clear HB; have HO208 := n0_; have HO211 := n1_; have HB := n2_; clear n0_ n1_ n2_; (try clear hb); (try clear hb2); (try clear hk); (try clear hi); (try clear ho0); obtain ⟨Ao10, co10, eo10⟩ := Kd.R_slice HO211.out; subst eo10) | ((with_reducible refine gate_callee (f := 18) rfl ?_); refine goesL_ (some 6) rfl rfl Try.func18 (by kernel_rfl) rfl #[.slice Ao10 t209.length co10] rfl (by (try simp only [List.map_toArray, List.map_cons, List.map_nil]); first | done | rfl | (simp only [List.length_drop, List.length_take]; rfl) | (simp [Act.eval, *]; done)) ?_; (with_reducible refine (signalmanref01_Put.calls k _ _ t209 t212 _ ?side1 ?side2 A4.out).mono ?_); (case side1 => repeat (first | exact (Kd.R_reads' HO211.out).2.2 | (with_reducible refine Kd.C_alloc ?_ _) | (with_reducible refine Kd.C_drewN ?_ _) | (with_reducible refine Kd.C_drew ?_))); (case side2 => exact (Kd.R_reads' HO211.out).2.1); rintro e w11 ⟨v213, rfl, ho0, hb⟩; refine ⟨_, rfl, ?_⟩; have n0_ := Aside0.mk (Kd.R_below (by (with_reducible repeat (first | apply Kd.R_alloc | apply Kd.R_drewN | apply Kd.R_drew)); exact HO208.out) hb); have n1_ := Aside0.mk (Kd.R_elder' (by (with_reducible repeat (first | apply Kd.R_alloc | apply Kd.R_drewN | apply Kd.R_drew)); exact HO211.out) (Kd.R_base ho0) hb); have n2_ := Aside0.mk (Kd.R_lower (Kd.R_new' ho0 (Kd.R_lt (by (with_reducible repeat (first | apply Kd.R_alloc | apply Kd.R_drewN | apply Kd.R_drew)); exact HO211.out))) (below_size (by repeat (first | (with_reducible first | exact HB.out | apply below_alloc | apply pw_below_drewN | apply below_drew1) | exact HB.out)))); have n3_ := Aside0.mk (below_step (by repeat (first | (with_reducible first | exact HB.out | apply below_alloc | apply pw_below_drewN | apply below_drew1) | exact HB.out)) hb); clear HO208; clear HO211; clear HB; have HO208 := n0_; have HO211 := n1_; have HO214 := n2_; have HB := n3_; clear n0_ n1_ n2_ n3_; (try clear hb); (try clear hb2); (try clear hk); (try clear hi); (try clear ho0)) | ((with_reducible refine gate_callee (f := 16) rfl ?_); refine goesL_ (some 7) rfl rfl Try.func16 (by kernel_rfl) rfl #[] rfl (by (try simp only [List.map_toArray, List.map_cons, List.map_nil]); first | done | rfl | (simp only [List.length_drop, List.length_take]; rfl) | (simp [Act.eval, *]; done)) ?_; (with_reducible refine (signalmanref01_Flag.calls  t215 _ A5.out).mono ?_); rintro e w12 ⟨v216, rfl, ho0, hb⟩; refine ⟨_, rfl, ?_⟩; have n0_ := Aside0.mk (Kd.R_below (by (with_reducible repeat (first | apply Kd.R_alloc | apply Kd.R_drewN | apply Kd.R_drew)); exact HO208.out) hb); have n1_ := Aside0.mk (Kd.R_elder' (by (with_reducible repeat (first | apply Kd.R_alloc | apply Kd.R_drewN | apply Kd.R_drew)); exact HO211.out) (Kd.R_base ho0) hb); have n2_ := Aside0.mk (Kd.R_elder' (by (with_reducible repeat (first | apply Kd.R_alloc | apply Kd.R_drewN | apply Kd.R_drew)); exact HO214.out) (Kd.R_base ho0) hb); have n3_ := Aside0.mk (Kd.R_lower (Kd.R_new' (Kd.R_new' ho0 (Kd.R_lt (by (with_reducible repeat (first | apply Kd.R_alloc | apply Kd.R_drewN | apply Kd.R_drew)); exact HO211.out))) (Kd.R_lt (by (with_reducible repeat (first | apply Kd.R_alloc | apply Kd.R_drewN | apply Kd.R_drew)); exact HO214.out))) (below_size (by repeat (first | (with_reducible first | exact HB.out | apply below_alloc | apply pw_below_drewN | apply below_drew1) | exact HB.out)))); have n4_ := Aside0.mk (below_step (by repeat (first | (with_reducible first | exact HB.out | apply below_alloc | apply pw_below_drewN | apply below_drew1) | exact HB.out)) hb); clear HO208; clear HO211; clear HO214; clear HB; have HO208 := n0_; have HO211 := n1_; have HO214 := n2_; have HO217 := n3_; have HB := n4_; clear n0_ n1_ n2_ n3_ n4_; (try clear hb); (try clear hb2); (try clear hk); (try clear hi); (try clear ho0); obtain ⟨Ao14, co14, eo14⟩ := Kd.R_slice HO217.out; subst eo14) | ((with_reducible refine gate_builtin (b := .append) (xs := #[.tmp 6, .tmp 7]) rfl ?_); at_builtin; refine Kd.R_append_rows Kd.bool (w0 := w) w.heap.size rfl (.tmp 6) (.tmp 7) 26 4 (.bool false) 1 rfl Try.underlying26 info4 rfl (by decide) (by omega) v213 t212 t215 _ _ _ (fun k_ => some k_ ≠ (.slice Ao10 t209.length co10 : Value).ownBlock ∧ some k_ ≠ (.slice Ao14 t215.length co14 : Value).ownBlock) (fun _ => False) rfl rfl ?aO ?aR (fun _ _ h => h) (fun _ h => h.elim) ?aF ?aB ?aS ?aL ?_; (case aR => repeat (first | exact (Kd.R_reads' HO217.out).2.2 | (with_reducible refine Kd.C_alloc ?_ _) | (with_reducible refine Kd.C_drewN ?_ _) | (with_reducible refine Kd.C_drew ?_))); (case aB => exact (by repeat (first | (with_reducible first | exact HB.out | apply below_alloc | apply pw_below_drewN | apply below_drew1) | exact HB.out))); (case aF => exact (fun k_ hk => ⟨Kd.fresh' (Kd.R_lt (by (with_reducible repeat (first | apply Kd.R_alloc | apply Kd.R_drewN | apply Kd.R_drew)); exact HO211.out)) k_ hk, Kd.fresh' (Kd.R_lt (by (with_reducible repeat (first | apply Kd.R_alloc | apply Kd.R_drewN | apply Kd.R_drew)); exact HO217.out)) k_ hk⟩)); (case aO => exact (by (with_reducible repeat (first | apply Kd.R_alloc | apply Kd.R_drewN | apply Kd.R_drew)); exact Kd.R_mono HO214.out (by first | exact fun _ hk => ⟨hk.1.2, hk.2⟩ | exact fun _ hk => ⟨fun e_ => hk.1.2 (e_.trans (own_len _ _ _ _)), hk.2⟩ | exact fun _ hk => ⟨hk.1.2, fun e_ => hk.2 (e_.trans (own_len _ _ _ _))⟩ | exact fun _ hk => ⟨fun e_ => hk.1.2 (e_.trans (own_len _ _ _ _)), fun e_ => hk.2 (e_.trans (own_len _ _ _ _))⟩))); (case aS => exact (below_size (by repeat (first | (with_reducible first | exact HB.out | apply below_alloc | apply pw_below_drewN | apply below_drew1) | exact HB.out)))); (case aL => have := LMc6.out; omega); intro v219 w13 ho hb hg hat; rw [← Ny218.out] at ho; have n0_ := Aside0.mk (Kd.R_over' (by (with_reducible repeat (first | apply Kd.R_alloc | apply Kd.R_drewN | apply Kd.R_drew)); exact HO208.out) (Kd.R_typed (by (with_reducible repeat (first | apply Kd.R_alloc | apply Kd.R_drewN | apply Kd.R_drew)); exact HO214.out)) (by decide) hg); have n1_ := Aside0.mk (Kd.R_after (ok := (fun k_ => some k_ ≠ (.slice Ao14 t215.length co14 : Value).ownBlock)) (by (with_reducible repeat (first | apply Kd.R_alloc | apply Kd.R_drewN | apply Kd.R_drew)); exact Kd.R_mono HO211.out (fun _ hk => ⟨hk.2, hk.1.2⟩)) hg hat); have n2_ := Aside0.mk (Kd.R_after (ok := (fun k_ => some k_ ≠ (.slice Ao10 t209.length co10 : Value).ownBlock)) (by (with_reducible repeat (first | apply Kd.R_alloc | apply Kd.R_drewN | apply Kd.R_drew)); exact Kd.R_mono HO217.out (by first | exact fun _ hk => ⟨hk.1.2, hk.2⟩ | exact fun _ hk => ⟨fun e_ => hk.1.2 (e_.trans (own_len _ _ _ _)), hk.2⟩ | exact fun _ hk => ⟨hk.1.2, fun e_ => hk.2 (e_.trans (own_len _ _ _ _))⟩ | exact fun _ hk => ⟨fun e_ => hk.1.2 (e_.trans (own_len _ _ _ _)), fun e_ => hk.2 (e_.trans (own_len _ _ _ _))⟩)) hg hat); have n3_ := Aside0.mk (hb); have n4_ := Aside0.mk (ho); clear HO208; clear HO211; clear HO217; clear HB; clear HO214; have HO208 := n0_; have HO211 := n1_; have HO217 := n2_; have HB := n3_; have HO220 := n4_; clear n0_ n1_ n2_ n3_ n4_; clear ho hb hg hat))
    go_ret
    exact ⟨_, by first | rfl | (simp [errW_none, errW_some] <;> rfl) | (simp [*, errW_none, errW_some] <;> rfl), by (with_reducible repeat (first | apply Kd.R_alloc | apply Kd.R_drewN | apply Kd.R_drew)); exact Kd.R_mono HO220.out (fun _ hk => trivial), by repeat (first | (with_reducible first | exact HB.out | apply below_alloc | apply pw_below_drewN | apply below_drew1) | exact HB.out)⟩
  · rw [if_neg c6] at H
    exact absurd H (by simp)

/-! ### signalmanlaw05_short: function 21 -/
def signalmanlaw05_short.l0 : Nat → List (List Int) → Int → Option (Bool)
  | 0, _, _ => none
  | k + 1, x0, x3 => if x3 < (x0.length : Int) then (if 0 ≤ x3 then (if ((rd_L2 x0 x3).length : Int) > 60 then (some false) else (signalmanlaw05_short.l0 k x0 (wrap64 (x3 + 1)))) else (none)) else (some (decide ((x0.length : Int) ≤ 12)))
def signalmanlaw05_short.f (k : Nat) (l0 : List (List Int)) : Option (Bool) := signalmanlaw05_short.l0 k l0 0
theorem signalmanlaw05_short.mono_l : ∀ k, (∀ y0 y1, LeO (signalmanlaw05_short.l0 k y0 y1) (signalmanlaw05_short.l0 (k + 1) y0 y1))
  | 0 => fun _ _ r h => by simp [signalmanlaw05_short.l0] at h
  | k + 1 => by
    have ih0 := signalmanlaw05_short.mono_l k
    · intro y0 y1
      unfold signalmanlaw05_short.l0
      repeat' first
      | (with_reducible exact ih0 _ _)
      | (with_reducible exact LeO.refl _)
      | (with_reducible exact LeO.none _)
      | (with_reducible refine LeO.ite ?_ ?_)
      | (with_reducible refine LeO.bind ?_ (fun _ => ?_))
      | exact ih0 _ _
      | exact LeO.none _
      | refine LeO.ite ?_ ?_
      | refine LeO.bind ?_ (fun _ => ?_)
theorem signalmanlaw05_short.mono : ∀ a0 k, LeO (signalmanlaw05_short.f k a0) (signalmanlaw05_short.f (k + 1) a0) := by
  intro a0 k
  have ih0 := signalmanlaw05_short.mono_l k
  unfold signalmanlaw05_short.f
  repeat' first
      | (with_reducible exact ih0 _ _)
      | (with_reducible exact LeO.refl _)
      | (with_reducible exact LeO.none _)
      | (with_reducible refine LeO.ite ?_ ?_)
      | (with_reducible refine LeO.bind ?_ (fun _ => ?_))
      | exact ih0 _ _
      | exact LeO.none _
      | refine LeO.ite ?_ ?_
      | refine LeO.bind ?_ (fun _ => ?_)
set_option maxHeartbeats 8000000 in
set_option maxRecDepth 100000 in
theorem signalmanlaw05_short.calls (k : Nat) (A0 : Option Addr) (c0 : Nat) (l0 : List (List Int)) (r : Bool) (w : World) (hr0 : Kd.C (Kd.slice 5 (Kd.int .u8)) w A0 l0.length l0) (hc0 : l0.length ≤ c0) (h : signalmanlaw05_short.f k l0 = some r) :
    Calls Try.prog 21 #[.slice A0 l0.length c0] w fun e w' => e = .returned (.bool r) ∧ Drawn0 w w' := by
  have HR0 := Aside0.mk hr0
  have HC0 := Aside0.mk hc0
  clear hr0 hc0
  have H : (signalmanlaw05_short.l0 k l0 0) = some r := h
  clear h
  have H' := Aside0.mk H
  clear H
  go_enter Try.func21, Try.ntmps21
  go_wp2
  go_loopg [3] k (fun kq v3 w' => ∃ (x3_1 : Int), v3 = .int .i64 x3_1 ∧ Aside0 (signalmanlaw05_short.l0 kq l0 x3_1 = some r) ∧ Aside0 (kq ≤ k) ∧ Drawn0 w w')
  case atStart => exact ⟨(0), (by first | rfl | (simp; done) | (simp [*]; done) | (simp; omega)), H', ⟨Nat.le_refl _⟩, by repeat (first | exact Drawn0.refl _ | apply Drawn0.step)⟩
  case round =>
    clear H'
    obtain ⟨x3_1, rfl, HA, HK1, ⟨m1, rfl⟩⟩ := hrel
    cases gk with
    | zero => exact absurd HA.out (by simp [signalmanlaw05_short.l0])
    | succ k1 =>
      have H := HA.out
      clear HA
      simp only [signalmanlaw05_short.l0] at H
      by_cases c2 : x3_1 < (l0.length : Int)
      · rw [if_pos c2] at H
        have c2b0 : decide (x3_1 < (l0.length : Int)) = true := decide_eq_true c2
        clear c2
        by_cases c3 : 0 ≤ x3_1
        · rw [if_pos c3] at H
          have c3b0 : decide (0 ≤ x3_1) = true := decide_eq_true c3
          clear c3
          by_cases c4 : ((rd_L2 l0 x3_1).length : Int) > 60
          · rw [if_pos c4] at H
            have c4b0 : decide (60 < ((rd_L2 l0 x3_1).length : Int)) = true := decide_eq_true c4
            have c4b1 : decide (60 < (rd_L2 l0 x3_1).length) = true := decide_eq_true (by omega)
            clear c4
            obtain rfl := Option.some.inj H
            have p221 : 0 ≤ (x3_1 : Int) := of_decide_eq_true (by first | (with_reducible assumption) | assumption)
            have q221 : x3_1 < (l0.length : Int) := of_decide_eq_true (by first | (with_reducible assumption) | assumption)
            obtain ⟨ad221, A221_0, c221_0, e221, hx221_0, hl221_0, hi221_0⟩ := at_L2 HR0.out x3_1 p221 q221
            cases e221
            have HR221_0 := Aside0.mk hi221_0
            have HC221_0 := Aside0.mk hl221_0
            clear hi221_0 hl221_0
            replace p221 := eq_true p221
            replace q221 := eq_true q221
            go_wp2
            go_ret
            exact ⟨by first | rfl | (simp; done) | (simp [*]; done), by repeat (first | exact Drawn0.refl _ | apply Drawn0.step)⟩
          · rw [if_neg c4] at H
            have c4b0 : decide (60 < ((rd_L2 l0 x3_1).length : Int)) = false := decide_eq_false c4
            have c4b1 : decide (60 < (rd_L2 l0 x3_1).length) = false := decide_eq_false (by omega)
            clear c4
            have H' := Aside0.mk H
            clear H
            have p221 : 0 ≤ (x3_1 : Int) := of_decide_eq_true (by first | (with_reducible assumption) | assumption)
            have q221 : x3_1 < (l0.length : Int) := of_decide_eq_true (by first | (with_reducible assumption) | assumption)
            obtain ⟨ad221, A221_0, c221_0, e221, hx221_0, hl221_0, hi221_0⟩ := at_L2 HR0.out x3_1 p221 q221
            cases e221
            have HR221_0 := Aside0.mk hi221_0
            have HC221_0 := Aside0.mk hl221_0
            clear hi221_0 hl221_0
            replace p221 := eq_true p221
            replace q221 := eq_true q221
            go_wp2
            go_roundg k1
            case measure => have := HK1.out; omega
            case rel => exact ⟨(wrap64 (x3_1 + 1)), (by first | rfl | (simp; done) | (simp [*]; done) | (simp; omega)), H', ⟨by have := HK1.out; omega⟩, by repeat (first | exact Drawn0.refl _ | apply Drawn0.step)⟩
        · rw [if_neg c3] at H
          exact absurd H (by simp)
      · rw [if_neg c2] at H
        have c2b0 : decide (x3_1 < (l0.length : Int)) = false := decide_eq_false c2
        clear c2
        obtain rfl := Option.some.inj H
        go_wp2
        go_ret
        exact ⟨by first | rfl | (simp; done) | (simp [*]; done), by repeat (first | exact Drawn0.refl _ | apply Drawn0.step)⟩

/-! ### signalmanlaw05_FlagUnits: function 7 -/
theorem signalmanlaw05_FlagUnits.flagf : signalmanref01_Flag.f = some signalmanlaw05_awake.flag := rfl
set_option maxHeartbeats 8000000 in
set_option maxRecDepth 100000 in
theorem signalmanlaw05_FlagUnits.e_short (k : Nat) (haw : signalmanlaw05_awake.f k = some true) (A Aj : Option Addr) (c cj : Nat) (ll : List (List Int)) (p : List Int) (w : World) (hr : Kd.C (Kd.slice 5 (Kd.int .u8)) w A ll.length ll) (hc : ll.length ≤ c) (hs : signalmanlaw05_short.f k ll = some false) :
    Calls Try.prog 7 #[.slice A ll.length c, .slice Aj p.length cj] w fun e w' => e = .returned (.bool true) ∧ Below w.heap.size w w' := by
  have HB := Aside0.mk (Below.refl w.heap.size w)
  have HR := Aside0.mk hr
  have HC := Aside0.mk hc
  have HAW := Aside0.mk haw
  have HSH := Aside0.mk hs
  clear hs
  clear hr hc haw
  go_enter Try.func7, Try.ntmps7
  go_wp2_with (first
  | ((with_reducible refine gate_callee (f := 9) rfl ?_); refine goesL_ (some 8) rfl rfl Try.func9 (by kernel_rfl) rfl #[] rfl (by (try simp only [List.map_toArray, List.map_cons, List.map_nil]); first | done | rfl | (simp [Act.eval, *]; done)) ?_; (with_reducible refine (signalmanlaw05_awake.calls k true _ HAW.out).mono ?_); rintro e w1 ⟨rfl, hb⟩; refine ⟨_, rfl, ?_⟩; have n0_ := Aside0.mk (below_step HB.out hb); clear HB; have HB := n0_; clear n0_; clear hb)
  | ((with_reducible refine gate_callee (f := 21) rfl ?_); (try (refine gate_guard (by rfl) ?_; dsimp only)); refine goesL_ (some 12) rfl rfl Try.func21 (by kernel_rfl) rfl #[.slice A ll.length c] rfl (by (try simp only [List.map_toArray, List.map_cons, List.map_nil]); first | done | rfl | (simp [Act.eval, *]; done)) ?_; (with_reducible refine (signalmanlaw05_short.calls k A c ll false _ (Kd.C_below HR.out HB.out) HC.out HSH.out).mono ?_); rintro e w2 ⟨rfl, hd⟩; refine ⟨_, rfl, ?_⟩; have n0_ := Aside0.mk (below_step HB.out hd.below); clear HB; have HB := n0_; clear n0_; clear hd)
  | ((with_reducible refine gate_callee (f := 9) rfl ?_); refine goesL_ (some 20) rfl rfl Try.func9 (by kernel_rfl) rfl #[] rfl (by (try simp only [List.map_toArray, List.map_cons, List.map_nil]); first | done | rfl | (simp [Act.eval, *]; done)) ?_; (with_reducible refine (signalmanlaw05_awake.calls k true _ HAW.out).mono ?_); rintro e w1 ⟨rfl, hb⟩; refine ⟨_, rfl, ?_⟩; have n0_ := Aside0.mk (below_step HB.out hb); clear HB; have HB := n0_; clear n0_; clear hb))
  go_ret
  exact ⟨rfl, HB.out⟩
set_option maxHeartbeats 8000000 in
set_option maxRecDepth 100000 in
theorem signalmanlaw05_FlagUnits.e_junk (k : Nat) (haw : signalmanlaw05_awake.f k = some true) (A Aj : Option Addr) (c cj : Nat) (ll : List (List Int)) (p : List Int) (w : World) (hr : Kd.C (Kd.slice 5 (Kd.int .u8)) w A ll.length ll) (hc : ll.length ≤ c) (hs : signalmanlaw05_short.f k ll = some true) (hj : 300 < p.length) :
    Calls Try.prog 7 #[.slice A ll.length c, .slice Aj p.length cj] w fun e w' => e = .returned (.bool true) ∧ Below w.heap.size w w' := by
  have HB := Aside0.mk (Below.refl w.heap.size w)
  have HR := Aside0.mk hr
  have HC := Aside0.mk hc
  have HAW := Aside0.mk haw
  have HSH := Aside0.mk hs
  clear hs
  have d0 : decide ((300 : Int) < (p.length : Int)) = true := decide_eq_true (by omega)
  have d1 : decide (300 < p.length) = true := decide_eq_true (by omega)
  clear hr hc haw
  go_enter Try.func7, Try.ntmps7
  go_wp2_with (first
  | ((with_reducible refine gate_callee (f := 9) rfl ?_); refine goesL_ (some 8) rfl rfl Try.func9 (by kernel_rfl) rfl #[] rfl (by (try simp only [List.map_toArray, List.map_cons, List.map_nil]); first | done | rfl | (simp [Act.eval, *]; done)) ?_; (with_reducible refine (signalmanlaw05_awake.calls k true _ HAW.out).mono ?_); rintro e w1 ⟨rfl, hb⟩; refine ⟨_, rfl, ?_⟩; have n0_ := Aside0.mk (below_step HB.out hb); clear HB; have HB := n0_; clear n0_; clear hb)
  | ((with_reducible refine gate_callee (f := 21) rfl ?_); (try (refine gate_guard (by rfl) ?_; dsimp only)); refine goesL_ (some 12) rfl rfl Try.func21 (by kernel_rfl) rfl #[.slice A ll.length c] rfl (by (try simp only [List.map_toArray, List.map_cons, List.map_nil]); first | done | rfl | (simp [Act.eval, *]; done)) ?_; (with_reducible refine (signalmanlaw05_short.calls k A c ll true _ (Kd.C_below HR.out HB.out) HC.out HSH.out).mono ?_); rintro e w2 ⟨rfl, hd⟩; refine ⟨_, rfl, ?_⟩; have n0_ := Aside0.mk (below_step HB.out hd.below); clear HB; have HB := n0_; clear n0_; clear hd)
  | ((with_reducible refine gate_callee (f := 9) rfl ?_); refine goesL_ (some 20) rfl rfl Try.func9 (by kernel_rfl) rfl #[] rfl (by (try simp only [List.map_toArray, List.map_cons, List.map_nil]); first | done | rfl | (simp [Act.eval, *]; done)) ?_; (with_reducible refine (signalmanlaw05_awake.calls k true _ HAW.out).mono ?_); rintro e w1 ⟨rfl, hb⟩; refine ⟨_, rfl, ?_⟩; have n0_ := Aside0.mk (below_step HB.out hb); clear HB; have HB := n0_; clear n0_; clear hb))
  go_ret
  exact ⟨rfl, HB.out⟩
theorem signalmanlaw05_FlagUnits.one (w : World) : ReadsOf Value.bool false (w.alloc (.cells #[.bool false] 4)) (some ⟨w.heap.size, 0, none⟩) [false].length [false] := by
  refine ⟨rfl, by decide, fun _ => ⟨_, rfl, fun j hj => ?_⟩⟩
  rw [Addr.add_lit, World.cell?_alloc_mark, Nat.zero_add]
  have hj' : j < 1 := hj
  match j, hj' with
  | 0, _ => rfl
theorem signalmanlaw05_FlagUnits.asks_f {B : Nat} {E : Nat → Prop} {w : World} {g : Nat} {s : Ear.St} (h : Ear.Is B E w g s) (hb : s.found = true) : Calls Try.prog 26 #[.pointer (some ⟨g, 0, none⟩)] w fun e w' => e = .returned (.bool false) ∧ w = w' := by
  obtain ⟨_, P, vin, _, _, hA, _⟩ := h
  refine (Ear.counting_calls g vin s.ones s.n s.found w hA).mono ?_
  rintro e w' ⟨rfl, rfl⟩
  rw [hb]
  exact ⟨rfl, rfl⟩
set_option maxHeartbeats 32000000 in
set_option maxRecDepth 100000 in
theorem signalmanlaw05_FlagUnits.main (k : Nat) (haw : signalmanlaw05_awake.f k = some true) (A Aj : Option Addr) (c cj : Nat) (ll : List (List Int)) (p : List Int) (w : World) (hr : Kd.C (Kd.slice 5 (Kd.int .u8)) w A ll.length ll) (hc : ll.length ≤ c) (hrp : Kd.C (Kd.int .u8) w Aj p.length p) (hcp : p.length ≤ cj) (hs : signalmanlaw05_short.f k ll = some true) (hj : p.length ≤ 300) (tj : List Bool) (hb : signalmanref01_Bits.f k p = some tj) (htj : tj.length ≤ 2400) (hll : ll.length ≤ 12)
    (hF : ∀ i : Nat, i < ll.length → (rd_L2 ll (i : Int)).length ≤ 60 ∧ (3 ≤ (rd_L2 ll (i : Int)).length → ∃ fr, signalmanref01_Frame.f k (rd_L2 ll (i : Int)) = some fr ∧ fr.length ≤ 20000 ∧ ∀ m, Ear.runF (signalmanlaw05_awake.J k) ⟨[], 0, true, m⟩ fr = (⟨[], 0, true, m⟩, [(0, rd_L2 ll (i : Int))])))
    (hclear : ∀ s : Ear.St, ∃ m, (Ear.runF (signalmanlaw05_awake.J k) s (signalmanlaw05_awake.flag ++ signalmanlaw05_awake.flag)).1 = ⟨[], 0, true, m⟩) :
    Calls Try.prog 7 #[.slice A ll.length c, .slice Aj p.length cj] w fun e w' => e = .returned (.bool true) ∧ Below w.heap.size w w' := by
  have HB := Aside0.mk (Below.refl w.heap.size w)
  have HR := Aside0.mk hr
  have HC := Aside0.mk hc
  have HRP := Aside0.mk hrp
  have HCP := Aside0.mk hcp
  have HAW := Aside0.mk haw
  have HJ := Aside0.mk (signalmanlaw05_awake.ok ((signalmanlaw05_awake.f_full k).1 haw))
  have HSH := Aside0.mk hs
  have HBT := Aside0.mk hb
  have HTJ := Aside0.mk htj
  have HF := Aside0.mk hF
  have HCL := Aside0.mk hclear
  have d0 : decide ((300 : Int) < (p.length : Int)) = false := decide_eq_false (by omega)
  have d1 : decide (300 < p.length) = false := decide_eq_false (by omega)
  clear hr hc hrp hcp haw hs hb htj hF hclear hj
  go_enter Try.func7, Try.ntmps7
  go_wp2_with (first
  | ((with_reducible refine gate_callee (f := 9) rfl ?_); refine goesL_ (some 8) rfl rfl Try.func9 (by kernel_rfl) rfl #[] rfl (by (try simp only [List.map_toArray, List.map_cons, List.map_nil]); first | done | rfl | (simp [Act.eval, *]; done)) ?_; (with_reducible refine (signalmanlaw05_awake.calls k true _ HAW.out).mono ?_); rintro e w1 ⟨rfl, hb⟩; refine ⟨_, rfl, ?_⟩; have n0_ := Aside0.mk (below_step HB.out hb); clear HB; have HB := n0_; clear n0_; clear hb)
  | ((with_reducible refine gate_callee (f := 21) rfl ?_); (try (refine gate_guard (by rfl) ?_; dsimp only)); refine goesL_ (some 12) rfl rfl Try.func21 (by kernel_rfl) rfl #[.slice A ll.length c] rfl (by (try simp only [List.map_toArray, List.map_cons, List.map_nil]); first | done | rfl | (simp [Act.eval, *]; done)) ?_; (with_reducible refine (signalmanlaw05_short.calls k A c ll true _ (Kd.C_below HR.out HB.out) HC.out HSH.out).mono ?_); rintro e w2 ⟨rfl, hd⟩; refine ⟨_, rfl, ?_⟩; have n0_ := Aside0.mk (below_step HB.out hd.below); clear HB; have HB := n0_; clear n0_; clear hd)
  | ((with_reducible refine gate_callee (f := 17) rfl ?_); refine goesL_ (some 25) rfl rfl Try.func17 (by kernel_rfl) rfl #[.slice Aj p.length cj] rfl (by (try simp only [List.map_toArray, List.map_cons, List.map_nil]); first | done | rfl | (simp [Act.eval, *]; done)) ?_; (with_reducible refine (signalmanref01_Bits.calls k Aj cj p tj _ (Kd.C_below HRP.out (below_alloc HB.out _)) HCP.out HBT.out).mono ?_); rintro e w3 ⟨v, rfl, ho, hb⟩; refine ⟨_, rfl, ?_⟩; obtain ⟨At, ct, rfl, hct, hrt, hft⟩ := Rowq.fresh_reads ho; have hbits := Ear.hear_any HJ.out (Ear.born0 w2 HB.out.size) Ear.inv0 hb At ct tj (by have := HTJ.out; omega) (by have := HTJ.out; show 0 + tj.length < 1000000000; omega) hrt hft; have HBITS := Aside0.mk hbits; have HEAR := Aside0.mk (show w2.heap.size < w2.heap.size + 1 by omega); have n0_ := Aside0.mk (below_step (below_alloc HB.out _) hb); clear HB; have HB := n0_; clear n0_; clear ho hb hct hrt hft hbits)
  | ((with_reducible refine gate_callee (f := 23) rfl ?_); refine goesL_ (some 26) rfl rfl Try.func23 (by kernel_rfl) rfl #[.pointer (some ⟨w2.heap.size, 0, none⟩), .slice At tj.length ct] rfl (by (try simp only [List.map_toArray, List.map_cons, List.map_nil]); first | done | rfl | (simp [Act.eval, *]; done)) ?_; (with_reducible refine (HBITS.out).mono ?_); rintro e w4 ⟨A4, n4, c4, s4, rfl, e4, hi, hv, hn, hb⟩; refine ⟨_, rfl, ?_⟩; clear e4; have hn4 : s4.ones ≤ 2400 := (by have := HTJ.out; have h0 : s4.ones ≤ 0 + tj.length := hn; omega); have hbits := Ear.hear_any HJ.out hi hv (below_alloc (Below.refl _ _) (.cells #[.bool false] 4)) (some ⟨w4.heap.size, 0, none⟩) 1 [false] (by decide) (by show s4.ones + 1 < 1000000000; omega) (signalmanlaw05_FlagUnits.one w4) (fun ad e _ => by cases e; exact Nat.le_refl _); have HN4 := Aside0.mk hn4; clear HBITS hn4; have HBITS := Aside0.mk (show Calls Try.prog 23 #[.pointer (some ⟨w2.heap.size, 0, none⟩), .slice (some ⟨w4.heap.size, 0, none⟩) 1 1] (w4.alloc (.cells #[.bool false] 4)) (Ear.After (signalmanlaw05_awake.J k) w.heap.size (w4.alloc (.cells #[.bool false] 4)) w2.heap.size s4 [false]) from hbits); have n0_ := Aside0.mk (below_alloc (HB.out.trans hb) (.cells #[.bool false] 4)); clear HB; have HB := n0_; clear n0_; clear hb hi hv hn hbits)
  | ((with_reducible refine gate_callee (f := 23) rfl ?_); refine goesL_ (some 29) rfl rfl Try.func23 (by kernel_rfl) rfl #[.pointer (some ⟨w2.heap.size, 0, none⟩), .slice (some ⟨w4.heap.size, 0, none⟩) 1 1] rfl (by (try simp only [List.map_toArray, List.map_cons, List.map_nil]); first | done | rfl | (simp [Act.eval, *]; done)) ?_; (with_reducible refine (HBITS.out).mono ?_); rintro e w5 ⟨A5, n5, c5, s5, rfl, e5, hi, hv, hn, hb⟩; refine ⟨_, rfl, ?_⟩; clear e5; have HN5 := Aside0.mk (show s5.ones ≤ 2401 by (have := HN4.out; have h0 : s5.ones ≤ s4.ones + 1 := hn; omega)); have HI5 := Aside0.mk hi; have HV5 := Aside0.mk hv; clear HBITS; have n0_ := Aside0.mk (HB.out.trans hb); clear HB; have HB := n0_; clear n0_; clear hb hi hv hn)
  | ((with_reducible refine gate_callee (f := 16) rfl ?_); refine goesL_ (some 31) rfl rfl Try.func16 (by kernel_rfl) rfl #[] rfl (by (try simp only [List.map_toArray, List.map_cons, List.map_nil]); first | done | rfl | (simp [Act.eval, *]; done)) ?_; (with_reducible refine (signalmanref01_Flag.calls signalmanlaw05_awake.flag _ signalmanlaw05_FlagUnits.flagf).mono ?_); rintro e w6 ⟨v6, rfl, ho, hb⟩; refine ⟨_, rfl, ?_⟩; have HO6 := Aside0.mk ho; have HB6 := Aside0.mk hb; clear ho hb)
  | ((with_reducible refine gate_callee (f := 16) rfl ?_); refine goesL_ (some 32) rfl rfl Try.func16 (by kernel_rfl) rfl #[] rfl (by (try simp only [List.map_toArray, List.map_cons, List.map_nil]); first | done | rfl | (simp [Act.eval, *]; done)) ?_; (with_reducible refine (signalmanref01_Flag.calls signalmanlaw05_awake.flag _ signalmanlaw05_FlagUnits.flagf).mono ?_); rintro e w7 ⟨v7, rfl, ho, hb⟩; refine ⟨_, rfl, ?_⟩; obtain ⟨A7, c7, rfl, hct, hrt, hft⟩ := Rowq.fresh_reads ho; obtain ⟨A8, c8, w8, hrun, hr8, hf8, hb8⟩ := Ear.joined (c := c7) (Kd.R_below HO6.out hb) hrt (by decide) 26 Try.underlying26 (below_step HB6.out hb); have hbits := Ear.hear_any HJ.out HI5.out HV5.out hb8 A8 c8 (signalmanlaw05_awake.flag ++ signalmanlaw05_awake.flag) (by decide) (by have := HN5.out; show s5.ones + 16 < 1000000000; omega) hr8 (fun ad e _ => hf8 ad e); have HRUN := Aside0.mk hrun; have HBITS := Aside0.mk hbits; have n0_ := Aside0.mk (below_step HB.out hb8); clear HB; have HB := n0_; clear n0_; clear ho hb hct hrt hft hrun hr8 hf8 hb8 hbits HO6 HB6)
  | ((with_reducible refine gate_builtin (b := .append) (xs := #[.tmp 31, .tmp 32]) rfl ?_); refine Rowq.wpList_append_run rfl (.tmp 31) (.tmp 32) 26 rfl v6 (.slice A7 signalmanlaw05_awake.flag.length c7) rfl rfl (.slice A8 (signalmanlaw05_awake.flag ++ signalmanlaw05_awake.flag).length c8) w8 HRUN.out ?_)
  | ((with_reducible refine gate_callee (f := 23) rfl ?_); refine goesL_ (some 34) rfl rfl Try.func23 (by kernel_rfl) rfl #[.pointer (some ⟨w2.heap.size, 0, none⟩), .slice A8 (signalmanlaw05_awake.flag ++ signalmanlaw05_awake.flag).length c8] rfl (by (try simp only [List.map_toArray, List.map_cons, List.map_nil]); first | done | rfl | (simp [Act.eval, *]; done)) ?_; (with_reducible refine (HBITS.out).mono ?_); rintro e w9 ⟨A9, n9, c9, s9, rfl, e9, hi, hv, hn, hb⟩; refine ⟨_, rfl, ?_⟩; obtain ⟨m, hm⟩ := HCL.out s5; rw [hm] at e9; subst e9; have HI9 := Aside0.mk hi; have HM := Aside0.mk hv.n; clear HBITS HRUN HI5 HV5 HN5 HN4; have n0_ := Aside0.mk (HB.out.trans hb); clear HB; have HB := n0_; clear n0_; clear hb hi hv hn hm))
  obtain ⟨g, hg⟩ : ∃ g, g = w2.heap.size := ⟨_, rfl⟩
  rw [← hg] at HI9 ⊢
  clear hg HEAR
  go_loopw [6] (fun v6 wr => ∃ i m : Nat, i ≤ ll.length ∧ v6 = .int .i64 i ∧ Aside0 (Ear.Is w.heap.size (fun _ => False) wr g ⟨[], 0, true, m⟩) ∧ Aside0 (m < 128) ∧ Aside0 (Below w.heap.size w wr)) (fun v6 _ => ll.length - (intOf v6).toNat)
  case atStart => exact ⟨0, m, Nat.zero_le _, rfl, HI9, HM, HB⟩
  case round =>
    clear HI9 HM HB
    obtain ⟨i, m, hi, rfl, HI, HM, HB⟩ := hrel
    by_cases hlt : i < ll.length
    · have p1 : 0 ≤ (i : Int) := by omega
      have q1 : (i : Int) < (ll.length : Int) := by omega
      have b1 : decide ((i : Int) < (ll.length : Int)) = true := decide_eq_true q1
      obtain ⟨ad, Aq, cq, e, hx0, hlq, hCq⟩ := at_L2 HR.out (i : Int) p1 q1
      cases e
      obtain ⟨hq60, hqf⟩ := HF.out i hlt
      rw [Int.toNat_natCast] at hx0
      generalize rd_L2 ll (i : Int) = q at hx0 hlq hCq hq60 hqf
      have HX0 := Aside0.mk hx0
      have HCQ := Aside0.mk hCq
      have HLQ := Aside0.mk hlq
      have hx := pw_cell_below HB.out hx0
      clear hx0 hlq hCq
      replace p1 := eq_true p1
      replace q1 := eq_true q1
      by_cases h3 : q.length < 3
      · have b2 : decide ((q.length : Int) < 3) = true := decide_eq_true (by omega)
        have b3 : decide (q.length < 3) = true := decide_eq_true h3
        clear hqf
        go_wp2
        go_roundw
        case rel => exact ⟨i + 1, m, by omega, by first | rfl | (simp; done), HI, HM, HB⟩
        case measure => (simp [intOf]; omega)
      · have b2 : decide ((q.length : Int) < 3) = false := decide_eq_false (by omega)
        have b3 : decide (q.length < 3) = false := decide_eq_false h3
        obtain ⟨fr, hfr, hfl, hrun⟩ := hqf (by omega)
        have HFR := Aside0.mk hfr
        have HFL := Aside0.mk hfl
        have HRUN := Aside0.mk hrun
        clear hqf hfr hfl hrun
        go_wp2_with (first
        | ((with_reducible refine gate_callee (f := 14) rfl ?_); refine goesL_ (some 52) rfl rfl Try.func14 (by kernel_rfl) rfl #[.slice Aq q.length cq] rfl (by (try simp only [List.map_toArray, List.map_cons, List.map_nil]); first | done | rfl | (simp [Act.eval, *]; done)) ?_; (with_reducible refine (signalmanref01_Frame.calls k Aq cq q fr _ (Kd.C_below HCQ.out HB.out) HLQ.out HFR.out).mono ?_); rintro e w11 ⟨v, rfl, ho, hb⟩; refine ⟨_, rfl, ?_⟩; obtain ⟨At2, ct2, rfl, hct, hrt, hft⟩ := Rowq.fresh_reads ho; have hbits := Ear.hear_one HJ.out HI.out (Ear.inv1 m HM.out) hb At2 ct2 fr (by have := HFL.out; omega) (by have := HFL.out; show 0 + fr.length < 1000000000; omega) hrt hft ⟨[], 0, true, m⟩ 0 q (HRUN.out m); have HBITS := Aside0.mk hbits; have n0_ := Aside0.mk (below_step HB.out hb); clear HB; have HB := n0_; clear n0_; clear ho hb hct hrt hft hbits HI hx)
        | ((with_reducible refine gate_callee (f := 23) rfl ?_); refine goesL_ (some 53) rfl rfl Try.func23 (by kernel_rfl) rfl #[.pointer (some ⟨g, 0, none⟩), .slice At2 fr.length ct2] rfl (by (try simp only [List.map_toArray, List.map_cons, List.map_nil]); first | done | rfl | (simp [Act.eval, *]; done)) ?_; (with_reducible refine (HBITS.out).mono ?_); rintro e w12 ⟨h, cl, Ap, cp, rfl, x0, x1, hcp, hCp, hi2, hb⟩; refine ⟨_, rfl, ?_⟩; have HI := Aside0.mk hi2; clear HBITS; have n0_ := Aside0.mk (HB.out.trans hb); clear HB; have HB := n0_; clear n0_; clear hb hi2; have hx := pw_cell_below HB.out HX0.out; have HCP2 := Aside0.mk hCp; clear hCp))
        have hcv1 := Kd.C_string (c := cp) Try.underlying22 Try.underlying5 Try.underlying9 (Kd.C_drew HCP2.out)
        have hcv2 := Kd.C_string (c := cq) Try.underlying22 Try.underlying5 Try.underlying9 (Kd.C_drew (Kd.C_below HCQ.out HB.out))
        refine start_ (n := 23) (S := fun W => W.cell? ⟨h, 0, none⟩ = some (.int .u8 0) ∧ W.cell? ⟨h, 1, none⟩ = some (.slice Ap q.length cp) ∧ W.cell? (ad.add i) = some (.slice Aq q.length cq) ∧ (convert 22 9 (.slice Ap q.length cp)).run Try.prog W = .ok (.string (strOfNums q)) W ∧ (convert 22 9 (.slice Aq q.length cq)).run Try.prog W = .ok (.string (strOfNums q)) W) (ds := []) #[false, false, false, false, false, false, false, false, false, false, false, false, false, false, false, false, false, false, false, false, false, false, false] (by kernel_rfl) rfl rfl ⟨x0, x1, hx, hcv1, hcv2⟩ (fun hHeld => ?_)
        have n0_ := Aside0.mk (below_drew1 HB.out)
        have n1_ := Aside0.mk (HI.out.below (below_drew1 (Below.refl _ _)) (fun k hk => Or.inl hk))
        clear HB HI hcv1 hcv2 x0 x1 hx HCP2
        have HB := n0_
        have HI := n1_
        clear n0_ n1_
        generalize w12.drew = W0 at HB HI hHeld ⊢
        refine pure_ (i := 0) (N := some 54) (v := ?_) (a' := ?_) #[true, false, false, false, false, false, false, false, false, false, false, false, false, false, false, false, false, false, false, false, false, false, false] rfl rfl (by kernel_rfl) (fun _ _ _ h => h) (Or.inl ⟨by rfl, ?_⟩) ?_ ?_
        rotate_left
        · intro w'
          go_simp
          with_reducible rfl
        rotate_left
        · simp only [Act.put, List.setIfInBounds_toArray, List.set_cons_zero, List.set_cons_succ, i64_w, i32_w]
          rfl
        refine pure_ (i := 1) (N := some 55) (v := ?_) (a' := ?_) #[true, true, false, false, false, false, false, false, false, false, false, false, false, false, false, false, false, false, false, false, false, false, false] rfl rfl (by kernel_rfl) (fun _ _ _ h => h) (Or.inl ⟨by rfl, ?_⟩) ?_ ?_
        rotate_left
        · intro w'
          go_simp
          with_reducible rfl
        rotate_left
        · simp only [Act.put, List.setIfInBounds_toArray, List.set_cons_zero, List.set_cons_succ, i64_w, i32_w]
          rfl
        refine pure_ (i := 2) (N := some 56) (v := ?_) (a' := ?_) #[true, true, true, false, false, false, false, false, false, false, false, false, false, false, false, false, false, false, false, false, false, false, false] rfl rfl (by kernel_rfl) (fun _ _ _ h => h) (Or.inl ⟨by rfl, ?_⟩) ?_ ?_
        rotate_left
        · intro w'
          go_simp
          with_reducible rfl
        rotate_left
        · simp only [Act.put, List.setIfInBounds_toArray, List.set_cons_zero, List.set_cons_succ, i64_w, i32_w]
          rfl
        refine pure_ (i := 3) (N := some 57) (v := ?_) (a' := ?_) #[true, true, true, true, false, false, false, false, false, false, false, false, false, false, false, false, false, false, false, false, false, false, false] rfl rfl (by kernel_rfl) (fun _ _ _ h => h) (Or.inl ⟨by rfl, ?_⟩) ?_ ?_
        rotate_left
        · intro w'
          go_simp
          with_reducible rfl
        rotate_left
        · simp only [Act.put, List.setIfInBounds_toArray, List.set_cons_zero, List.set_cons_succ, i64_w, i32_w]
          rfl
        refine pure_ (i := 4) (N := some 58) (v := ?_) (a' := ?_) #[true, true, true, true, true, false, false, false, false, false, false, false, false, false, false, false, false, false, false, false, false, false, false] rfl rfl (by kernel_rfl) (fun _ _ _ h => h) (Or.inl ⟨by rfl, ?_⟩) ?_ ?_
        rotate_left
        · intro w'
          go_simp
          with_reducible rfl
        rotate_left
        · simp only [Act.put, List.setIfInBounds_toArray, List.set_cons_zero, List.set_cons_succ, i64_w, i32_w]
          rfl
        refine pure_ (i := 5) (N := some 59) (v := ?_) (a' := ?_) #[true, true, true, true, true, true, false, false, false, false, false, false, false, false, false, false, false, false, false, false, false, false, false] rfl rfl (by kernel_rfl) (fun _ _ _ h => h) (Or.inl ⟨by rfl, ?_⟩) ?_ ?_
        rotate_left
        · intro w'
          go_simp
          with_reducible rfl
        rotate_left
        · simp only [Act.put, List.setIfInBounds_toArray, List.set_cons_zero, List.set_cons_succ, i64_w, i32_w]
          rfl
        refine pure_ (i := 6) (N := some 60) (v := ?_) (a' := ?_) #[true, true, true, true, true, true, true, false, false, false, false, false, false, false, false, false, false, false, false, false, false, false, false] rfl rfl (by kernel_rfl) (fun _ _ _ h => h) (Or.inl ⟨by rfl, ?_⟩) ?_ ?_
        rotate_left
        · intro w'
          go_simp
          with_reducible rfl
        rotate_left
        · simp only [Act.put, List.setIfInBounds_toArray, List.set_cons_zero, List.set_cons_succ, i64_w, i32_w]
          rfl
        refine take_ (i := 7) (N := some 61) (v := ?_) (a' := ?_) #[true, true, true, true, true, true, true, true, false, false, false, false, false, false, false, false, false, false, false, false, false, false, false] rfl rfl (by kernel_rfl) (fun _ _ _ h => h) (Or.inl ⟨by rfl, ?_⟩) hHeld ?_ ?_
        rotate_left
        · intro w' hS'
          obtain ⟨s1_, s2_, s3_, s4_, s5_⟩ := hS'
          go_simp
          with_reducible rfl
        rotate_left
        · simp only [Act.put, List.setIfInBounds_toArray, List.set_cons_zero, List.set_cons_succ, i64_w, i32_w]
          rfl
        refine pure_ (i := 8) (N := some 62) (v := ?_) (a' := ?_) #[true, true, true, true, true, true, true, true, true, false, false, false, false, false, false, false, false, false, false, false, false, false, false] rfl rfl (by kernel_rfl) (fun _ _ _ h => h) (Or.inl ⟨by rfl, ?_⟩) ?_ ?_
        rotate_left
        · intro w'
          go_simp
          with_reducible rfl
        rotate_left
        · simp only [Act.put, List.setIfInBounds_toArray, List.set_cons_zero, List.set_cons_succ, i64_w, i32_w]
          rfl
        refine pure_ (i := 9) (N := some 63) (v := ?_) (a' := ?_) #[true, true, true, true, true, true, true, true, true, true, false, false, false, false, false, false, false, false, false, false, false, false, false] rfl rfl (by kernel_rfl) (fun _ _ _ h => h) (Or.inl ⟨by rfl, ?_⟩) ?_ ?_
        rotate_left
        · intro w'
          go_simp
          with_reducible rfl
        rotate_left
        · simp only [Act.put, List.setIfInBounds_toArray, List.set_cons_zero, List.set_cons_succ, i64_w, i32_w]
          rfl
        refine pure_ (i := 10) (N := some 64) (v := ?_) (a' := ?_) #[true, true, true, true, true, true, true, true, true, true, true, false, false, false, false, false, false, false, false, false, false, false, false] rfl rfl (by kernel_rfl) (fun _ _ _ h => h) (Or.inl ⟨by rfl, ?_⟩) ?_ ?_
        rotate_left
        · intro w'
          go_simp
          with_reducible rfl
        rotate_left
        · simp only [Act.put, List.setIfInBounds_toArray, List.set_cons_zero, List.set_cons_succ, i64_w, i32_w]
          rfl
        refine pure_ (i := 11) (N := some 65) (v := ?_) (a' := ?_) #[true, true, true, true, true, true, true, true, true, true, true, true, false, false, false, false, false, false, false, false, false, false, false] rfl rfl (by kernel_rfl) (fun _ _ _ h => h) (Or.inl ⟨by rfl, ?_⟩) ?_ ?_
        rotate_left
        · intro w'
          go_simp
          with_reducible rfl
        rotate_left
        · simp only [Act.put, List.setIfInBounds_toArray, List.set_cons_zero, List.set_cons_succ, i64_w, i32_w]
          rfl
        refine pure_ (i := 12) (N := some 66) (v := ?_) (a' := ?_) #[true, true, true, true, true, true, true, true, true, true, true, true, true, false, false, false, false, false, false, false, false, false, false] rfl rfl (by kernel_rfl) (fun _ _ _ h => h) (Or.inl ⟨by rfl, ?_⟩) ?_ ?_
        rotate_left
        · intro w'
          go_simp
          with_reducible rfl
        rotate_left
        · simp only [Act.put, List.setIfInBounds_toArray, List.set_cons_zero, List.set_cons_succ, i64_w, i32_w]
          rfl
        refine pure_ (i := 13) (N := some 67) (v := ?_) (a' := ?_) #[true, true, true, true, true, true, true, true, true, true, true, true, true, true, false, false, false, false, false, false, false, false, false] rfl rfl (by kernel_rfl) (fun _ _ _ h => h) (Or.inl ⟨by rfl, ?_⟩) ?_ ?_
        rotate_left
        · intro w'
          go_simp
          with_reducible rfl
        rotate_left
        · simp only [Act.put, List.setIfInBounds_toArray, List.set_cons_zero, List.set_cons_succ, i64_w, i32_w]
          rfl
        refine take_ (i := 14) (N := some 68) (v := ?_) (a' := ?_) #[true, true, true, true, true, true, true, true, true, true, true, true, true, true, true, false, false, false, false, false, false, false, false] rfl rfl (by kernel_rfl) (fun _ _ _ h => h) (Or.inl ⟨by rfl, ?_⟩) hHeld ?_ ?_
        rotate_left
        · intro w' hS'
          obtain ⟨s1_, s2_, s3_, s4_, s5_⟩ := hS'
          go_simp
          with_reducible rfl
        rotate_left
        · simp only [Act.put, List.setIfInBounds_toArray, List.set_cons_zero, List.set_cons_succ, i64_w, i32_w]
          rfl
        refine take_ (i := 15) (N := some 69) (v := ?_) (a' := ?_) #[true, true, true, true, true, true, true, true, true, true, true, true, true, true, true, true, false, false, false, false, false, false, false] rfl rfl (by kernel_rfl) (fun _ _ _ h => h) (Or.inl ⟨by rfl, ?_⟩) hHeld ?_ ?_
        rotate_left
        · intro w' hS'
          obtain ⟨s1_, s2_, s3_, s4_, s5_⟩ := hS'
          go_simp
          with_reducible rfl
        rotate_left
        · simp only [Act.put, List.setIfInBounds_toArray, List.set_cons_zero, List.set_cons_succ, i64_w, i32_w]
          rfl
        refine pure_ (i := 16) (N := some 70) (v := ?_) (a' := ?_) #[true, true, true, true, true, true, true, true, true, true, true, true, true, true, true, true, true, false, false, false, false, false, false] rfl rfl (by kernel_rfl) (fun _ _ _ h => h) (Or.inl ⟨by rfl, ?_⟩) ?_ ?_
        rotate_left
        · intro w'
          go_simp
          with_reducible rfl
        rotate_left
        · simp only [Act.put, List.setIfInBounds_toArray, List.set_cons_zero, List.set_cons_succ, i64_w, i32_w]
          rfl
        refine pure_ (i := 17) (N := some 71) (v := ?_) (a' := ?_) #[true, true, true, true, true, true, true, true, true, true, true, true, true, true, true, true, true, true, false, false, false, false, false] rfl rfl (by kernel_rfl) (fun _ _ _ h => h) (Or.inl ⟨by rfl, ?_⟩) ?_ ?_
        rotate_left
        · intro w'
          go_simp
          with_reducible rfl
        rotate_left
        · simp only [Act.put, List.setIfInBounds_toArray, List.set_cons_zero, List.set_cons_succ, i64_w, i32_w]
          rfl
        refine pure_ (i := 18) (N := some 72) (v := ?_) (a' := ?_) #[true, true, true, true, true, true, true, true, true, true, true, true, true, true, true, true, true, true, true, false, false, false, false] rfl rfl (by kernel_rfl) (fun _ _ _ h => h) (Or.inl ⟨by rfl, ?_⟩) ?_ ?_
        rotate_left
        · intro w'
          go_simp
          with_reducible rfl
        rotate_left
        · simp only [Act.put, List.setIfInBounds_toArray, List.set_cons_zero, List.set_cons_succ, i64_w, i32_w]
          rfl
        refine take_ (i := 19) (N := some 73) (v := ?_) (a' := ?_) #[true, true, true, true, true, true, true, true, true, true, true, true, true, true, true, true, true, true, true, true, false, false, false] rfl rfl (by kernel_rfl) (fun _ _ _ h => h) (Or.inl ⟨by rfl, ?_⟩) hHeld ?_ ?_
        rotate_left
        · intro w' hS'
          obtain ⟨s1_, s2_, s3_, s4_, s5_⟩ := hS'
          go_simp
          with_reducible rfl
        rotate_left
        · simp only [Act.put, List.setIfInBounds_toArray, List.set_cons_zero, List.set_cons_succ, i64_w, i32_w]
          rfl
        refine take_ (i := 20) (N := some 74) (v := ?_) (a' := ?_) #[true, true, true, true, true, true, true, true, true, true, true, true, true, true, true, true, true, true, true, true, true, false, false] rfl rfl (by kernel_rfl) (fun _ _ _ h => h) (Or.inl ⟨by rfl, ?_⟩) hHeld ?_ ?_
        rotate_left
        · intro w' hS'
          obtain ⟨s1_, s2_, s3_, s4_, s5_⟩ := hS'
          go_simp
          with_reducible rfl
        rotate_left
        · simp only [Act.put, List.setIfInBounds_toArray, List.set_cons_zero, List.set_cons_succ, i64_w, i32_w]
          rfl
        refine pure_ (i := 21) (N := some 75) (v := ?_) (a' := ?_) #[true, true, true, true, true, true, true, true, true, true, true, true, true, true, true, true, true, true, true, true, true, true, false] rfl rfl (by kernel_rfl) (fun _ _ _ h => h) (Or.inl ⟨by rfl, ?_⟩) ?_ ?_
        rotate_left
        · intro w'
          go_simp
          with_reducible rfl
        rotate_left
        · simp only [Act.put, List.setIfInBounds_toArray, List.set_cons_zero, List.set_cons_succ, i64_w, i32_w]
          rfl
        refine pure_ (i := 22) (N := some 76) (v := ?_) (a' := ?_) #[true, true, true, true, true, true, true, true, true, true, true, true, true, true, true, true, true, true, true, true, true, true, true] rfl rfl (by kernel_rfl) (fun _ _ _ h => h) (Or.inl ⟨by rfl, ?_⟩) ?_ ?_
        rotate_left
        · intro w'
          go_simp
          with_reducible rfl
        rotate_left
        · simp only [Act.put, List.setIfInBounds_toArray, List.set_cons_zero, List.set_cons_succ, i64_w, i32_w]
          rfl
        refine done_ (by kernel_rfl) ?_
        clear hHeld
        go_wp2
        go_roundw
        case rel => exact ⟨i + 1, m, by omega, by first | rfl | (simp; done), HI, HM, HB⟩
        case measure => (simp [intOf]; omega)
    · obtain rfl : i = ll.length := by omega
      have b1 : decide ((ll.length : Int) < (ll.length : Int)) = false := decide_eq_false (by omega)
      go_wp2_with (first
      | ((with_reducible refine gate_callee (f := 26) rfl ?_); refine goesL_ (some 78) rfl rfl Try.func26 (by kernel_rfl) rfl #[.pointer (some ⟨g, 0, none⟩)] rfl (by (try simp only [List.map_toArray, List.map_cons, List.map_nil]); first | done | rfl | (simp [Act.eval, *]; done)) ?_; (with_reducible refine (signalmanlaw05_FlagUnits.asks_f HI.out rfl).mono ?_); rintro e w5 ⟨rfl, rfl⟩; refine ⟨_, rfl, ?_⟩))
      go_ret
      exact ⟨rfl, HB.out⟩
def signalmanlaw05_FlagUnits.Pure : Prop := ∀ (ll : List (List Int)) (p : List Int), (∀ q ∈ ll, ∀ x ∈ q, 0 ≤ x ∧ x < 256) → (∀ x ∈ p, 0 ≤ x ∧ x < 256) → ll.length ≤ 9223372036854775807 → ∃ (k : Nat) (b : Bool), signalmanlaw05_awake.f k = some true ∧ signalmanlaw05_short.f k ll = some b ∧
    (b = true → p.length ≤ 300 → ∃ tj, signalmanref01_Bits.f k p = some tj ∧ tj.length ≤ 2400 ∧ ll.length ≤ 12 ∧
      ∀ i : Nat, i < ll.length → (rd_L2 ll (i : Int)).length ≤ 60 ∧ (3 ≤ (rd_L2 ll (i : Int)).length → ∃ fr, signalmanref01_Frame.f k (rd_L2 ll (i : Int)) = some fr ∧ fr.length ≤ 20000 ∧ ∀ m, Ear.runF (signalmanlaw05_awake.J k) ⟨[], 0, true, m⟩ fr = (⟨[], 0, true, m⟩, [(0, rd_L2 ll (i : Int))]))) ∧
    (∀ s : Ear.St, ∃ m, (Ear.runF (signalmanlaw05_awake.J k) s (signalmanlaw05_awake.flag ++ signalmanlaw05_awake.flag)).1 = ⟨[], 0, true, m⟩)
theorem signalmanlaw05_FlagUnits.walk (P : signalmanlaw05_FlagUnits.Pure) (A Aj : Option Addr) (c cj : Nat) (ll : List (List Int)) (p : List Int) (w : World) (hr : Kd.C (Kd.slice 5 (Kd.int .u8)) w A ll.length ll) (hc : ll.length ≤ c) (hrp : Kd.C (Kd.int .u8) w Aj p.length p) (hcp : p.length ≤ cj)
    (hw : ∀ q ∈ ll, ∀ x ∈ q, 0 ≤ x ∧ x < 256) (hwp : ∀ x ∈ p, 0 ≤ x ∧ x < 256) :
    Calls Try.prog 7 #[.slice A ll.length c, .slice Aj p.length cj] w fun e w' => e = .returned (.bool true) ∧ Below w.heap.size w w' := by
  obtain ⟨k, b, h1, h2, h3, h4⟩ := P ll p hw hwp hr.2.1
  cases b with
  | false => exact signalmanlaw05_FlagUnits.e_short k h1 A Aj c cj ll p w hr hc h2
  | true =>
    by_cases hp : p.length ≤ 300
    · obtain ⟨tj, h5, h6, h7, h8⟩ := h3 rfl hp
      exact signalmanlaw05_FlagUnits.main k h1 A Aj c cj ll p w hr hc hrp hcp h2 hp tj h5 h6 h7 h8 h4
    · exact signalmanlaw05_FlagUnits.e_junk k h1 A Aj c cj ll p w hr hc h2 (by omega)

end Go.Proofs.Ytonhgiclaieamaa.MFlagUnits
