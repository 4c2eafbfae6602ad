/- A part of the proof of the given statement that each law names; no condition. Written by a program of this session's own (wip/tools/myprint.py, over the kit's print); Lean checks it. -/
import Derived.Test.YtlimjjfcbmjlfaaMOutageStepsx0
import Derived.Test.YtlimjjfcbmjlfaaMOutageStepsx1
namespace Go.Proofs.Ytlimjjfcbmjlfaa.MOutageSteps
open Go.RowKit Go.Proofs.YtlimjjfcbmjlfaaW.PrintWords Go.Proofs.YtlimjjfcbmjlfaaW.PrintLast Go.Proofs.YtlimjjfcbmjlfaaW.PrintMore
attribute [local go_sem] max2_int min2_int max_two min_two max_three min_three max_four min_four   -- for this text's walks alone
set_option linter.unusedVariables false
set_option linter.unusedSimpArgs false

/-! ### signalmanlaw15_OutageSteps: function 3 -/
mutual
def signalmanlaw15_OutageSteps.j0 : Nat → Bool → Bool → Bool → Bool → Bool → Bool → Bool → Bool → Bool → Bool → Bool → Bool → Bool → Option (Bool)
  | 0, _, _, _, _, _, _, _, _, _, _, _, _, _ => none
  | k + 1, x1, x7, x9, x45, x119000, x119001, x119002, x128000, x128001, x128002, x133000, x133001, x133002 => if x45 = true then (some false) else (if (x128000 != x119000) = true then (signalmanlaw15_OutageSteps.j1 k x9 true x119000 x119001 x119002 x133000 x133001 x133002) else (if (x128001 != x1) = true then (signalmanlaw15_OutageSteps.j1 k x9 true x119000 x119001 x119002 x133000 x133001 x133002) else (if x119002 = true then (if (x128002 != true) = true then (signalmanlaw15_OutageSteps.j1 k x9 true x119000 x119001 x119002 x133000 x133001 x133002) else (signalmanlaw15_OutageSteps.j1 k x9 (x7 != (x119001 != x1)) x119000 x119001 x119002 x133000 x133001 x133002)) else (if (x128002 != x1) = true then (signalmanlaw15_OutageSteps.j1 k x9 true x119000 x119001 x119002 x133000 x133001 x133002) else (signalmanlaw15_OutageSteps.j1 k x9 (x7 != (x119001 != x1)) x119000 x119001 x119002 x133000 x133001 x133002)))))
def signalmanlaw15_OutageSteps.j1 : Nat → Bool → Bool → Bool → Bool → Bool → Bool → Bool → Bool → Option (Bool)
  | 0, _, _, _, _, _, _, _, _ => none
  | k + 1, x9, x74, x119000, x119001, x119002, x133000, x133001, x133002 => if x74 = true then (some false) else (if x119000 = true then (if (x9 != false) = true then (some false) else (if (x133000 != x119000) = true then (some false) else (if (x133001 != x119001) = true then (some false) else (if x119002 = true then (if (x133002 != (!x9)) = true then (some false) else ((outage_Outage_Is.f x119000 x119001 x119002).bind fun t134 => (some (t134 == true)))) else (if (x133002 != false) = true then (some false) else ((outage_Outage_Is.f x119000 x119001 x119002).bind fun t135 => (some (t135 == true)))))))) else (if (x9 != (!x119001)) = true then (some false) else (if (x133000 != x119000) = true then (some false) else (if (x133001 != x119001) = true then (some false) else (if x119002 = true then (if (x133002 != (!x9)) = true then (some false) else ((outage_Outage_Is.f x119000 x119001 x119002).bind fun t136 => (if x119001 = true then (some (t136 == true)) else (some (t136 == x119002))))) else (if (x133002 != false) = true then (some false) else ((outage_Outage_Is.f x119000 x119001 x119002).bind fun t137 => (if x119001 = true then (some (t137 == true)) else (some (t137 == x119002))))))))))
end
def signalmanlaw15_OutageSteps.f (k : Nat) (a0_0 : Bool) (a0_1 : Bool) (a0_2 : Bool) (a1 : Bool) : Option (Bool) := (outage_Outage_Local.f a0_0 a0_1 a0_2 a1).bind fun bt119 => ((outage_Outage_Remote.f a0_0 a0_1 a0_2 a1).bind fun bt123 => ((outage_Outage_Continue.f a0_0 a0_1 a0_2).bind fun bt128 => ((signalmanlaw15_awake.f).bind fun t133 => (if t133 = true then (if (bt119.1 != a1) = true then (signalmanlaw15_OutageSteps.j0 k a1 bt123.2.2.2 bt128.2.2.2 true a0_0 a0_1 a0_2 bt123.1 bt123.2.1 bt123.2.2.1 bt128.1 bt128.2.1 bt128.2.2.1) else (if (bt119.2.1 != a0_1) = true then (signalmanlaw15_OutageSteps.j0 k a1 bt123.2.2.2 bt128.2.2.2 true a0_0 a0_1 a0_2 bt123.1 bt123.2.1 bt123.2.2.1 bt128.1 bt128.2.1 bt128.2.2.1) else (signalmanlaw15_OutageSteps.j0 k a1 bt123.2.2.2 bt128.2.2.2 (bt119.2.2 != a0_2) a0_0 a0_1 a0_2 bt123.1 bt123.2.1 bt123.2.2.1 bt128.1 bt128.2.1 bt128.2.2.1))) else (signalmanlaw15_OutageSteps.j0 k a1 bt123.2.2.2 bt128.2.2.2 true a0_0 a0_1 a0_2 bt123.1 bt123.2.1 bt123.2.2.1 bt128.1 bt128.2.1 bt128.2.2.1)))))
theorem signalmanlaw15_OutageSteps.mono_l : ∀ k, (∀ y0 y1 y2 y3 y4 y5 y6 y7 y8 y9 y10 y11 y12, LeO (signalmanlaw15_OutageSteps.j0 k y0 y1 y2 y3 y4 y5 y6 y7 y8 y9 y10 y11 y12) (signalmanlaw15_OutageSteps.j0 (k + 1) y0 y1 y2 y3 y4 y5 y6 y7 y8 y9 y10 y11 y12)) ∧ (∀ y0 y1 y2 y3 y4 y5 y6 y7, LeO (signalmanlaw15_OutageSteps.j1 k y0 y1 y2 y3 y4 y5 y6 y7) (signalmanlaw15_OutageSteps.j1 (k + 1) y0 y1 y2 y3 y4 y5 y6 y7))
  | 0 => ⟨fun _ _ _ _ _ _ _ _ _ _ _ _ _ r h => by simp [signalmanlaw15_OutageSteps.j0] at h, fun _ _ _ _ _ _ _ _ r h => by simp [signalmanlaw15_OutageSteps.j1] at h⟩
  | k + 1 => by
    obtain ⟨ih0, ih1⟩ := signalmanlaw15_OutageSteps.mono_l k
    refine ⟨?_, ?_⟩
    · intro y0 y1 y2 y3 y4 y5 y6 y7 y8 y9 y10 y11 y12
      unfold signalmanlaw15_OutageSteps.j0
      repeat' first
      | (with_reducible exact ih0 _ _ _ _ _ _ _ _ _ _ _ _ _)
      | (with_reducible exact ih1 _ _ _ _ _ _ _ _)
      | (with_reducible exact LeO.refl _)
      | (with_reducible exact LeO.none _)
      | (with_reducible refine LeO.ite ?_ ?_)
      | (with_reducible refine LeO.bind ?_ (fun _ => ?_))
      | exact ih0 _ _ _ _ _ _ _ _ _ _ _ _ _
      | exact ih1 _ _ _ _ _ _ _ _
      | exact LeO.none _
      | refine LeO.ite ?_ ?_
      | refine LeO.bind ?_ (fun _ => ?_)
    · intro y0 y1 y2 y3 y4 y5 y6 y7
      unfold signalmanlaw15_OutageSteps.j1
      repeat' first
      | (with_reducible exact ih0 _ _ _ _ _ _ _ _ _ _ _ _ _)
      | (with_reducible exact ih1 _ _ _ _ _ _ _ _)
      | (with_reducible exact LeO.refl _)
      | (with_reducible exact LeO.none _)
      | (with_reducible refine LeO.ite ?_ ?_)
      | (with_reducible refine LeO.bind ?_ (fun _ => ?_))
      | exact ih0 _ _ _ _ _ _ _ _ _ _ _ _ _
      | exact ih1 _ _ _ _ _ _ _ _
      | exact LeO.none _
      | refine LeO.ite ?_ ?_
      | refine LeO.bind ?_ (fun _ => ?_)
theorem signalmanlaw15_OutageSteps.mono : ∀ a0 a1 a2 a3 k, LeO (signalmanlaw15_OutageSteps.f k a0 a1 a2 a3) (signalmanlaw15_OutageSteps.f (k + 1) a0 a1 a2 a3) := by
  intro a0 a1 a2 a3 k
  obtain ⟨ih0, ih1⟩ := signalmanlaw15_OutageSteps.mono_l k
  unfold signalmanlaw15_OutageSteps.f
  repeat' first
      | (with_reducible exact ih0 _ _ _ _ _ _ _ _ _ _ _ _ _)
      | (with_reducible exact ih1 _ _ _ _ _ _ _ _)
      | (with_reducible exact LeO.refl _)
      | (with_reducible exact LeO.none _)
      | (with_reducible refine LeO.ite ?_ ?_)
      | (with_reducible refine LeO.bind ?_ (fun _ => ?_))
      | exact ih0 _ _ _ _ _ _ _ _ _ _ _ _ _
      | exact ih1 _ _ _ _ _ _ _ _
      | exact LeO.none _
      | refine LeO.ite ?_ ?_
      | refine LeO.bind ?_ (fun _ => ?_)
def signalmanlaw15_OutageSteps.T10 : Bool × List (List Nat × List Nat) := (true, [([], []), ([0], [0]), ([], []), ([2], [2]), ([3, 1], [3]), ([4], [4]), ([5, 4], [4, 5]), ([4, 6], [4, 6]), ([7, 4], [7]), ([8], [8]), ([9, 8], [8, 9]), ([8, 10], [8, 10]), ([1, 11], [1, 11]), ([12, 8, 0, 1, 2, 3, 4, 5, 6, 7, 8, 9, 10, 11, 12], [12])])
def signalmanlaw15_OutageSteps.B10 : List Nat := [0, 1, 0, 4, 15, 31, 63, 127, 255, 511, 1023, 2047, 4095, 8191]
theorem signalmanlaw15_OutageSteps.tab10 : rtab .any (opsOf Try.f3 10) = signalmanlaw15_OutageSteps.T10 := by kernel_rfl
theorem signalmanlaw15_OutageSteps.bits10 : waitsOk signalmanlaw15_OutageSteps.T10.2 signalmanlaw15_OutageSteps.B10 = true := by kernel_rfl
set_option maxHeartbeats 8000000 in
set_option maxRecDepth 100000 in
theorem signalmanlaw15_OutageSteps.calls (k : Nat) (a0_0 : Bool) (a0_1 : Bool) (a0_2 : Bool) (a1 : Bool) (r : Bool) (w : World) (h : signalmanlaw15_OutageSteps.f k a0_0 a0_1 a0_2 a1 = some r) :
    Calls Try.prog 3 #[.agg #[.bool a0_0, .bool a0_1, .bool a0_2], .bool a1] w fun e w' => e = .returned (.bool r) ∧ Below w.heap.size w w' := by
  have hu23 := Try.underlying23
  have HB := Aside0.mk (Below.refl w.heap.size w)
  have H : ((outage_Outage_Local.f a0_0 a0_1 a0_2 a1).bind fun bt119 => ((outage_Outage_Remote.f a0_0 a0_1 a0_2 a1).bind fun bt123 => ((outage_Outage_Continue.f a0_0 a0_1 a0_2).bind fun bt128 => ((signalmanlaw15_awake.f).bind fun t133 => (if t133 = true then (if (bt119.1 != a1) = true then (signalmanlaw15_OutageSteps.j0 k a1 bt123.2.2.2 bt128.2.2.2 true a0_0 a0_1 a0_2 bt123.1 bt123.2.1 bt123.2.2.1 bt128.1 bt128.2.1 bt128.2.2.1) else (if (bt119.2.1 != a0_1) = true then (signalmanlaw15_OutageSteps.j0 k a1 bt123.2.2.2 bt128.2.2.2 true a0_0 a0_1 a0_2 bt123.1 bt123.2.1 bt123.2.2.1 bt128.1 bt128.2.1 bt128.2.2.1) else (signalmanlaw15_OutageSteps.j0 k a1 bt123.2.2.2 bt128.2.2.2 (bt119.2.2 != a0_2) a0_0 a0_1 a0_2 bt123.1 bt123.2.1 bt123.2.2.1 bt128.1 bt128.2.1 bt128.2.2.1))) else (signalmanlaw15_OutageSteps.j0 k a1 bt123.2.2.2 bt128.2.2.2 true a0_0 a0_1 a0_2 bt123.1 bt123.2.1 bt123.2.2.1 bt128.1 bt128.2.1 bt128.2.2.1)))))) = some r := h
  clear h
  replace H := Option.bind_eq_some_iff.mp H
  obtain ⟨⟨t119, t120, t121⟩, A30, H⟩ := H
  replace H : ((outage_Outage_Remote.f a0_0 a0_1 a0_2 a1).bind fun bt123 => ((outage_Outage_Continue.f a0_0 a0_1 a0_2).bind fun bt128 => ((signalmanlaw15_awake.f).bind fun t133 => (if t133 = true then (if (t119 != a1) = true then (signalmanlaw15_OutageSteps.j0 k a1 bt123.2.2.2 bt128.2.2.2 true a0_0 a0_1 a0_2 bt123.1 bt123.2.1 bt123.2.2.1 bt128.1 bt128.2.1 bt128.2.2.1) else (if (t120 != a0_1) = true then (signalmanlaw15_OutageSteps.j0 k a1 bt123.2.2.2 bt128.2.2.2 true a0_0 a0_1 a0_2 bt123.1 bt123.2.1 bt123.2.2.1 bt128.1 bt128.2.1 bt128.2.2.1) else (signalmanlaw15_OutageSteps.j0 k a1 bt123.2.2.2 bt128.2.2.2 (t121 != a0_2) a0_0 a0_1 a0_2 bt123.1 bt123.2.1 bt123.2.2.1 bt128.1 bt128.2.1 bt128.2.2.1))) else (signalmanlaw15_OutageSteps.j0 k a1 bt123.2.2.2 bt128.2.2.2 true a0_0 a0_1 a0_2 bt123.1 bt123.2.1 bt123.2.2.1 bt128.1 bt128.2.1 bt128.2.2.1))))) = some r := H
  have A3 := Aside0.mk A30
  clear A30
  replace H := Option.bind_eq_some_iff.mp H
  obtain ⟨⟨t123, t124, t125, t126⟩, A40, H⟩ := H
  replace H : ((outage_Outage_Continue.f a0_0 a0_1 a0_2).bind fun bt128 => ((signalmanlaw15_awake.f).bind fun t133 => (if t133 = true then (if (t119 != a1) = true then (signalmanlaw15_OutageSteps.j0 k a1 t126 bt128.2.2.2 true a0_0 a0_1 a0_2 t123 t124 t125 bt128.1 bt128.2.1 bt128.2.2.1) else (if (t120 != a0_1) = true then (signalmanlaw15_OutageSteps.j0 k a1 t126 bt128.2.2.2 true a0_0 a0_1 a0_2 t123 t124 t125 bt128.1 bt128.2.1 bt128.2.2.1) else (signalmanlaw15_OutageSteps.j0 k a1 t126 bt128.2.2.2 (t121 != a0_2) a0_0 a0_1 a0_2 t123 t124 t125 bt128.1 bt128.2.1 bt128.2.2.1))) else (signalmanlaw15_OutageSteps.j0 k a1 t126 bt128.2.2.2 true a0_0 a0_1 a0_2 t123 t124 t125 bt128.1 bt128.2.1 bt128.2.2.1)))) = some r := H
  have A4 := Aside0.mk A40
  clear A40
  replace H := Option.bind_eq_some_iff.mp H
  obtain ⟨⟨t128, t129, t130, t131⟩, A50, H⟩ := H
  replace H : ((signalmanlaw15_awake.f).bind fun t133 => (if t133 = true then (if (t119 != a1) = true then (signalmanlaw15_OutageSteps.j0 k a1 t126 t131 true a0_0 a0_1 a0_2 t123 t124 t125 t128 t129 t130) else (if (t120 != a0_1) = true then (signalmanlaw15_OutageSteps.j0 k a1 t126 t131 true a0_0 a0_1 a0_2 t123 t124 t125 t128 t129 t130) else (signalmanlaw15_OutageSteps.j0 k a1 t126 t131 (t121 != a0_2) a0_0 a0_1 a0_2 t123 t124 t125 t128 t129 t130))) else (signalmanlaw15_OutageSteps.j0 k a1 t126 t131 true a0_0 a0_1 a0_2 t123 t124 t125 t128 t129 t130))) = some r := H
  have A5 := Aside0.mk A50
  clear A50
  have HC6 := Aside0.mk H
  clear H
  go_enter Try.func3, Try.ntmps3
  go_upto_region 4 with (first | ((with_reducible refine gate_dst (N := 2) rfl ?_); refine box_event ?hg (N := 2) ?hd (cs := #[.bool a0_0, .bool a0_1, .bool a0_2]) (t := 23) ?hr ?_; (case hd => rfl); (case hg => rfl); (case hr => first | (go_simp; done) | (go_simp; rfl)); intro gb118 hg w7 hbox hb; have n0_ := Aside0.mk (below_step (by repeat (first | (with_reducible first | exact HB.out | apply below_alloc | apply pw_below_drewN | apply below_drew1) | exact HB.out)) hb); have n1_ := Aside0.mk (hbox); have n2_ := Aside0.mk ((by rw [hg]; exact (below_size (by repeat (first | (with_reducible first | exact HB.out | apply below_alloc | apply pw_below_drewN | apply below_drew1) | exact HB.out))) : w.heap.size ≤ gb118)); have n3_ := Aside0.mk ((by rw [hg]; exact (below_size (by repeat (first | (with_reducible first | exact HB.out | apply below_alloc | apply pw_below_drewN | apply below_drew1) | exact HB.out))) : w.heap.size ≤ gb118)); clear HB; have HB := n0_; have BK118 := n1_; have GW118 := n2_; have GE118 := n3_; clear n0_ n1_ n2_ n3_; clear hb hbox hg; have hcz8_0 : w7.cell? ⟨gb118, 0, none⟩ = some (.bool a0_0) := (blk_cell BK118.out 0).trans rfl; have hcz8_1 : w7.cell? ⟨gb118, 1, none⟩ = some (.bool a0_1) := (blk_cell BK118.out 1).trans rfl; have hcz8_2 : w7.cell? ⟨gb118, 2, none⟩ = some (.bool a0_2) := (blk_cell BK118.out 2).trans rfl; have hfz8_0 := blk_frozen BK118.out 0; have hfz8_1 := blk_frozen BK118.out 1; have hfz8_2 := blk_frozen BK118.out 2) | ((with_reducible refine gate_callee (f := 6) rfl ?_); refine goesL_ (some 12) rfl rfl Try.func6 (by kernel_rfl) rfl #[.agg #[.bool a0_0, .bool a0_1, .bool a0_2], .bool a1] rfl (by (try simp only [List.map_toArray, List.map_cons, List.map_nil]); first | done | rfl | (simp only [List.length_drop, List.length_take]; rfl) | (simp [Act.eval, *]; done)) ?_; (with_reducible refine (outage_Outage_Local.calls a0_0 a0_1 a0_2 a1 t119 t120 t121 _ A3.out).mono ?_); rintro e w9 ⟨rfl, hb⟩; refine ⟨_, rfl, ?_⟩; have n0_ := Aside0.mk (blk_below (g := gb118) (o := .cells #[.bool a0_0, .bool a0_1, .bool a0_2] 23 (0, 0)) (by (with_reducible repeat (first | refine blk_drewN ?_ _ | refine blk_drew ?_ | refine blk_alloc ?_ _)); exact BK118.out) hb); have n1_ := Aside0.mk (below_step (by repeat (first | (with_reducible first | exact HB.out | apply below_alloc | apply pw_below_drewN | apply below_drew1 | refine below_set ?_ GE118.out) | exact HB.out)) hb); clear BK118; clear HB; have BK118 := n0_; have HB := n1_; clear n0_ n1_; (try clear hb); (try clear hb2); (try clear hk); (try clear hi)) | ((with_reducible refine gate_dst (N := 5) rfl ?_); refine box_event ?hg (N := 5) ?hd (cs := #[.bool false, .bool false, .bool false]) (t := 23) ?hr ?_; (case hd => rfl); (case hg => rfl); (case hr => first | (go_simp; done) | (go_simp; rfl)); intro gb122 hg w10 hbox hb; have n0_ := Aside0.mk (blk_below (g := gb118) (o := .cells #[.bool a0_0, .bool a0_1, .bool a0_2] 23 (0, 0)) (by (with_reducible repeat (first | refine blk_drewN ?_ _ | refine blk_drew ?_ | refine blk_alloc ?_ _)); exact BK118.out) hb); have n1_ := Aside0.mk (below_step (by repeat (first | (with_reducible first | exact HB.out | apply below_alloc | apply pw_below_drewN | apply below_drew1 | refine below_set ?_ GE118.out) | exact HB.out)) hb); have n2_ := Aside0.mk (hbox); have n3_ := Aside0.mk ((by rw [hg]; exact (below_size (by repeat (first | (with_reducible first | exact HB.out | apply below_alloc | apply pw_below_drewN | apply below_drew1 | refine below_set ?_ GE118.out) | exact HB.out))) : w.heap.size ≤ gb122)); have n4_ := Aside0.mk ((by rw [hg]; exact (below_size (by repeat (first | (with_reducible first | exact HB.out | apply below_alloc | apply pw_below_drewN | apply below_drew1 | refine below_set ?_ GE118.out) | exact HB.out))) : w.heap.size ≤ gb122)); have n5_ := Aside0.mk ((by rw [hg]; exact Nat.ne_of_lt (blk_lt (g := gb118) (o := .cells #[.bool a0_0, .bool a0_1, .bool a0_2] 23 (0, 0)) (by (with_reducible repeat (first | refine blk_drewN ?_ _ | refine blk_drew ?_ | refine blk_alloc ?_ _)); exact BK118.out)) : gb118 ≠ gb122)); have n6_ := Aside0.mk ((by rw [hg]; exact Nat.ne_of_gt (blk_lt (g := gb118) (o := .cells #[.bool a0_0, .bool a0_1, .bool a0_2] 23 (0, 0)) (by (with_reducible repeat (first | refine blk_drewN ?_ _ | refine blk_drew ?_ | refine blk_alloc ?_ _)); exact BK118.out)) : gb122 ≠ gb118)); clear BK118; clear HB; have BK118 := n0_; have HB := n1_; have BK122 := n2_; have GW122 := n3_; have GE122 := n4_; have NB118_122 := n5_; have NB122_118 := n6_; clear n0_ n1_ n2_ n3_ n4_ n5_ n6_; clear hb hbox hg; have hnb11 := NB122_118.out; have hnc11 := NB118_122.out; have hcz12_0 : w10.cell? ⟨gb122, 0, none⟩ = some (.bool false) := (blk_cell BK122.out 0).trans rfl; have hcz12_1 : w10.cell? ⟨gb122, 1, none⟩ = some (.bool false) := (blk_cell BK122.out 1).trans rfl; have hcz12_2 : w10.cell? ⟨gb122, 2, none⟩ = some (.bool false) := (blk_cell BK122.out 2).trans rfl; have hfz12_0 := blk_frozen BK122.out 0; have hfz12_1 := blk_frozen BK122.out 1; have hfz12_2 := blk_frozen BK122.out 2; have hcz13_0 : w10.cell? ⟨gb118, 0, none⟩ = some (.bool a0_0) := (blk_cell BK118.out 0).trans rfl; have hcz13_1 : w10.cell? ⟨gb118, 1, none⟩ = some (.bool a0_1) := (blk_cell BK118.out 1).trans rfl; have hcz13_2 : w10.cell? ⟨gb118, 2, none⟩ = some (.bool a0_2) := (blk_cell BK118.out 2).trans rfl; have hfz13_0 := blk_frozen BK118.out 0; have hfz13_1 := blk_frozen BK118.out 1; have hfz13_2 := blk_frozen BK118.out 2) | ((with_reducible refine gate_callee (f := 7) rfl ?_); refine goesL_ (some 16) rfl rfl Try.func7 (by kernel_rfl) rfl #[.agg #[.bool a0_0, .bool a0_1, .bool a0_2], .bool a1] rfl (by (try simp only [List.map_toArray, List.map_cons, List.map_nil]); first | done | rfl | (simp only [List.length_drop, List.length_take]; rfl) | (simp [Act.eval, *]; done)) ?_; (with_reducible refine (outage_Outage_Remote.calls a0_0 a0_1 a0_2 a1 t123 t124 t125 t126 _ A4.out).mono ?_); rintro e w14 ⟨rfl, hb⟩; refine ⟨_, rfl, ?_⟩; have n0_ := Aside0.mk (blk_below (g := gb118) (o := .cells #[.bool a0_0, .bool a0_1, .bool a0_2] 23 (0, 0)) (by (with_reducible repeat (first | refine blk_drewN ?_ _ | refine blk_drew ?_ | refine blk_alloc ?_ _)); refine blk_far ?_ NB118_122.out _; (with_reducible repeat (first | refine blk_drewN ?_ _ | refine blk_drew ?_ | refine blk_alloc ?_ _)); refine blk_far ?_ NB118_122.out _; (with_reducible repeat (first | refine blk_drewN ?_ _ | refine blk_drew ?_ | refine blk_alloc ?_ _)); refine blk_far ?_ NB118_122.out _; (with_reducible repeat (first | refine blk_drewN ?_ _ | refine blk_drew ?_ | refine blk_alloc ?_ _)); exact BK118.out) hb); have n1_ := Aside0.mk (blk_below (g := gb122) (o := .cells #[.bool t119, .bool t120, .bool t121] 23 (0, 0)) (by (with_reducible repeat (first | refine blk_drewN ?_ _ | refine blk_drew ?_ | refine blk_alloc ?_ _)); refine blk_put (cs := #[.bool t119, .bool t120, .bool false]) ?_ 2 _ rfl; (with_reducible repeat (first | refine blk_drewN ?_ _ | refine blk_drew ?_ | refine blk_alloc ?_ _)); refine blk_put (cs := #[.bool t119, .bool false, .bool false]) ?_ 1 _ rfl; (with_reducible repeat (first | refine blk_drewN ?_ _ | refine blk_drew ?_ | refine blk_alloc ?_ _)); refine blk_put (cs := #[.bool false, .bool false, .bool false]) ?_ 0 _ rfl; (with_reducible repeat (first | refine blk_drewN ?_ _ | refine blk_drew ?_ | refine blk_alloc ?_ _)); exact BK122.out) hb); have n2_ := Aside0.mk (below_step (by repeat (first | (with_reducible first | exact HB.out | apply below_alloc | apply pw_below_drewN | apply below_drew1 | refine below_set ?_ GE118.out | refine below_set ?_ GE122.out) | exact HB.out)) hb); clear BK118; clear BK122; clear HB; have BK118 := n0_; have BK122 := n1_; have HB := n2_; clear n0_ n1_ n2_; (try clear hb); (try clear hb2); (try clear hk); (try clear hi)) | ((with_reducible refine gate_dst (N := 6) rfl ?_); refine box_event ?hg (N := 6) ?hd (cs := #[.bool false, .bool false, .bool false]) (t := 23) ?hr ?_; (case hd => rfl); (case hg => rfl); (case hr => first | (go_simp; done) | (go_simp; rfl)); intro gb127 hg w15 hbox hb; have n0_ := Aside0.mk (blk_below (g := gb118) (o := .cells #[.bool a0_0, .bool a0_1, .bool a0_2] 23 (0, 0)) (by (with_reducible repeat (first | refine blk_drewN ?_ _ | refine blk_drew ?_ | refine blk_alloc ?_ _)); exact BK118.out) hb); have n1_ := Aside0.mk (blk_below (g := gb122) (o := .cells #[.bool t119, .bool t120, .bool t121] 23 (0, 0)) (by (with_reducible repeat (first | refine blk_drewN ?_ _ | refine blk_drew ?_ | refine blk_alloc ?_ _)); exact BK122.out) hb); have n2_ := Aside0.mk (below_step (by repeat (first | (with_reducible first | exact HB.out | apply below_alloc | apply pw_below_drewN | apply below_drew1 | refine below_set ?_ GE118.out | refine below_set ?_ GE122.out) | exact HB.out)) hb); have n3_ := Aside0.mk (hbox); have n4_ := Aside0.mk ((by rw [hg]; exact (below_size (by repeat (first | (with_reducible first | exact HB.out | apply below_alloc | apply pw_below_drewN | apply below_drew1 | refine below_set ?_ GE118.out | refine below_set ?_ GE122.out) | exact HB.out))) : w.heap.size ≤ gb127)); have n5_ := Aside0.mk ((by rw [hg]; exact (below_size (by repeat (first | (with_reducible first | exact HB.out | apply below_alloc | apply pw_below_drewN | apply below_drew1 | refine below_set ?_ GE118.out | refine below_set ?_ GE122.out) | exact HB.out))) : w.heap.size ≤ gb127)); have n6_ := Aside0.mk ((by rw [hg]; exact Nat.ne_of_lt (blk_lt (g := gb118) (o := .cells #[.bool a0_0, .bool a0_1, .bool a0_2] 23 (0, 0)) (by (with_reducible repeat (first | refine blk_drewN ?_ _ | refine blk_drew ?_ | refine blk_alloc ?_ _)); exact BK118.out)) : gb118 ≠ gb127)); have n7_ := Aside0.mk ((by rw [hg]; exact Nat.ne_of_gt (blk_lt (g := gb118) (o := .cells #[.bool a0_0, .bool a0_1, .bool a0_2] 23 (0, 0)) (by (with_reducible repeat (first | refine blk_drewN ?_ _ | refine blk_drew ?_ | refine blk_alloc ?_ _)); exact BK118.out)) : gb127 ≠ gb118)); have n8_ := Aside0.mk ((by rw [hg]; exact Nat.ne_of_lt (blk_lt (g := gb122) (o := .cells #[.bool t119, .bool t120, .bool t121] 23 (0, 0)) (by (with_reducible repeat (first | refine blk_drewN ?_ _ | refine blk_drew ?_ | refine blk_alloc ?_ _)); exact BK122.out)) : gb122 ≠ gb127)); have n9_ := Aside0.mk ((by rw [hg]; exact Nat.ne_of_gt (blk_lt (g := gb122) (o := .cells #[.bool t119, .bool t120, .bool t121] 23 (0, 0)) (by (with_reducible repeat (first | refine blk_drewN ?_ _ | refine blk_drew ?_ | refine blk_alloc ?_ _)); exact BK122.out)) : gb127 ≠ gb122)); clear BK118; clear BK122; clear HB; have BK118 := n0_; have BK122 := n1_; have HB := n2_; have BK127 := n3_; have GW127 := n4_; have GE127 := n5_; have NB118_127 := n6_; have NB127_118 := n7_; have NB122_127 := n8_; have NB127_122 := n9_; clear n0_ n1_ n2_ n3_ n4_ n5_ n6_ n7_ n8_ n9_; clear hb hbox hg; have hnb16 := NB127_118.out; have hnc16 := NB118_127.out; have hnb17 := NB127_122.out; have hnc17 := NB122_127.out; have hcz18_0 : w15.cell? ⟨gb127, 0, none⟩ = some (.bool false) := (blk_cell BK127.out 0).trans rfl; have hcz18_1 : w15.cell? ⟨gb127, 1, none⟩ = some (.bool false) := (blk_cell BK127.out 1).trans rfl; have hcz18_2 : w15.cell? ⟨gb127, 2, none⟩ = some (.bool false) := (blk_cell BK127.out 2).trans rfl; have hfz18_0 := blk_frozen BK127.out 0; have hfz18_1 := blk_frozen BK127.out 1; have hfz18_2 := blk_frozen BK127.out 2; have hcz19_0 : w15.cell? ⟨gb118, 0, none⟩ = some (.bool a0_0) := (blk_cell BK118.out 0).trans rfl; have hcz19_1 : w15.cell? ⟨gb118, 1, none⟩ = some (.bool a0_1) := (blk_cell BK118.out 1).trans rfl; have hcz19_2 : w15.cell? ⟨gb118, 2, none⟩ = some (.bool a0_2) := (blk_cell BK118.out 2).trans rfl; have hfz19_0 := blk_frozen BK118.out 0; have hfz19_1 := blk_frozen BK118.out 1; have hfz19_2 := blk_frozen BK118.out 2) | ((with_reducible refine gate_callee (f := 8) rfl ?_); refine goesL_ (some 21) rfl rfl Try.func8 (by kernel_rfl) rfl #[.agg #[.bool a0_0, .bool a0_1, .bool a0_2]] rfl (by (try simp only [List.map_toArray, List.map_cons, List.map_nil]); first | done | rfl | (simp only [List.length_drop, List.length_take]; rfl) | (simp [Act.eval, *]; done)) ?_; (with_reducible refine (outage_Outage_Continue.calls a0_0 a0_1 a0_2 t128 t129 t130 t131 _ A5.out).mono ?_); rintro e w20 ⟨rfl, hb⟩; refine ⟨_, rfl, ?_⟩; have n0_ := Aside0.mk (blk_below (g := gb118) (o := .cells #[.bool a0_0, .bool a0_1, .bool a0_2] 23 (0, 0)) (by (with_reducible repeat (first | refine blk_drewN ?_ _ | refine blk_drew ?_ | refine blk_alloc ?_ _)); refine blk_far ?_ NB118_127.out _; (with_reducible repeat (first | refine blk_drewN ?_ _ | refine blk_drew ?_ | refine blk_alloc ?_ _)); refine blk_far ?_ NB118_127.out _; (with_reducible repeat (first | refine blk_drewN ?_ _ | refine blk_drew ?_ | refine blk_alloc ?_ _)); refine blk_far ?_ NB118_127.out _; (with_reducible repeat (first | refine blk_drewN ?_ _ | refine blk_drew ?_ | refine blk_alloc ?_ _)); exact BK118.out) hb); have n1_ := Aside0.mk (blk_below (g := gb122) (o := .cells #[.bool t119, .bool t120, .bool t121] 23 (0, 0)) (by (with_reducible repeat (first | refine blk_drewN ?_ _ | refine blk_drew ?_ | refine blk_alloc ?_ _)); refine blk_far ?_ NB122_127.out _; (with_reducible repeat (first | refine blk_drewN ?_ _ | refine blk_drew ?_ | refine blk_alloc ?_ _)); refine blk_far ?_ NB122_127.out _; (with_reducible repeat (first | refine blk_drewN ?_ _ | refine blk_drew ?_ | refine blk_alloc ?_ _)); refine blk_far ?_ NB122_127.out _; (with_reducible repeat (first | refine blk_drewN ?_ _ | refine blk_drew ?_ | refine blk_alloc ?_ _)); exact BK122.out) hb); have n2_ := Aside0.mk (blk_below (g := gb127) (o := .cells #[.bool t123, .bool t124, .bool t125] 23 (0, 0)) (by (with_reducible repeat (first | refine blk_drewN ?_ _ | refine blk_drew ?_ | refine blk_alloc ?_ _)); refine blk_put (cs := #[.bool t123, .bool t124, .bool false]) ?_ 2 _ rfl; (with_reducible repeat (first | refine blk_drewN ?_ _ | refine blk_drew ?_ | refine blk_alloc ?_ _)); refine blk_put (cs := #[.bool t123, .bool false, .bool false]) ?_ 1 _ rfl; (with_reducible repeat (first | refine blk_drewN ?_ _ | refine blk_drew ?_ | refine blk_alloc ?_ _)); refine blk_put (cs := #[.bool false, .bool false, .bool false]) ?_ 0 _ rfl; (with_reducible repeat (first | refine blk_drewN ?_ _ | refine blk_drew ?_ | refine blk_alloc ?_ _)); exact BK127.out) hb); have n3_ := Aside0.mk (below_step (by repeat (first | (with_reducible first | exact HB.out | apply below_alloc | apply pw_below_drewN | apply below_drew1 | refine below_set ?_ GE118.out | refine below_set ?_ GE122.out | refine below_set ?_ GE127.out) | exact HB.out)) hb); clear BK118; clear BK122; clear BK127; clear HB; have BK118 := n0_; have BK122 := n1_; have BK127 := n2_; have HB := n3_; clear n0_ n1_ n2_ n3_; (try clear hb); (try clear hb2); (try clear hk); (try clear hi)) | ((with_reducible refine gate_dst (N := 8) rfl ?_); refine box_event ?hg (N := 8) ?hd (cs := #[.bool false, .bool false, .bool false]) (t := 23) ?hr ?_; (case hd => rfl); (case hg => rfl); (case hr => first | (go_simp; done) | (go_simp; rfl)); intro gb132 hg w21 hbox hb; have n0_ := Aside0.mk (blk_below (g := gb118) (o := .cells #[.bool a0_0, .bool a0_1, .bool a0_2] 23 (0, 0)) (by (with_reducible repeat (first | refine blk_drewN ?_ _ | refine blk_drew ?_ | refine blk_alloc ?_ _)); exact BK118.out) hb); have n1_ := Aside0.mk (blk_below (g := gb122) (o := .cells #[.bool t119, .bool t120, .bool t121] 23 (0, 0)) (by (with_reducible repeat (first | refine blk_drewN ?_ _ | refine blk_drew ?_ | refine blk_alloc ?_ _)); exact BK122.out) hb); have n2_ := Aside0.mk (blk_below (g := gb127) (o := .cells #[.bool t123, .bool t124, .bool t125] 23 (0, 0)) (by (with_reducible repeat (first | refine blk_drewN ?_ _ | refine blk_drew ?_ | refine blk_alloc ?_ _)); exact BK127.out) hb); have n3_ := Aside0.mk (below_step (by repeat (first | (with_reducible first | exact HB.out | apply below_alloc | apply pw_below_drewN | apply below_drew1 | refine below_set ?_ GE118.out | refine below_set ?_ GE122.out | refine below_set ?_ GE127.out) | exact HB.out)) hb); have n4_ := Aside0.mk (hbox); have n5_ := Aside0.mk ((by rw [hg]; exact (below_size (by repeat (first | (with_reducible first | exact HB.out | apply below_alloc | apply pw_below_drewN | apply below_drew1 | refine below_set ?_ GE118.out | refine below_set ?_ GE122.out | refine below_set ?_ GE127.out) | exact HB.out))) : w.heap.size ≤ gb132)); have n6_ := Aside0.mk ((by rw [hg]; exact (below_size (by repeat (first | (with_reducible first | exact HB.out | apply below_alloc | apply pw_below_drewN | apply below_drew1 | refine below_set ?_ GE118.out | refine below_set ?_ GE122.out | refine below_set ?_ GE127.out) | exact HB.out))) : w.heap.size ≤ gb132)); have n7_ := Aside0.mk ((by rw [hg]; exact Nat.ne_of_lt (blk_lt (g := gb118) (o := .cells #[.bool a0_0, .bool a0_1, .bool a0_2] 23 (0, 0)) (by (with_reducible repeat (first | refine blk_drewN ?_ _ | refine blk_drew ?_ | refine blk_alloc ?_ _)); exact BK118.out)) : gb118 ≠ gb132)); have n8_ := Aside0.mk ((by rw [hg]; exact Nat.ne_of_gt (blk_lt (g := gb118) (o := .cells #[.bool a0_0, .bool a0_1, .bool a0_2] 23 (0, 0)) (by (with_reducible repeat (first | refine blk_drewN ?_ _ | refine blk_drew ?_ | refine blk_alloc ?_ _)); exact BK118.out)) : gb132 ≠ gb118)); have n9_ := Aside0.mk ((by rw [hg]; exact Nat.ne_of_lt (blk_lt (g := gb122) (o := .cells #[.bool t119, .bool t120, .bool t121] 23 (0, 0)) (by (with_reducible repeat (first | refine blk_drewN ?_ _ | refine blk_drew ?_ | refine blk_alloc ?_ _)); exact BK122.out)) : gb122 ≠ gb132)); have n10_ := Aside0.mk ((by rw [hg]; exact Nat.ne_of_gt (blk_lt (g := gb122) (o := .cells #[.bool t119, .bool t120, .bool t121] 23 (0, 0)) (by (with_reducible repeat (first | refine blk_drewN ?_ _ | refine blk_drew ?_ | refine blk_alloc ?_ _)); exact BK122.out)) : gb132 ≠ gb122)); have n11_ := Aside0.mk ((by rw [hg]; exact Nat.ne_of_lt (blk_lt (g := gb127) (o := .cells #[.bool t123, .bool t124, .bool t125] 23 (0, 0)) (by (with_reducible repeat (first | refine blk_drewN ?_ _ | refine blk_drew ?_ | refine blk_alloc ?_ _)); exact BK127.out)) : gb127 ≠ gb132)); have n12_ := Aside0.mk ((by rw [hg]; exact Nat.ne_of_gt (blk_lt (g := gb127) (o := .cells #[.bool t123, .bool t124, .bool t125] 23 (0, 0)) (by (with_reducible repeat (first | refine blk_drewN ?_ _ | refine blk_drew ?_ | refine blk_alloc ?_ _)); exact BK127.out)) : gb132 ≠ gb127)); clear BK118; clear BK122; clear BK127; clear HB; have BK118 := n0_; have BK122 := n1_; have BK127 := n2_; have HB := n3_; have BK132 := n4_; have GW132 := n5_; have GE132 := n6_; have NB118_132 := n7_; have NB132_118 := n8_; have NB122_132 := n9_; have NB132_122 := n10_; have NB127_132 := n11_; have NB132_127 := n12_; clear n0_ n1_ n2_ n3_ n4_ n5_ n6_ n7_ n8_ n9_ n10_ n11_ n12_; clear hb hbox hg; have hnb22 := NB132_118.out; have hnc22 := NB118_132.out; have hnb23 := NB132_122.out; have hnc23 := NB122_132.out; have hnb24 := NB132_127.out; have hnc24 := NB127_132.out; have hcz25_0 : w21.cell? ⟨gb132, 0, none⟩ = some (.bool false) := (blk_cell BK132.out 0).trans rfl; have hcz25_1 : w21.cell? ⟨gb132, 1, none⟩ = some (.bool false) := (blk_cell BK132.out 1).trans rfl; have hcz25_2 : w21.cell? ⟨gb132, 2, none⟩ = some (.bool false) := (blk_cell BK132.out 2).trans rfl; have hfz25_0 := blk_frozen BK132.out 0; have hfz25_1 := blk_frozen BK132.out 1; have hfz25_2 := blk_frozen BK132.out 2))
  (try simp only [Act.put, List.setIfInBounds_toArray, List.set_cons_zero, List.set_cons_succ])
  go_cut [45] (fun v45 wc => ∃ (kq : Nat) (x45_5 : Bool), v45 = .bool x45_5 ∧ Aside0 (signalmanlaw15_OutageSteps.j0 kq a1 t126 t131 x45_5 a0_0 a0_1 a0_2 t123 t124 t125 t128 t129 t130 = some r) ∧ Aside0 (kq ≤ k) ∧ Aside0 (wc.heap[gb118]? = some (.cells #[.bool a0_0, .bool a0_1, .bool a0_2] 23 (0, 0))) ∧ Aside0 (wc.heap[gb122]? = some (.cells #[.bool t119, .bool t120, .bool t121] 23 (0, 0))) ∧ Aside0 (wc.heap[gb127]? = some (.cells #[.bool t123, .bool t124, .bool t125] 23 (0, 0))) ∧ Aside0 (wc.heap[gb132]? = some (.cells #[.bool t128, .bool t129, .bool t130] 23 (0, 0))) ∧ Aside0 (Below w.heap.size w wc))
  case first =>
    have H := HC6.out
    clear HC6
    replace H := Option.bind_eq_some_iff.mp H
    obtain ⟨t133, A260, H⟩ := H
    replace H : (if t133 = true then (if (t119 != a1) = true then (signalmanlaw15_OutageSteps.j0 k a1 t126 t131 true a0_0 a0_1 a0_2 t123 t124 t125 t128 t129 t130) else (if (t120 != a0_1) = true then (signalmanlaw15_OutageSteps.j0 k a1 t126 t131 true a0_0 a0_1 a0_2 t123 t124 t125 t128 t129 t130) else (signalmanlaw15_OutageSteps.j0 k a1 t126 t131 (t121 != a0_2) a0_0 a0_1 a0_2 t123 t124 t125 t128 t129 t130))) else (signalmanlaw15_OutageSteps.j0 k a1 t126 t131 true a0_0 a0_1 a0_2 t123 t124 t125 t128 t129 t130)) = some r := H
    have A26 := Aside0.mk A260
    clear A260
    by_cases c27 : t133 = true
    · subst c27
      have H1 : (if (t119 != a1) = true then (signalmanlaw15_OutageSteps.j0 k a1 t126 t131 true a0_0 a0_1 a0_2 t123 t124 t125 t128 t129 t130) else (if (t120 != a0_1) = true then (signalmanlaw15_OutageSteps.j0 k a1 t126 t131 true a0_0 a0_1 a0_2 t123 t124 t125 t128 t129 t130) else (signalmanlaw15_OutageSteps.j0 k a1 t126 t131 (t121 != a0_2) a0_0 a0_1 a0_2 t123 t124 t125 t128 t129 t130))) = some r := by rw [if_pos rfl] at H; exact H
      clear H
      have H := H1
      clear H1
      by_cases c28 : (t119 != a1) = true
      · rw [if_pos c28] at H
        have c28b0 : (t119 != a1) = true := c28
        (try (have c28b1 : decide (t119 = a1) = false := by simpa using c28))
        (try (have c28b2 : (t119 == a1) = false := by simpa using c28))
        (try (have c28b3 : ¬ (t119 = a1) := by simpa using c28))
        clear c28
        (first | rw [c28b0] | (simp only [i64_w, i32_w]; rw [c28b0]) | skip)
        have H' := Aside0.mk H
        clear H
        go_wp2_with (first | ((with_reducible refine gate_callee (f := 9) rfl ?_); refine goesL_ (some 24) rfl rfl Try.func9 (by kernel_rfl) rfl #[] rfl (by (try simp only [List.map_toArray, List.map_cons, List.map_nil]); first | done | rfl | (simp only [List.length_drop, List.length_take]; rfl) | (simp [Act.eval, *]; done)) ?_; (with_reducible refine (signalmanlaw15_awake.calls  true _ A26.out).mono ?_); rintro e w29 ⟨rfl, hb⟩; refine ⟨_, rfl, ?_⟩; have n0_ := Aside0.mk (blk_below (g := gb118) (o := .cells #[.bool a0_0, .bool a0_1, .bool a0_2] 23 (0, 0)) (by (with_reducible repeat (first | refine blk_drewN ?_ _ | refine blk_drew ?_ | refine blk_alloc ?_ _)); refine blk_far ?_ NB118_132.out _; (with_reducible repeat (first | refine blk_drewN ?_ _ | refine blk_drew ?_ | refine blk_alloc ?_ _)); refine blk_far ?_ NB118_132.out _; (with_reducible repeat (first | refine blk_drewN ?_ _ | refine blk_drew ?_ | refine blk_alloc ?_ _)); refine blk_far ?_ NB118_132.out _; (with_reducible repeat (first | refine blk_drewN ?_ _ | refine blk_drew ?_ | refine blk_alloc ?_ _)); exact BK118.out) hb); have n1_ := Aside0.mk (blk_below (g := gb122) (o := .cells #[.bool t119, .bool t120, .bool t121] 23 (0, 0)) (by (with_reducible repeat (first | refine blk_drewN ?_ _ | refine blk_drew ?_ | refine blk_alloc ?_ _)); refine blk_far ?_ NB122_132.out _; (with_reducible repeat (first | refine blk_drewN ?_ _ | refine blk_drew ?_ | refine blk_alloc ?_ _)); refine blk_far ?_ NB122_132.out _; (with_reducible repeat (first | refine blk_drewN ?_ _ | refine blk_drew ?_ | refine blk_alloc ?_ _)); refine blk_far ?_ NB122_132.out _; (with_reducible repeat (first | refine blk_drewN ?_ _ | refine blk_drew ?_ | refine blk_alloc ?_ _)); exact BK122.out) hb); have n2_ := Aside0.mk (blk_below (g := gb127) (o := .cells #[.bool t123, .bool t124, .bool t125] 23 (0, 0)) (by (with_reducible repeat (first | refine blk_drewN ?_ _ | refine blk_drew ?_ | refine blk_alloc ?_ _)); refine blk_far ?_ NB127_132.out _; (with_reducible repeat (first | refine blk_drewN ?_ _ | refine blk_drew ?_ | refine blk_alloc ?_ _)); refine blk_far ?_ NB127_132.out _; (with_reducible repeat (first | refine blk_drewN ?_ _ | refine blk_drew ?_ | refine blk_alloc ?_ _)); refine blk_far ?_ NB127_132.out _; (with_reducible repeat (first | refine blk_drewN ?_ _ | refine blk_drew ?_ | refine blk_alloc ?_ _)); exact BK127.out) hb); have n3_ := Aside0.mk (blk_below (g := gb132) (o := .cells #[.bool t128, .bool t129, .bool t130] 23 (0, 0)) (by (with_reducible repeat (first | refine blk_drewN ?_ _ | refine blk_drew ?_ | refine blk_alloc ?_ _)); refine blk_put (cs := #[.bool t128, .bool t129, .bool false]) ?_ 2 _ rfl; (with_reducible repeat (first | refine blk_drewN ?_ _ | refine blk_drew ?_ | refine blk_alloc ?_ _)); refine blk_put (cs := #[.bool t128, .bool false, .bool false]) ?_ 1 _ rfl; (with_reducible repeat (first | refine blk_drewN ?_ _ | refine blk_drew ?_ | refine blk_alloc ?_ _)); refine blk_put (cs := #[.bool false, .bool false, .bool false]) ?_ 0 _ rfl; (with_reducible repeat (first | refine blk_drewN ?_ _ | refine blk_drew ?_ | refine blk_alloc ?_ _)); exact BK132.out) hb); have n4_ := Aside0.mk (below_step (by repeat (first | (with_reducible first | exact HB.out | apply below_alloc | apply pw_below_drewN | apply below_drew1 | refine below_set ?_ GE118.out | refine below_set ?_ GE122.out | refine below_set ?_ GE127.out | refine below_set ?_ GE132.out) | exact HB.out)) hb); clear BK118; clear BK122; clear BK127; clear BK132; clear HB; have BK118 := n0_; have BK122 := n1_; have BK127 := n2_; have BK132 := n3_; have HB := n4_; clear n0_ n1_ n2_ n3_ n4_; (try clear hb); (try clear hb2); (try clear hk); (try clear hi); have hnb30 := NB122_118.out; have hnc30 := NB118_122.out; have hnb31 := NB122_127.out; have hnc31 := NB127_122.out; have hnb32 := NB122_132.out; have hnc32 := NB132_122.out; have hcz33_0 : w29.cell? ⟨gb122, 0, none⟩ = some (.bool t119) := (blk_cell BK122.out 0).trans rfl; have hcz33_1 : w29.cell? ⟨gb122, 1, none⟩ = some (.bool t120) := (blk_cell BK122.out 1).trans rfl; have hcz33_2 : w29.cell? ⟨gb122, 2, none⟩ = some (.bool t121) := (blk_cell BK122.out 2).trans rfl; have hfz33_0 := blk_frozen BK122.out 0; have hfz33_1 := blk_frozen BK122.out 1; have hfz33_2 := blk_frozen BK122.out 2))
        go_meet
        case rel => exact ⟨_, (true), (by first | rfl | (simp; done) | (simp [*]; done)), H', ⟨by first | omega | exact Nat.le_refl _⟩, ⟨by (with_reducible repeat (first | refine blk_drewN ?_ _ | refine blk_drew ?_ | refine blk_alloc ?_ _)); exact BK118.out⟩, ⟨by (with_reducible repeat (first | refine blk_drewN ?_ _ | refine blk_drew ?_ | refine blk_alloc ?_ _)); exact BK122.out⟩, ⟨by (with_reducible repeat (first | refine blk_drewN ?_ _ | refine blk_drew ?_ | refine blk_alloc ?_ _)); exact BK127.out⟩, ⟨by (with_reducible repeat (first | refine blk_drewN ?_ _ | refine blk_drew ?_ | refine blk_alloc ?_ _)); exact BK132.out⟩, ⟨by repeat (first | (with_reducible first | exact HB.out | apply below_alloc | apply pw_below_drewN | apply below_drew1 | refine below_set ?_ GE118.out | refine below_set ?_ GE122.out | refine below_set ?_ GE127.out | refine below_set ?_ GE132.out) | exact HB.out)⟩⟩
      · rw [if_neg c28] at H
        have c28b0 : (t119 != a1) = false := by simpa using c28
        (try (have c28b1 : decide (t119 = a1) = true := by simpa using c28))
        (try (have c28b2 : (t119 == a1) = true := by simpa using c28))
        clear c28
        (first | rw [c28b0] | (simp only [i64_w, i32_w]; rw [c28b0]) | skip)
        by_cases c34 : (t120 != a0_1) = true
        · rw [if_pos c34] at H
          have c34b0 : (t120 != a0_1) = true := c34
          (try (have c34b1 : decide (t120 = a0_1) = false := by simpa using c34))
          (try (have c34b2 : (t120 == a0_1) = false := by simpa using c34))
          (try (have c34b3 : ¬ (t120 = a0_1) := by simpa using c34))
          clear c34
          have H' := Aside0.mk H
          clear H
          go_wp2_with (first | ((with_reducible refine gate_callee (f := 9) rfl ?_); refine goesL_ (some 24) rfl rfl Try.func9 (by kernel_rfl) rfl #[] rfl (by (try simp only [List.map_toArray, List.map_cons, List.map_nil]); first | done | rfl | (simp only [List.length_drop, List.length_take]; rfl) | (simp [Act.eval, *]; done)) ?_; (with_reducible refine (signalmanlaw15_awake.calls  true _ A26.out).mono ?_); rintro e w35 ⟨rfl, hb⟩; refine ⟨_, rfl, ?_⟩; have n0_ := Aside0.mk (blk_below (g := gb118) (o := .cells #[.bool a0_0, .bool a0_1, .bool a0_2] 23 (0, 0)) (by (with_reducible repeat (first | refine blk_drewN ?_ _ | refine blk_drew ?_ | refine blk_alloc ?_ _)); refine blk_far ?_ NB118_132.out _; (with_reducible repeat (first | refine blk_drewN ?_ _ | refine blk_drew ?_ | refine blk_alloc ?_ _)); refine blk_far ?_ NB118_132.out _; (with_reducible repeat (first | refine blk_drewN ?_ _ | refine blk_drew ?_ | refine blk_alloc ?_ _)); refine blk_far ?_ NB118_132.out _; (with_reducible repeat (first | refine blk_drewN ?_ _ | refine blk_drew ?_ | refine blk_alloc ?_ _)); exact BK118.out) hb); have n1_ := Aside0.mk (blk_below (g := gb122) (o := .cells #[.bool t119, .bool t120, .bool t121] 23 (0, 0)) (by (with_reducible repeat (first | refine blk_drewN ?_ _ | refine blk_drew ?_ | refine blk_alloc ?_ _)); refine blk_far ?_ NB122_132.out _; (with_reducible repeat (first | refine blk_drewN ?_ _ | refine blk_drew ?_ | refine blk_alloc ?_ _)); refine blk_far ?_ NB122_132.out _; (with_reducible repeat (first | refine blk_drewN ?_ _ | refine blk_drew ?_ | refine blk_alloc ?_ _)); refine blk_far ?_ NB122_132.out _; (with_reducible repeat (first | refine blk_drewN ?_ _ | refine blk_drew ?_ | refine blk_alloc ?_ _)); exact BK122.out) hb); have n2_ := Aside0.mk (blk_below (g := gb127) (o := .cells #[.bool t123, .bool t124, .bool t125] 23 (0, 0)) (by (with_reducible repeat (first | refine blk_drewN ?_ _ | refine blk_drew ?_ | refine blk_alloc ?_ _)); refine blk_far ?_ NB127_132.out _; (with_reducible repeat (first | refine blk_drewN ?_ _ | refine blk_drew ?_ | refine blk_alloc ?_ _)); refine blk_far ?_ NB127_132.out _; (with_reducible repeat (first | refine blk_drewN ?_ _ | refine blk_drew ?_ | refine blk_alloc ?_ _)); refine blk_far ?_ NB127_132.out _; (with_reducible repeat (first | refine blk_drewN ?_ _ | refine blk_drew ?_ | refine blk_alloc ?_ _)); exact BK127.out) hb); have n3_ := Aside0.mk (blk_below (g := gb132) (o := .cells #[.bool t128, .bool t129, .bool t130] 23 (0, 0)) (by (with_reducible repeat (first | refine blk_drewN ?_ _ | refine blk_drew ?_ | refine blk_alloc ?_ _)); refine blk_put (cs := #[.bool t128, .bool t129, .bool false]) ?_ 2 _ rfl; (with_reducible repeat (first | refine blk_drewN ?_ _ | refine blk_drew ?_ | refine blk_alloc ?_ _)); refine blk_put (cs := #[.bool t128, .bool false, .bool false]) ?_ 1 _ rfl; (with_reducible repeat (first | refine blk_drewN ?_ _ | refine blk_drew ?_ | refine blk_alloc ?_ _)); refine blk_put (cs := #[.bool false, .bool false, .bool false]) ?_ 0 _ rfl; (with_reducible repeat (first | refine blk_drewN ?_ _ | refine blk_drew ?_ | refine blk_alloc ?_ _)); exact BK132.out) hb); have n4_ := Aside0.mk (below_step (by repeat (first | (with_reducible first | exact HB.out | apply below_alloc | apply pw_below_drewN | apply below_drew1 | refine below_set ?_ GE118.out | refine below_set ?_ GE122.out | refine below_set ?_ GE127.out | refine below_set ?_ GE132.out) | exact HB.out)) hb); clear BK118; clear BK122; clear BK127; clear BK132; clear HB; have BK118 := n0_; have BK122 := n1_; have BK127 := n2_; have BK132 := n3_; have HB := n4_; clear n0_ n1_ n2_ n3_ n4_; (try clear hb); (try clear hb2); (try clear hk); (try clear hi); have hnb36 := NB122_118.out; have hnc36 := NB118_122.out; have hnb37 := NB122_127.out; have hnc37 := NB127_122.out; have hnb38 := NB122_132.out; have hnc38 := NB132_122.out; have hcz39_0 : w35.cell? ⟨gb122, 0, none⟩ = some (.bool t119) := (blk_cell BK122.out 0).trans rfl; have hcz39_1 : w35.cell? ⟨gb122, 1, none⟩ = some (.bool t120) := (blk_cell BK122.out 1).trans rfl; have hcz39_2 : w35.cell? ⟨gb122, 2, none⟩ = some (.bool t121) := (blk_cell BK122.out 2).trans rfl; have hfz39_0 := blk_frozen BK122.out 0; have hfz39_1 := blk_frozen BK122.out 1; have hfz39_2 := blk_frozen BK122.out 2; have hnb40 := NB118_127.out; have hnc40 := NB127_118.out; have hnb41 := NB118_132.out; have hnc41 := NB132_118.out; have hcz42_0 : w35.cell? ⟨gb118, 0, none⟩ = some (.bool a0_0) := (blk_cell BK118.out 0).trans rfl; have hcz42_1 : w35.cell? ⟨gb118, 1, none⟩ = some (.bool a0_1) := (blk_cell BK118.out 1).trans rfl; have hcz42_2 : w35.cell? ⟨gb118, 2, none⟩ = some (.bool a0_2) := (blk_cell BK118.out 2).trans rfl; have hfz42_0 := blk_frozen BK118.out 0; have hfz42_1 := blk_frozen BK118.out 1; have hfz42_2 := blk_frozen BK118.out 2))
          go_meet
          case rel => exact ⟨_, (true), (by first | rfl | (simp; done) | (simp [*]; done)), H', ⟨by first | omega | exact Nat.le_refl _⟩, ⟨by (with_reducible repeat (first | refine blk_drewN ?_ _ | refine blk_drew ?_ | refine blk_alloc ?_ _)); exact BK118.out⟩, ⟨by (with_reducible repeat (first | refine blk_drewN ?_ _ | refine blk_drew ?_ | refine blk_alloc ?_ _)); exact BK122.out⟩, ⟨by (with_reducible repeat (first | refine blk_drewN ?_ _ | refine blk_drew ?_ | refine blk_alloc ?_ _)); exact BK127.out⟩, ⟨by (with_reducible repeat (first | refine blk_drewN ?_ _ | refine blk_drew ?_ | refine blk_alloc ?_ _)); exact BK132.out⟩, ⟨by repeat (first | (with_reducible first | exact HB.out | apply below_alloc | apply pw_below_drewN | apply below_drew1 | refine below_set ?_ GE118.out | refine below_set ?_ GE122.out | refine below_set ?_ GE127.out | refine below_set ?_ GE132.out) | exact HB.out)⟩⟩
        · rw [if_neg c34] at H
          have c34b0 : (t120 != a0_1) = false := by simpa using c34
          (try (have c34b1 : decide (t120 = a0_1) = true := by simpa using c34))
          (try (have c34b2 : (t120 == a0_1) = true := by simpa using c34))
          clear c34
          have H' := Aside0.mk H
          clear H
          go_wp2_with (first | ((with_reducible refine gate_callee (f := 9) rfl ?_); refine goesL_ (some 24) rfl rfl Try.func9 (by kernel_rfl) rfl #[] rfl (by (try simp only [List.map_toArray, List.map_cons, List.map_nil]); first | done | rfl | (simp only [List.length_drop, List.length_take]; rfl) | (simp [Act.eval, *]; done)) ?_; (with_reducible refine (signalmanlaw15_awake.calls  true _ A26.out).mono ?_); rintro e w43 ⟨rfl, hb⟩; refine ⟨_, rfl, ?_⟩; have n0_ := Aside0.mk (blk_below (g := gb118) (o := .cells #[.bool a0_0, .bool a0_1, .bool a0_2] 23 (0, 0)) (by (with_reducible repeat (first | refine blk_drewN ?_ _ | refine blk_drew ?_ | refine blk_alloc ?_ _)); refine blk_far ?_ NB118_132.out _; (with_reducible repeat (first | refine blk_drewN ?_ _ | refine blk_drew ?_ | refine blk_alloc ?_ _)); refine blk_far ?_ NB118_132.out _; (with_reducible repeat (first | refine blk_drewN ?_ _ | refine blk_drew ?_ | refine blk_alloc ?_ _)); refine blk_far ?_ NB118_132.out _; (with_reducible repeat (first | refine blk_drewN ?_ _ | refine blk_drew ?_ | refine blk_alloc ?_ _)); exact BK118.out) hb); have n1_ := Aside0.mk (blk_below (g := gb122) (o := .cells #[.bool t119, .bool t120, .bool t121] 23 (0, 0)) (by (with_reducible repeat (first | refine blk_drewN ?_ _ | refine blk_drew ?_ | refine blk_alloc ?_ _)); refine blk_far ?_ NB122_132.out _; (with_reducible repeat (first | refine blk_drewN ?_ _ | refine blk_drew ?_ | refine blk_alloc ?_ _)); refine blk_far ?_ NB122_132.out _; (with_reducible repeat (first | refine blk_drewN ?_ _ | refine blk_drew ?_ | refine blk_alloc ?_ _)); refine blk_far ?_ NB122_132.out _; (with_reducible repeat (first | refine blk_drewN ?_ _ | refine blk_drew ?_ | refine blk_alloc ?_ _)); exact BK122.out) hb); have n2_ := Aside0.mk (blk_below (g := gb127) (o := .cells #[.bool t123, .bool t124, .bool t125] 23 (0, 0)) (by (with_reducible repeat (first | refine blk_drewN ?_ _ | refine blk_drew ?_ | refine blk_alloc ?_ _)); refine blk_far ?_ NB127_132.out _; (with_reducible repeat (first | refine blk_drewN ?_ _ | refine blk_drew ?_ | refine blk_alloc ?_ _)); refine blk_far ?_ NB127_132.out _; (with_reducible repeat (first | refine blk_drewN ?_ _ | refine blk_drew ?_ | refine blk_alloc ?_ _)); refine blk_far ?_ NB127_132.out _; (with_reducible repeat (first | refine blk_drewN ?_ _ | refine blk_drew ?_ | refine blk_alloc ?_ _)); exact BK127.out) hb); have n3_ := Aside0.mk (blk_below (g := gb132) (o := .cells #[.bool t128, .bool t129, .bool t130] 23 (0, 0)) (by (with_reducible repeat (first | refine blk_drewN ?_ _ | refine blk_drew ?_ | refine blk_alloc ?_ _)); refine blk_put (cs := #[.bool t128, .bool t129, .bool false]) ?_ 2 _ rfl; (with_reducible repeat (first | refine blk_drewN ?_ _ | refine blk_drew ?_ | refine blk_alloc ?_ _)); refine blk_put (cs := #[.bool t128, .bool false, .bool false]) ?_ 1 _ rfl; (with_reducible repeat (first | refine blk_drewN ?_ _ | refine blk_drew ?_ | refine blk_alloc ?_ _)); refine blk_put (cs := #[.bool false, .bool false, .bool false]) ?_ 0 _ rfl; (with_reducible repeat (first | refine blk_drewN ?_ _ | refine blk_drew ?_ | refine blk_alloc ?_ _)); exact BK132.out) hb); have n4_ := Aside0.mk (below_step (by repeat (first | (with_reducible first | exact HB.out | apply below_alloc | apply pw_below_drewN | apply below_drew1 | refine below_set ?_ GE118.out | refine below_set ?_ GE122.out | refine below_set ?_ GE127.out | refine below_set ?_ GE132.out) | exact HB.out)) hb); clear BK118; clear BK122; clear BK127; clear BK132; clear HB; have BK118 := n0_; have BK122 := n1_; have BK127 := n2_; have BK132 := n3_; have HB := n4_; clear n0_ n1_ n2_ n3_ n4_; (try clear hb); (try clear hb2); (try clear hk); (try clear hi); have hnb44 := NB122_118.out; have hnc44 := NB118_122.out; have hnb45 := NB122_127.out; have hnc45 := NB127_122.out; have hnb46 := NB122_132.out; have hnc46 := NB132_122.out; have hcz47_0 : w43.cell? ⟨gb122, 0, none⟩ = some (.bool t119) := (blk_cell BK122.out 0).trans rfl; have hcz47_1 : w43.cell? ⟨gb122, 1, none⟩ = some (.bool t120) := (blk_cell BK122.out 1).trans rfl; have hcz47_2 : w43.cell? ⟨gb122, 2, none⟩ = some (.bool t121) := (blk_cell BK122.out 2).trans rfl; have hfz47_0 := blk_frozen BK122.out 0; have hfz47_1 := blk_frozen BK122.out 1; have hfz47_2 := blk_frozen BK122.out 2; have hnb48 := NB118_127.out; have hnc48 := NB127_118.out; have hnb49 := NB118_132.out; have hnc49 := NB132_118.out; have hcz50_0 : w43.cell? ⟨gb118, 0, none⟩ = some (.bool a0_0) := (blk_cell BK118.out 0).trans rfl; have hcz50_1 : w43.cell? ⟨gb118, 1, none⟩ = some (.bool a0_1) := (blk_cell BK118.out 1).trans rfl; have hcz50_2 : w43.cell? ⟨gb118, 2, none⟩ = some (.bool a0_2) := (blk_cell BK118.out 2).trans rfl; have hfz50_0 := blk_frozen BK118.out 0; have hfz50_1 := blk_frozen BK118.out 1; have hfz50_2 := blk_frozen BK118.out 2))
          go_meet
          case rel => exact ⟨_, ((t121 != a0_2)), (by first | rfl | (simp; done) | (simp [*]; done)), H', ⟨by first | omega | exact Nat.le_refl _⟩, ⟨by (with_reducible repeat (first | refine blk_drewN ?_ _ | refine blk_drew ?_ | refine blk_alloc ?_ _)); exact BK118.out⟩, ⟨by (with_reducible repeat (first | refine blk_drewN ?_ _ | refine blk_drew ?_ | refine blk_alloc ?_ _)); exact BK122.out⟩, ⟨by (with_reducible repeat (first | refine blk_drewN ?_ _ | refine blk_drew ?_ | refine blk_alloc ?_ _)); exact BK127.out⟩, ⟨by (with_reducible repeat (first | refine blk_drewN ?_ _ | refine blk_drew ?_ | refine blk_alloc ?_ _)); exact BK132.out⟩, ⟨by repeat (first | (with_reducible first | exact HB.out | apply below_alloc | apply pw_below_drewN | apply below_drew1 | refine below_set ?_ GE118.out | refine below_set ?_ GE122.out | refine below_set ?_ GE127.out | refine below_set ?_ GE132.out) | exact HB.out)⟩⟩
    · replace c27 := Bool.eq_false_iff.mpr c27
      subst c27
      have H1 : (signalmanlaw15_OutageSteps.j0 k a1 t126 t131 true a0_0 a0_1 a0_2 t123 t124 t125 t128 t129 t130) = some r := by rw [if_neg (show ¬ (false = true) by decide)] at H; exact H
      clear H
      have H := H1
      clear H1
      have H' := Aside0.mk H
      clear H
      go_wp2_with (first | ((with_reducible refine gate_callee (f := 9) rfl ?_); refine goesL_ (some 24) rfl rfl Try.func9 (by kernel_rfl) rfl #[] rfl (by (try simp only [List.map_toArray, List.map_cons, List.map_nil]); first | done | rfl | (simp only [List.length_drop, List.length_take]; rfl) | (simp [Act.eval, *]; done)) ?_; (with_reducible refine (signalmanlaw15_awake.calls  false _ A26.out).mono ?_); rintro e w51 ⟨rfl, hb⟩; refine ⟨_, rfl, ?_⟩; have n0_ := Aside0.mk (blk_below (g := gb118) (o := .cells #[.bool a0_0, .bool a0_1, .bool a0_2] 23 (0, 0)) (by (with_reducible repeat (first | refine blk_drewN ?_ _ | refine blk_drew ?_ | refine blk_alloc ?_ _)); refine blk_far ?_ NB118_132.out _; (with_reducible repeat (first | refine blk_drewN ?_ _ | refine blk_drew ?_ | refine blk_alloc ?_ _)); refine blk_far ?_ NB118_132.out _; (with_reducible repeat (first | refine blk_drewN ?_ _ | refine blk_drew ?_ | refine blk_alloc ?_ _)); refine blk_far ?_ NB118_132.out _; (with_reducible repeat (first | refine blk_drewN ?_ _ | refine blk_drew ?_ | refine blk_alloc ?_ _)); exact BK118.out) hb); have n1_ := Aside0.mk (blk_below (g := gb122) (o := .cells #[.bool t119, .bool t120, .bool t121] 23 (0, 0)) (by (with_reducible repeat (first | refine blk_drewN ?_ _ | refine blk_drew ?_ | refine blk_alloc ?_ _)); refine blk_far ?_ NB122_132.out _; (with_reducible repeat (first | refine blk_drewN ?_ _ | refine blk_drew ?_ | refine blk_alloc ?_ _)); refine blk_far ?_ NB122_132.out _; (with_reducible repeat (first | refine blk_drewN ?_ _ | refine blk_drew ?_ | refine blk_alloc ?_ _)); refine blk_far ?_ NB122_132.out _; (with_reducible repeat (first | refine blk_drewN ?_ _ | refine blk_drew ?_ | refine blk_alloc ?_ _)); exact BK122.out) hb); have n2_ := Aside0.mk (blk_below (g := gb127) (o := .cells #[.bool t123, .bool t124, .bool t125] 23 (0, 0)) (by (with_reducible repeat (first | refine blk_drewN ?_ _ | refine blk_drew ?_ | refine blk_alloc ?_ _)); refine blk_far ?_ NB127_132.out _; (with_reducible repeat (first | refine blk_drewN ?_ _ | refine blk_drew ?_ | refine blk_alloc ?_ _)); refine blk_far ?_ NB127_132.out _; (with_reducible repeat (first | refine blk_drewN ?_ _ | refine blk_drew ?_ | refine blk_alloc ?_ _)); refine blk_far ?_ NB127_132.out _; (with_reducible repeat (first | refine blk_drewN ?_ _ | refine blk_drew ?_ | refine blk_alloc ?_ _)); exact BK127.out) hb); have n3_ := Aside0.mk (blk_below (g := gb132) (o := .cells #[.bool t128, .bool t129, .bool t130] 23 (0, 0)) (by (with_reducible repeat (first | refine blk_drewN ?_ _ | refine blk_drew ?_ | refine blk_alloc ?_ _)); refine blk_put (cs := #[.bool t128, .bool t129, .bool false]) ?_ 2 _ rfl; (with_reducible repeat (first | refine blk_drewN ?_ _ | refine blk_drew ?_ | refine blk_alloc ?_ _)); refine blk_put (cs := #[.bool t128, .bool false, .bool false]) ?_ 1 _ rfl; (with_reducible repeat (first | refine blk_drewN ?_ _ | refine blk_drew ?_ | refine blk_alloc ?_ _)); refine blk_put (cs := #[.bool false, .bool false, .bool false]) ?_ 0 _ rfl; (with_reducible repeat (first | refine blk_drewN ?_ _ | refine blk_drew ?_ | refine blk_alloc ?_ _)); exact BK132.out) hb); have n4_ := Aside0.mk (below_step (by repeat (first | (with_reducible first | exact HB.out | apply below_alloc | apply pw_below_drewN | apply below_drew1 | refine below_set ?_ GE118.out | refine below_set ?_ GE122.out | refine below_set ?_ GE127.out | refine below_set ?_ GE132.out) | exact HB.out)) hb); clear BK118; clear BK122; clear BK127; clear BK132; clear HB; have BK118 := n0_; have BK122 := n1_; have BK127 := n2_; have BK132 := n3_; have HB := n4_; clear n0_ n1_ n2_ n3_ n4_; (try clear hb); (try clear hb2); (try clear hk); (try clear hi)))
      go_meet
      case rel => exact ⟨_, (true), (by first | rfl | (simp; done) | (simp [*]; done)), H', ⟨by first | omega | exact Nat.le_refl _⟩, ⟨by (with_reducible repeat (first | refine blk_drewN ?_ _ | refine blk_drew ?_ | refine blk_alloc ?_ _)); exact BK118.out⟩, ⟨by (with_reducible repeat (first | refine blk_drewN ?_ _ | refine blk_drew ?_ | refine blk_alloc ?_ _)); exact BK122.out⟩, ⟨by (with_reducible repeat (first | refine blk_drewN ?_ _ | refine blk_drew ?_ | refine blk_alloc ?_ _)); exact BK127.out⟩, ⟨by (with_reducible repeat (first | refine blk_drewN ?_ _ | refine blk_drew ?_ | refine blk_alloc ?_ _)); exact BK132.out⟩, ⟨by repeat (first | (with_reducible first | exact HB.out | apply below_alloc | apply pw_below_drewN | apply below_drew1 | refine below_set ?_ GE118.out | refine below_set ?_ GE122.out | refine below_set ?_ GE127.out | refine below_set ?_ GE132.out) | exact HB.out)⟩⟩
  case rest =>
    clear HC6
    try clear c1
    try clear c2
    try clear p2
    try clear c3
    try clear c4
    try clear c6
    try clear c7
    try clear c8
    try clear c9
    try clear c11
    try clear c16
    try clear c17
    try clear c22
    try clear c23
    try clear c24
    try clear c27
    try clear c28
    try clear c28b0
    try clear c28b1
    try clear c28b2
    try clear c30
    try clear c31
    try clear c32
    try clear c34
    try clear c34b0
    try clear c34b1
    try clear c34b2
    try clear c36
    try clear c37
    try clear c38
    try clear c40
    try clear c41
    try clear c44
    try clear c45
    try clear c46
    try clear c48
    try clear c49
    try clear hcz12_0
    try clear hcz12_1
    try clear hcz12_2
    try clear hcz13_0
    try clear hcz13_1
    try clear hcz13_2
    try clear hcz18_0
    try clear hcz18_1
    try clear hcz18_2
    try clear hcz19_0
    try clear hcz19_1
    try clear hcz19_2
    try clear hcz25_0
    try clear hcz25_1
    try clear hcz25_2
    try clear hcz33_0
    try clear hcz33_1
    try clear hcz33_2
    try clear hcz39_0
    try clear hcz39_1
    try clear hcz39_2
    try clear hcz42_0
    try clear hcz42_1
    try clear hcz42_2
    try clear hcz47_0
    try clear hcz47_1
    try clear hcz47_2
    try clear hcz50_0
    try clear hcz50_1
    try clear hcz50_2
    try clear hcz8_0
    try clear hcz8_1
    try clear hcz8_2
    try clear hfz12_0
    try clear hfz12_1
    try clear hfz12_2
    try clear hfz13_0
    try clear hfz13_1
    try clear hfz13_2
    try clear hfz18_0
    try clear hfz18_1
    try clear hfz18_2
    try clear hfz19_0
    try clear hfz19_1
    try clear hfz19_2
    try clear hfz25_0
    try clear hfz25_1
    try clear hfz25_2
    try clear hfz33_0
    try clear hfz33_1
    try clear hfz33_2
    try clear hfz39_0
    try clear hfz39_1
    try clear hfz39_2
    try clear hfz42_0
    try clear hfz42_1
    try clear hfz42_2
    try clear hfz47_0
    try clear hfz47_1
    try clear hfz47_2
    try clear hfz50_0
    try clear hfz50_1
    try clear hfz50_2
    try clear hfz8_0
    try clear hfz8_1
    try clear hfz8_2
    obtain ⟨kq, x45_5, rfl, HA, HJ5, BK118, BK122, BK127, BK132, HB⟩ := hcut
    cases kq with
    | zero => exact absurd HA.out (by simp [signalmanlaw15_OutageSteps.j0])
    | succ kj5 =>
      have H := HA.out
      clear HA
      simp only [signalmanlaw15_OutageSteps.j0] at H
      by_cases c52 : x45_5 = true
      · subst c52
        have H1 : (some false) = some r := by rw [if_pos rfl] at H; exact H
        clear H
        have H := H1
        clear H1
        obtain rfl := Option.some.inj H
        go_wp2
        go_ret
        exact ⟨by first | rfl | (simp [errW_none, errW_some] <;> rfl) | (simp [*, errW_none, errW_some] <;> rfl), by repeat (first | (with_reducible first | exact HB.out | apply below_alloc | apply pw_below_drewN | apply below_drew1 | refine below_set ?_ GE118.out | refine below_set ?_ GE122.out | refine below_set ?_ GE127.out | refine below_set ?_ GE132.out) | exact HB.out)⟩
      · replace c52 := Bool.eq_false_iff.mpr c52
        subst c52
        have H1 : (if (t123 != a0_0) = true then (signalmanlaw15_OutageSteps.j1 kj5 t131 true a0_0 a0_1 a0_2 t128 t129 t130) else (if (t124 != a1) = true then (signalmanlaw15_OutageSteps.j1 kj5 t131 true a0_0 a0_1 a0_2 t128 t129 t130) else (if a0_2 = true then (if (t125 != true) = true then (signalmanlaw15_OutageSteps.j1 kj5 t131 true a0_0 a0_1 a0_2 t128 t129 t130) else (signalmanlaw15_OutageSteps.j1 kj5 t131 (t126 != (a0_1 != a1)) a0_0 a0_1 a0_2 t128 t129 t130)) else (if (t125 != a1) = true then (signalmanlaw15_OutageSteps.j1 kj5 t131 true a0_0 a0_1 a0_2 t128 t129 t130) else (signalmanlaw15_OutageSteps.j1 kj5 t131 (t126 != (a0_1 != a1)) a0_0 a0_1 a0_2 t128 t129 t130))))) = some r := by rw [if_neg (show ¬ (false = true) by decide)] at H; exact H
        clear H
        have H := H1
        clear H1
        have HC53 := Aside0.mk H
        clear H
        go_upto_region 6 with (fail)
        go_cut [74] (fun v74 wc => ∃ (kq : Nat) (x74_52 : Bool), v74 = .bool x74_52 ∧ Aside0 (signalmanlaw15_OutageSteps.j1 kq t131 x74_52 a0_0 a0_1 a0_2 t128 t129 t130 = some r) ∧ Aside0 (kq ≤ kj5) ∧ Aside0 (wc.heap[gb118]? = some (.cells #[.bool a0_0, .bool a0_1, .bool a0_2] 23 (0, 0))) ∧ Aside0 (wc.heap[gb122]? = some (.cells #[.bool t119, .bool t120, .bool t121] 23 (0, 0))) ∧ Aside0 (wc.heap[gb127]? = some (.cells #[.bool t123, .bool t124, .bool t125] 23 (0, 0))) ∧ Aside0 (wc.heap[gb132]? = some (.cells #[.bool t128, .bool t129, .bool t130] 23 (0, 0))) ∧ Aside0 (Below w.heap.size w wc))
        case first =>
          have H := HC53.out
          clear HC53
          by_cases c54 : (t123 != a0_0) = true
          · rw [if_pos c54] at H
            have c54b0 : (t123 != a0_0) = true := c54
            (try (have c54b1 : decide (t123 = a0_0) = false := by simpa using c54))
            (try (have c54b2 : (t123 == a0_0) = false := by simpa using c54))
            (try (have c54b3 : ¬ (t123 = a0_0) := by simpa using c54))
            clear c54
            (first | rw [c54b0] | (simp only [i64_w, i32_w]; rw [c54b0]) | skip)
            have H' := Aside0.mk H
            clear H
            have hnb55 := NB127_118.out
            have hnc55 := NB118_127.out
            have hnb56 := NB127_122.out
            have hnc56 := NB122_127.out
            have hnb57 := NB127_132.out
            have hnc57 := NB132_127.out
            have hcz58_0 : wc.cell? ⟨gb127, 0, none⟩ = some (.bool t123) := (blk_cell BK127.out 0).trans rfl
            have hcz58_1 : wc.cell? ⟨gb127, 1, none⟩ = some (.bool t124) := (blk_cell BK127.out 1).trans rfl
            have hcz58_2 : wc.cell? ⟨gb127, 2, none⟩ = some (.bool t125) := (blk_cell BK127.out 2).trans rfl
            have hfz58_0 := blk_frozen BK127.out 0
            have hfz58_1 := blk_frozen BK127.out 1
            have hfz58_2 := blk_frozen BK127.out 2
            have hnb59 := NB118_122.out
            have hnc59 := NB122_118.out
            have hnb60 := NB118_132.out
            have hnc60 := NB132_118.out
            have hcz61_0 : wc.cell? ⟨gb118, 0, none⟩ = some (.bool a0_0) := (blk_cell BK118.out 0).trans rfl
            have hcz61_1 : wc.cell? ⟨gb118, 1, none⟩ = some (.bool a0_1) := (blk_cell BK118.out 1).trans rfl
            have hcz61_2 : wc.cell? ⟨gb118, 2, none⟩ = some (.bool a0_2) := (blk_cell BK118.out 2).trans rfl
            have hfz61_0 := blk_frozen BK118.out 0
            have hfz61_1 := blk_frozen BK118.out 1
            have hfz61_2 := blk_frozen BK118.out 2
            go_wp2
            go_meet
            case rel => exact ⟨_, (true), (by first | rfl | (simp; done) | (simp [*]; done)), H', ⟨by have := HJ5.out; first | omega | exact Nat.le_refl _⟩, ⟨by (with_reducible repeat (first | refine blk_drewN ?_ _ | refine blk_drew ?_ | refine blk_alloc ?_ _)); exact BK118.out⟩, ⟨by (with_reducible repeat (first | refine blk_drewN ?_ _ | refine blk_drew ?_ | refine blk_alloc ?_ _)); exact BK122.out⟩, ⟨by (with_reducible repeat (first | refine blk_drewN ?_ _ | refine blk_drew ?_ | refine blk_alloc ?_ _)); exact BK127.out⟩, ⟨by (with_reducible repeat (first | refine blk_drewN ?_ _ | refine blk_drew ?_ | refine blk_alloc ?_ _)); exact BK132.out⟩, ⟨by repeat (first | (with_reducible first | exact HB.out | apply below_alloc | apply pw_below_drewN | apply below_drew1 | refine below_set ?_ GE118.out | refine below_set ?_ GE122.out | refine below_set ?_ GE127.out | refine below_set ?_ GE132.out) | exact HB.out)⟩⟩
          · rw [if_neg c54] at H
            have c54b0 : (t123 != a0_0) = false := by simpa using c54
            (try (have c54b1 : decide (t123 = a0_0) = true := by simpa using c54))
            (try (have c54b2 : (t123 == a0_0) = true := by simpa using c54))
            clear c54
            (first | rw [c54b0] | (simp only [i64_w, i32_w]; rw [c54b0]) | skip)
            by_cases c62 : (t124 != a1) = true
            · rw [if_pos c62] at H
              have c62b0 : (t124 != a1) = true := c62
              (try (have c62b1 : decide (t124 = a1) = false := by simpa using c62))
              (try (have c62b2 : (t124 == a1) = false := by simpa using c62))
              (try (have c62b3 : ¬ (t124 = a1) := by simpa using c62))
              clear c62
              have H' := Aside0.mk H
              clear H
              have hnb63 := NB127_118.out
              have hnc63 := NB118_127.out
              have hnb64 := NB127_122.out
              have hnc64 := NB122_127.out
              have hnb65 := NB127_132.out
              have hnc65 := NB132_127.out
              have hcz66_0 : wc.cell? ⟨gb127, 0, none⟩ = some (.bool t123) := (blk_cell BK127.out 0).trans rfl
              have hcz66_1 : wc.cell? ⟨gb127, 1, none⟩ = some (.bool t124) := (blk_cell BK127.out 1).trans rfl
              have hcz66_2 : wc.cell? ⟨gb127, 2, none⟩ = some (.bool t125) := (blk_cell BK127.out 2).trans rfl
              have hfz66_0 := blk_frozen BK127.out 0
              have hfz66_1 := blk_frozen BK127.out 1
              have hfz66_2 := blk_frozen BK127.out 2
              have hnb67 := NB118_122.out
              have hnc67 := NB122_118.out
              have hnb68 := NB118_132.out
              have hnc68 := NB132_118.out
              have hcz69_0 : wc.cell? ⟨gb118, 0, none⟩ = some (.bool a0_0) := (blk_cell BK118.out 0).trans rfl
              have hcz69_1 : wc.cell? ⟨gb118, 1, none⟩ = some (.bool a0_1) := (blk_cell BK118.out 1).trans rfl
              have hcz69_2 : wc.cell? ⟨gb118, 2, none⟩ = some (.bool a0_2) := (blk_cell BK118.out 2).trans rfl
              have hfz69_0 := blk_frozen BK118.out 0
              have hfz69_1 := blk_frozen BK118.out 1
              have hfz69_2 := blk_frozen BK118.out 2
              go_wp2
              go_meet
              case rel => exact ⟨_, (true), (by first | rfl | (simp; done) | (simp [*]; done)), H', ⟨by have := HJ5.out; first | omega | exact Nat.le_refl _⟩, ⟨by (with_reducible repeat (first | refine blk_drewN ?_ _ | refine blk_drew ?_ | refine blk_alloc ?_ _)); exact BK118.out⟩, ⟨by (with_reducible repeat (first | refine blk_drewN ?_ _ | refine blk_drew ?_ | refine blk_alloc ?_ _)); exact BK122.out⟩, ⟨by (with_reducible repeat (first | refine blk_drewN ?_ _ | refine blk_drew ?_ | refine blk_alloc ?_ _)); exact BK127.out⟩, ⟨by (with_reducible repeat (first | refine blk_drewN ?_ _ | refine blk_drew ?_ | refine blk_alloc ?_ _)); exact BK132.out⟩, ⟨by repeat (first | (with_reducible first | exact HB.out | apply below_alloc | apply pw_below_drewN | apply below_drew1 | refine below_set ?_ GE118.out | refine below_set ?_ GE122.out | refine below_set ?_ GE127.out | refine below_set ?_ GE132.out) | exact HB.out)⟩⟩
            · rw [if_neg c62] at H
              have c62b0 : (t124 != a1) = false := by simpa using c62
              (try (have c62b1 : decide (t124 = a1) = true := by simpa using c62))
              (try (have c62b2 : (t124 == a1) = true := by simpa using c62))
              clear c62
              by_cases c70 : a0_2 = true
              · subst c70
                have H1 : (if (t125 != true) = true then (signalmanlaw15_OutageSteps.j1 kj5 t131 true a0_0 a0_1 true t128 t129 t130) else (signalmanlaw15_OutageSteps.j1 kj5 t131 (t126 != (a0_1 != a1)) a0_0 a0_1 true t128 t129 t130)) = some r := by rw [if_pos rfl] at H; exact H
                clear H
                have H := H1
                clear H1
                by_cases c71 : (t125 != true) = true
                · rw [if_pos c71] at H
                  have c71b0 : (t125 != true) = true := c71
                  (try (have c71b1 : decide (t125 = true) = false := by simpa using c71))
                  (try (have c71b2 : (t125 == true) = false := by simpa using c71))
                  (try (have c71b3 : ¬ (t125 = true) := by simpa using c71))
                  clear c71
                  have H' := Aside0.mk H
                  clear H
                  have hnb72 := NB127_118.out
                  have hnc72 := NB118_127.out
                  have hnb73 := NB127_122.out
                  have hnc73 := NB122_127.out
                  have hnb74 := NB127_132.out
                  have hnc74 := NB132_127.out
                  have hcz75_0 : wc.cell? ⟨gb127, 0, none⟩ = some (.bool t123) := (blk_cell BK127.out 0).trans rfl
                  have hcz75_1 : wc.cell? ⟨gb127, 1, none⟩ = some (.bool t124) := (blk_cell BK127.out 1).trans rfl
                  have hcz75_2 : wc.cell? ⟨gb127, 2, none⟩ = some (.bool t125) := (blk_cell BK127.out 2).trans rfl
                  have hfz75_0 := blk_frozen BK127.out 0
                  have hfz75_1 := blk_frozen BK127.out 1
                  have hfz75_2 := blk_frozen BK127.out 2
                  have hnb76 := NB118_122.out
                  have hnc76 := NB122_118.out
                  have hnb77 := NB118_132.out
                  have hnc77 := NB132_118.out
                  have hcz78_0 : wc.cell? ⟨gb118, 0, none⟩ = some (.bool a0_0) := (blk_cell BK118.out 0).trans rfl
                  have hcz78_1 : wc.cell? ⟨gb118, 1, none⟩ = some (.bool a0_1) := (blk_cell BK118.out 1).trans rfl
                  have hcz78_2 : wc.cell? ⟨gb118, 2, none⟩ = some (.bool true) := (blk_cell BK118.out 2).trans rfl
                  have hfz78_0 := blk_frozen BK118.out 0
                  have hfz78_1 := blk_frozen BK118.out 1
                  have hfz78_2 := blk_frozen BK118.out 2
                  go_wp2
                  go_meet
                  case rel => exact ⟨_, (true), (by first | rfl | (simp; done) | (simp [*]; done)), H', ⟨by have := HJ5.out; first | omega | exact Nat.le_refl _⟩, ⟨by (with_reducible repeat (first | refine blk_drewN ?_ _ | refine blk_drew ?_ | refine blk_alloc ?_ _)); exact BK118.out⟩, ⟨by (with_reducible repeat (first | refine blk_drewN ?_ _ | refine blk_drew ?_ | refine blk_alloc ?_ _)); exact BK122.out⟩, ⟨by (with_reducible repeat (first | refine blk_drewN ?_ _ | refine blk_drew ?_ | refine blk_alloc ?_ _)); exact BK127.out⟩, ⟨by (with_reducible repeat (first | refine blk_drewN ?_ _ | refine blk_drew ?_ | refine blk_alloc ?_ _)); exact BK132.out⟩, ⟨by repeat (first | (with_reducible first | exact HB.out | apply below_alloc | apply pw_below_drewN | apply below_drew1 | refine below_set ?_ GE118.out | refine below_set ?_ GE122.out | refine below_set ?_ GE127.out | refine below_set ?_ GE132.out) | exact HB.out)⟩⟩
                · rw [if_neg c71] at H
                  have c71b0 : (t125 != true) = false := by simpa using c71
                  (try (have c71b1 : decide (t125 = true) = true := by simpa using c71))
                  (try (have c71b2 : (t125 == true) = true := by simpa using c71))
                  clear c71
                  have H' := Aside0.mk H
                  clear H
                  have hnb79 := NB127_118.out
                  have hnc79 := NB118_127.out
                  have hnb80 := NB127_122.out
                  have hnc80 := NB122_127.out
                  have hnb81 := NB127_132.out
                  have hnc81 := NB132_127.out
                  have hcz82_0 : wc.cell? ⟨gb127, 0, none⟩ = some (.bool t123) := (blk_cell BK127.out 0).trans rfl
                  have hcz82_1 : wc.cell? ⟨gb127, 1, none⟩ = some (.bool t124) := (blk_cell BK127.out 1).trans rfl
                  have hcz82_2 : wc.cell? ⟨gb127, 2, none⟩ = some (.bool t125) := (blk_cell BK127.out 2).trans rfl
                  have hfz82_0 := blk_frozen BK127.out 0
                  have hfz82_1 := blk_frozen BK127.out 1
                  have hfz82_2 := blk_frozen BK127.out 2
                  have hnb83 := NB118_122.out
                  have hnc83 := NB122_118.out
                  have hnb84 := NB118_132.out
                  have hnc84 := NB132_118.out
                  have hcz85_0 : wc.cell? ⟨gb118, 0, none⟩ = some (.bool a0_0) := (blk_cell BK118.out 0).trans rfl
                  have hcz85_1 : wc.cell? ⟨gb118, 1, none⟩ = some (.bool a0_1) := (blk_cell BK118.out 1).trans rfl
                  have hcz85_2 : wc.cell? ⟨gb118, 2, none⟩ = some (.bool true) := (blk_cell BK118.out 2).trans rfl
                  have hfz85_0 := blk_frozen BK118.out 0
                  have hfz85_1 := blk_frozen BK118.out 1
                  have hfz85_2 := blk_frozen BK118.out 2
                  go_wp2
                  go_meet
                  case rel => exact ⟨_, ((t126 != (a0_1 != a1))), (by first | rfl | (simp; done) | (simp [*]; done)), H', ⟨by have := HJ5.out; first | omega | exact Nat.le_refl _⟩, ⟨by (with_reducible repeat (first | refine blk_drewN ?_ _ | refine blk_drew ?_ | refine blk_alloc ?_ _)); exact BK118.out⟩, ⟨by (with_reducible repeat (first | refine blk_drewN ?_ _ | refine blk_drew ?_ | refine blk_alloc ?_ _)); exact BK122.out⟩, ⟨by (with_reducible repeat (first | refine blk_drewN ?_ _ | refine blk_drew ?_ | refine blk_alloc ?_ _)); exact BK127.out⟩, ⟨by (with_reducible repeat (first | refine blk_drewN ?_ _ | refine blk_drew ?_ | refine blk_alloc ?_ _)); exact BK132.out⟩, ⟨by repeat (first | (with_reducible first | exact HB.out | apply below_alloc | apply pw_below_drewN | apply below_drew1 | refine below_set ?_ GE118.out | refine below_set ?_ GE122.out | refine below_set ?_ GE127.out | refine below_set ?_ GE132.out) | exact HB.out)⟩⟩
              · replace c70 := Bool.eq_false_iff.mpr c70
                subst c70
                have H1 : (if (t125 != a1) = true then (signalmanlaw15_OutageSteps.j1 kj5 t131 true a0_0 a0_1 false t128 t129 t130) else (signalmanlaw15_OutageSteps.j1 kj5 t131 (t126 != (a0_1 != a1)) a0_0 a0_1 false t128 t129 t130)) = some r := by rw [if_neg (show ¬ (false = true) by decide)] at H; exact H
                clear H
                have H := H1
                clear H1
                by_cases c86 : (t125 != a1) = true
                · rw [if_pos c86] at H
                  have c86b0 : (t125 != a1) = true := c86
                  (try (have c86b1 : decide (t125 = a1) = false := by simpa using c86))
                  (try (have c86b2 : (t125 == a1) = false := by simpa using c86))
                  (try (have c86b3 : ¬ (t125 = a1) := by simpa using c86))
                  clear c86
                  have H' := Aside0.mk H
                  clear H
                  have hnb87 := NB127_118.out
                  have hnc87 := NB118_127.out
                  have hnb88 := NB127_122.out
                  have hnc88 := NB122_127.out
                  have hnb89 := NB127_132.out
                  have hnc89 := NB132_127.out
                  have hcz90_0 : wc.cell? ⟨gb127, 0, none⟩ = some (.bool t123) := (blk_cell BK127.out 0).trans rfl
                  have hcz90_1 : wc.cell? ⟨gb127, 1, none⟩ = some (.bool t124) := (blk_cell BK127.out 1).trans rfl
                  have hcz90_2 : wc.cell? ⟨gb127, 2, none⟩ = some (.bool t125) := (blk_cell BK127.out 2).trans rfl
                  have hfz90_0 := blk_frozen BK127.out 0
                  have hfz90_1 := blk_frozen BK127.out 1
                  have hfz90_2 := blk_frozen BK127.out 2
                  have hnb91 := NB118_122.out
                  have hnc91 := NB122_118.out
                  have hnb92 := NB118_132.out
                  have hnc92 := NB132_118.out
                  have hcz93_0 : wc.cell? ⟨gb118, 0, none⟩ = some (.bool a0_0) := (blk_cell BK118.out 0).trans rfl
                  have hcz93_1 : wc.cell? ⟨gb118, 1, none⟩ = some (.bool a0_1) := (blk_cell BK118.out 1).trans rfl
                  have hcz93_2 : wc.cell? ⟨gb118, 2, none⟩ = some (.bool false) := (blk_cell BK118.out 2).trans rfl
                  have hfz93_0 := blk_frozen BK118.out 0
                  have hfz93_1 := blk_frozen BK118.out 1
                  have hfz93_2 := blk_frozen BK118.out 2
                  go_wp2
                  go_meet
                  case rel => exact ⟨_, (true), (by first | rfl | (simp; done) | (simp [*]; done)), H', ⟨by have := HJ5.out; first | omega | exact Nat.le_refl _⟩, ⟨by (with_reducible repeat (first | refine blk_drewN ?_ _ | refine blk_drew ?_ | refine blk_alloc ?_ _)); exact BK118.out⟩, ⟨by (with_reducible repeat (first | refine blk_drewN ?_ _ | refine blk_drew ?_ | refine blk_alloc ?_ _)); exact BK122.out⟩, ⟨by (with_reducible repeat (first | refine blk_drewN ?_ _ | refine blk_drew ?_ | refine blk_alloc ?_ _)); exact BK127.out⟩, ⟨by (with_reducible repeat (first | refine blk_drewN ?_ _ | refine blk_drew ?_ | refine blk_alloc ?_ _)); exact BK132.out⟩, ⟨by repeat (first | (with_reducible first | exact HB.out | apply below_alloc | apply pw_below_drewN | apply below_drew1 | refine below_set ?_ GE118.out | refine below_set ?_ GE122.out | refine below_set ?_ GE127.out | refine below_set ?_ GE132.out) | exact HB.out)⟩⟩
                · rw [if_neg c86] at H
                  have c86b0 : (t125 != a1) = false := by simpa using c86
                  (try (have c86b1 : decide (t125 = a1) = true := by simpa using c86))
                  (try (have c86b2 : (t125 == a1) = true := by simpa using c86))
                  clear c86
                  have H' := Aside0.mk H
                  clear H
                  have hnb94 := NB127_118.out
                  have hnc94 := NB118_127.out
                  have hnb95 := NB127_122.out
                  have hnc95 := NB122_127.out
                  have hnb96 := NB127_132.out
                  have hnc96 := NB132_127.out
                  have hcz97_0 : wc.cell? ⟨gb127, 0, none⟩ = some (.bool t123) := (blk_cell BK127.out 0).trans rfl
                  have hcz97_1 : wc.cell? ⟨gb127, 1, none⟩ = some (.bool t124) := (blk_cell BK127.out 1).trans rfl
                  have hcz97_2 : wc.cell? ⟨gb127, 2, none⟩ = some (.bool t125) := (blk_cell BK127.out 2).trans rfl
                  have hfz97_0 := blk_frozen BK127.out 0
                  have hfz97_1 := blk_frozen BK127.out 1
                  have hfz97_2 := blk_frozen BK127.out 2
                  have hnb98 := NB118_122.out
                  have hnc98 := NB122_118.out
                  have hnb99 := NB118_132.out
                  have hnc99 := NB132_118.out
                  have hcz100_0 : wc.cell? ⟨gb118, 0, none⟩ = some (.bool a0_0) := (blk_cell BK118.out 0).trans rfl
                  have hcz100_1 : wc.cell? ⟨gb118, 1, none⟩ = some (.bool a0_1) := (blk_cell BK118.out 1).trans rfl
                  have hcz100_2 : wc.cell? ⟨gb118, 2, none⟩ = some (.bool false) := (blk_cell BK118.out 2).trans rfl
                  have hfz100_0 := blk_frozen BK118.out 0
                  have hfz100_1 := blk_frozen BK118.out 1
                  have hfz100_2 := blk_frozen BK118.out 2
                  go_wp2
                  go_meet
                  case rel => exact ⟨_, ((t126 != (a0_1 != a1))), (by first | rfl | (simp; done) | (simp [*]; done)), H', ⟨by have := HJ5.out; first | omega | exact Nat.le_refl _⟩, ⟨by (with_reducible repeat (first | refine blk_drewN ?_ _ | refine blk_drew ?_ | refine blk_alloc ?_ _)); exact BK118.out⟩, ⟨by (with_reducible repeat (first | refine blk_drewN ?_ _ | refine blk_drew ?_ | refine blk_alloc ?_ _)); exact BK122.out⟩, ⟨by (with_reducible repeat (first | refine blk_drewN ?_ _ | refine blk_drew ?_ | refine blk_alloc ?_ _)); exact BK127.out⟩, ⟨by (with_reducible repeat (first | refine blk_drewN ?_ _ | refine blk_drew ?_ | refine blk_alloc ?_ _)); exact BK132.out⟩, ⟨by repeat (first | (with_reducible first | exact HB.out | apply below_alloc | apply pw_below_drewN | apply below_drew1 | refine below_set ?_ GE118.out | refine below_set ?_ GE122.out | refine below_set ?_ GE127.out | refine below_set ?_ GE132.out) | exact HB.out)⟩⟩
        case rest =>
          clear HC53
          try clear c1
          try clear c2
          try clear p2
          try clear c3
          try clear c4
          try clear c5
          try clear c6
          try clear c7
          try clear c8
          try clear c9
          try clear c11
          try clear c16
          try clear c17
          try clear c22
          try clear c23
          try clear c24
          try clear c27
          try clear c28
          try clear c28b0
          try clear c28b1
          try clear c28b2
          try clear c30
          try clear c31
          try clear c32
          try clear c34
          try clear c34b0
          try clear c34b1
          try clear c34b2
          try clear c36
          try clear c37
          try clear c38
          try clear c40
          try clear c41
          try clear c44
          try clear c45
          try clear c46
          try clear c48
          try clear c49
          try clear c52
          try clear c54
          try clear c54b0
          try clear c54b1
          try clear c54b2
          try clear c55
          try clear c56
          try clear c57
          try clear c59
          try clear c60
          try clear c62
          try clear c62b0
          try clear c62b1
          try clear c62b2
          try clear c63
          try clear c64
          try clear c65
          try clear c67
          try clear c68
          try clear c70
          try clear c71
          try clear c71b0
          try clear c71b1
          try clear c71b2
          try clear c72
          try clear c73
          try clear c74
          try clear c76
          try clear c77
          try clear c79
          try clear c80
          try clear c81
          try clear c83
          try clear c84
          try clear c86
          try clear c86b0
          try clear c86b1
          try clear c86b2
          try clear c87
          try clear c88
          try clear c89
          try clear c91
          try clear c92
          try clear c94
          try clear c95
          try clear c96
          try clear c98
          try clear c99
          try clear hcz100_0
          try clear hcz100_1
          try clear hcz100_2
          try clear hcz12_0
          try clear hcz12_1
          try clear hcz12_2
          try clear hcz13_0
          try clear hcz13_1
          try clear hcz13_2
          try clear hcz18_0
          try clear hcz18_1
          try clear hcz18_2
          try clear hcz19_0
          try clear hcz19_1
          try clear hcz19_2
          try clear hcz25_0
          try clear hcz25_1
          try clear hcz25_2
          try clear hcz33_0
          try clear hcz33_1
          try clear hcz33_2
          try clear hcz39_0
          try clear hcz39_1
          try clear hcz39_2
          try clear hcz42_0
          try clear hcz42_1
          try clear hcz42_2
          try clear hcz47_0
          try clear hcz47_1
          try clear hcz47_2
          try clear hcz50_0
          try clear hcz50_1
          try clear hcz50_2
          try clear hcz58_0
          try clear hcz58_1
          try clear hcz58_2
          try clear hcz61_0
          try clear hcz61_1
          try clear hcz61_2
          try clear hcz66_0
          try clear hcz66_1
          try clear hcz66_2
          try clear hcz69_0
          try clear hcz69_1
          try clear hcz69_2
          try clear hcz75_0
          try clear hcz75_1
          try clear hcz75_2
          try clear hcz78_0
          try clear hcz78_1
          try clear hcz78_2
          try clear hcz82_0
          try clear hcz82_1
          try clear hcz82_2
          try clear hcz85_0
          try clear hcz85_1
          try clear hcz85_2
          try clear hcz8_0
          try clear hcz8_1
          try clear hcz8_2
          try clear hcz90_0
          try clear hcz90_1
          try clear hcz90_2
          try clear hcz93_0
          try clear hcz93_1
          try clear hcz93_2
          try clear hcz97_0
          try clear hcz97_1
          try clear hcz97_2
          try clear hfz100_0
          try clear hfz100_1
          try clear hfz100_2
          try clear hfz12_0
          try clear hfz12_1
          try clear hfz12_2
          try clear hfz13_0
          try clear hfz13_1
          try clear hfz13_2
          try clear hfz18_0
          try clear hfz18_1
          try clear hfz18_2
          try clear hfz19_0
          try clear hfz19_1
          try clear hfz19_2
          try clear hfz25_0
          try clear hfz25_1
          try clear hfz25_2
          try clear hfz33_0
          try clear hfz33_1
          try clear hfz33_2
          try clear hfz39_0
          try clear hfz39_1
          try clear hfz39_2
          try clear hfz42_0
          try clear hfz42_1
          try clear hfz42_2
          try clear hfz47_0
          try clear hfz47_1
          try clear hfz47_2
          try clear hfz50_0
          try clear hfz50_1
          try clear hfz50_2
          try clear hfz58_0
          try clear hfz58_1
          try clear hfz58_2
          try clear hfz61_0
          try clear hfz61_1
          try clear hfz61_2
          try clear hfz66_0
          try clear hfz66_1
          try clear hfz66_2
          try clear hfz69_0
          try clear hfz69_1
          try clear hfz69_2
          try clear hfz75_0
          try clear hfz75_1
          try clear hfz75_2
          try clear hfz78_0
          try clear hfz78_1
          try clear hfz78_2
          try clear hfz82_0
          try clear hfz82_1
          try clear hfz82_2
          try clear hfz85_0
          try clear hfz85_1
          try clear hfz85_2
          try clear hfz8_0
          try clear hfz8_1
          try clear hfz8_2
          try clear hfz90_0
          try clear hfz90_1
          try clear hfz90_2
          try clear hfz93_0
          try clear hfz93_1
          try clear hfz93_2
          try clear hfz97_0
          try clear hfz97_1
          try clear hfz97_2
          try clear p2
          obtain ⟨kq, x74_52, rfl, HA, HJ52, BK118, BK122, BK127, BK132, HB⟩ := hcut
          cases kq with
          | zero => exact absurd HA.out (by simp [signalmanlaw15_OutageSteps.j1])
          | succ kj52 =>
            have H := HA.out
            clear HA
            simp only [signalmanlaw15_OutageSteps.j1] at H
            by_cases c101 : x74_52 = true
            · subst c101
              have H1 : (some false) = some r := by rw [if_pos rfl] at H; exact H
              clear H
              have H := H1
              clear H1
              obtain rfl := Option.some.inj H
              go_wp2
              go_ret
              exact ⟨by first | rfl | (simp [errW_none, errW_some] <;> rfl) | (simp [*, errW_none, errW_some] <;> rfl), by repeat (first | (with_reducible first | exact HB.out | apply below_alloc | apply pw_below_drewN | apply below_drew1 | refine below_set ?_ GE118.out | refine below_set ?_ GE122.out | refine below_set ?_ GE127.out | refine below_set ?_ GE132.out) | exact HB.out)⟩
            · replace c101 := Bool.eq_false_iff.mpr c101
              subst c101
              have H1 : (if a0_0 = true then (if (t131 != false) = true then (some false) else (if (t128 != a0_0) = true then (some false) else (if (t129 != a0_1) = true then (some false) else (if a0_2 = true then (if (t130 != (!t131)) = true then (some false) else ((outage_Outage_Is.f a0_0 a0_1 a0_2).bind fun t134 => (some (t134 == true)))) else (if (t130 != false) = true then (some false) else ((outage_Outage_Is.f a0_0 a0_1 a0_2).bind fun t135 => (some (t135 == true)))))))) else (if (t131 != (!a0_1)) = true then (some false) else (if (t128 != a0_0) = true then (some false) else (if (t129 != a0_1) = true then (some false) else (if a0_2 = true then (if (t130 != (!t131)) = true then (some false) else ((outage_Outage_Is.f a0_0 a0_1 a0_2).bind fun t136 => (if a0_1 = true then (some (t136 == true)) else (some (t136 == a0_2))))) else (if (t130 != false) = true then (some false) else ((outage_Outage_Is.f a0_0 a0_1 a0_2).bind fun t137 => (if a0_1 = true then (some (t137 == true)) else (some (t137 == a0_2)))))))))) = some r := by rw [if_neg (show ¬ (false = true) by decide)] at H; exact H
              clear H
              have H := H1
              clear H1
              by_cases c102 : a0_0 = true
              · subst c102
                have H1 : (if (t131 != false) = true then (some false) else (if (t128 != true) = true then (some false) else (if (t129 != a0_1) = true then (some false) else (if a0_2 = true then (if (t130 != (!t131)) = true then (some false) else ((outage_Outage_Is.f true a0_1 a0_2).bind fun t134 => (some (t134 == true)))) else (if (t130 != false) = true then (some false) else ((outage_Outage_Is.f true a0_1 a0_2).bind fun t135 => (some (t135 == true)))))))) = some r := by rw [if_pos rfl] at H; exact H
                clear H
                have H := H1
                clear H1
                by_cases c103 : (t131 != false) = true
                · rw [if_pos c103] at H
                  have c103b0 : (t131 != false) = true := c103
                  (try (have c103b1 : decide (t131 = false) = false := by simpa using c103))
                  (try (have c103b2 : (t131 == false) = false := by simpa using c103))
                  (try (have c103b3 : ¬ (t131 = false) := by simpa using c103))
                  clear c103
                  obtain rfl := Option.some.inj H
                  have hnb104 := NB118_122.out
                  have hnc104 := NB122_118.out
                  have hnb105 := NB118_127.out
                  have hnc105 := NB127_118.out
                  have hnb106 := NB118_132.out
                  have hnc106 := NB132_118.out
                  have hcz107_0 : wc.cell? ⟨gb118, 0, none⟩ = some (.bool true) := (blk_cell BK118.out 0).trans rfl
                  have hcz107_1 : wc.cell? ⟨gb118, 1, none⟩ = some (.bool a0_1) := (blk_cell BK118.out 1).trans rfl
                  have hcz107_2 : wc.cell? ⟨gb118, 2, none⟩ = some (.bool a0_2) := (blk_cell BK118.out 2).trans rfl
                  have hfz107_0 := blk_frozen BK118.out 0
                  have hfz107_1 := blk_frozen BK118.out 1
                  have hfz107_2 := blk_frozen BK118.out 2
                  go_wp2
                  go_ret
                  exact ⟨by first | rfl | (simp [errW_none, errW_some] <;> rfl) | (simp [*, errW_none, errW_some] <;> rfl), by repeat (first | (with_reducible first | exact HB.out | apply below_alloc | apply pw_below_drewN | apply below_drew1 | refine below_set ?_ GE118.out | refine below_set ?_ GE122.out | refine below_set ?_ GE127.out | refine below_set ?_ GE132.out) | exact HB.out)⟩
                · rw [if_neg c103] at H
                  have c103b0 : (t131 != false) = false := by simpa using c103
                  (try (have c103b1 : decide (t131 = false) = true := by simpa using c103))
                  (try (have c103b2 : (t131 == false) = true := by simpa using c103))
                  clear c103
                  by_cases c108 : (t128 != true) = true
                  · rw [if_pos c108] at H
                    have c108b0 : (t128 != true) = true := c108
                    (try (have c108b1 : decide (t128 = true) = false := by simpa using c108))
                    (try (have c108b2 : (t128 == true) = false := by simpa using c108))
                    (try (have c108b3 : ¬ (t128 = true) := by simpa using c108))
                    clear c108
                    obtain rfl := Option.some.inj H
                    have hnb109 := NB118_122.out
                    have hnc109 := NB122_118.out
                    have hnb110 := NB118_127.out
                    have hnc110 := NB127_118.out
                    have hnb111 := NB118_132.out
                    have hnc111 := NB132_118.out
                    have hcz112_0 : wc.cell? ⟨gb118, 0, none⟩ = some (.bool true) := (blk_cell BK118.out 0).trans rfl
                    have hcz112_1 : wc.cell? ⟨gb118, 1, none⟩ = some (.bool a0_1) := (blk_cell BK118.out 1).trans rfl
                    have hcz112_2 : wc.cell? ⟨gb118, 2, none⟩ = some (.bool a0_2) := (blk_cell BK118.out 2).trans rfl
                    have hfz112_0 := blk_frozen BK118.out 0
                    have hfz112_1 := blk_frozen BK118.out 1
                    have hfz112_2 := blk_frozen BK118.out 2
                    have hnb113 := NB132_122.out
                    have hnc113 := NB122_132.out
                    have hnb114 := NB132_127.out
                    have hnc114 := NB127_132.out
                    have hcz115_0 : wc.cell? ⟨gb132, 0, none⟩ = some (.bool t128) := (blk_cell BK132.out 0).trans rfl
                    have hcz115_1 : wc.cell? ⟨gb132, 1, none⟩ = some (.bool t129) := (blk_cell BK132.out 1).trans rfl
                    have hcz115_2 : wc.cell? ⟨gb132, 2, none⟩ = some (.bool t130) := (blk_cell BK132.out 2).trans rfl
                    have hfz115_0 := blk_frozen BK132.out 0
                    have hfz115_1 := blk_frozen BK132.out 1
                    have hfz115_2 := blk_frozen BK132.out 2
                    go_wp2
                    go_ret
                    exact ⟨by first | rfl | (simp [errW_none, errW_some] <;> rfl) | (simp [*, errW_none, errW_some] <;> rfl), by repeat (first | (with_reducible first | exact HB.out | apply below_alloc | apply pw_below_drewN | apply below_drew1 | refine below_set ?_ GE118.out | refine below_set ?_ GE122.out | refine below_set ?_ GE127.out | refine below_set ?_ GE132.out) | exact HB.out)⟩
                  · rw [if_neg c108] at H
                    have c108b0 : (t128 != true) = false := by simpa using c108
                    (try (have c108b1 : decide (t128 = true) = true := by simpa using c108))
                    (try (have c108b2 : (t128 == true) = true := by simpa using c108))
                    clear c108
                    by_cases c116 : (t129 != a0_1) = true
                    · rw [if_pos c116] at H
                      have c116b0 : (t129 != a0_1) = true := c116
                      (try (have c116b1 : decide (t129 = a0_1) = false := by simpa using c116))
                      (try (have c116b2 : (t129 == a0_1) = false := by simpa using c116))
                      (try (have c116b3 : ¬ (t129 = a0_1) := by simpa using c116))
                      clear c116
                      obtain rfl := Option.some.inj H
                      have hnb117 := NB118_122.out
                      have hnc117 := NB122_118.out
                      have hnb118 := NB118_127.out
                      have hnc118 := NB127_118.out
                      have hnb119 := NB118_132.out
                      have hnc119 := NB132_118.out
                      have hcz120_0 : wc.cell? ⟨gb118, 0, none⟩ = some (.bool true) := (blk_cell BK118.out 0).trans rfl
                      have hcz120_1 : wc.cell? ⟨gb118, 1, none⟩ = some (.bool a0_1) := (blk_cell BK118.out 1).trans rfl
                      have hcz120_2 : wc.cell? ⟨gb118, 2, none⟩ = some (.bool a0_2) := (blk_cell BK118.out 2).trans rfl
                      have hfz120_0 := blk_frozen BK118.out 0
                      have hfz120_1 := blk_frozen BK118.out 1
                      have hfz120_2 := blk_frozen BK118.out 2
                      have hnb121 := NB132_122.out
                      have hnc121 := NB122_132.out
                      have hnb122 := NB132_127.out
                      have hnc122 := NB127_132.out
                      have hcz123_0 : wc.cell? ⟨gb132, 0, none⟩ = some (.bool t128) := (blk_cell BK132.out 0).trans rfl
                      have hcz123_1 : wc.cell? ⟨gb132, 1, none⟩ = some (.bool t129) := (blk_cell BK132.out 1).trans rfl
                      have hcz123_2 : wc.cell? ⟨gb132, 2, none⟩ = some (.bool t130) := (blk_cell BK132.out 2).trans rfl
                      have hfz123_0 := blk_frozen BK132.out 0
                      have hfz123_1 := blk_frozen BK132.out 1
                      have hfz123_2 := blk_frozen BK132.out 2
                      go_wp2
                      go_ret
                      exact ⟨by first | rfl | (simp [errW_none, errW_some] <;> rfl) | (simp [*, errW_none, errW_some] <;> rfl), by repeat (first | (with_reducible first | exact HB.out | apply below_alloc | apply pw_below_drewN | apply below_drew1 | refine below_set ?_ GE118.out | refine below_set ?_ GE122.out | refine below_set ?_ GE127.out | refine below_set ?_ GE132.out) | exact HB.out)⟩
                    · rw [if_neg c116] at H
                      have c116b0 : (t129 != a0_1) = false := by simpa using c116
                      (try (have c116b1 : decide (t129 = a0_1) = true := by simpa using c116))
                      (try (have c116b2 : (t129 == a0_1) = true := by simpa using c116))
                      clear c116
                      by_cases c124 : a0_2 = true
                      · subst c124
                        have H1 : (if (t130 != (!t131)) = true then (some false) else ((outage_Outage_Is.f true a0_1 true).bind fun t134 => (some (t134 == true)))) = some r := by rw [if_pos rfl] at H; exact H
                        clear H
                        have H := H1
                        clear H1
                        by_cases c125 : (t130 != (!t131)) = true
                        · rw [if_pos c125] at H
                          have c125b0 : (t130 != (!t131)) = true := c125
                          (try (have c125b1 : decide (t130 = (!t131)) = false := by simpa using c125))
                          (try (have c125b2 : (t130 == (!t131)) = false := by simpa using c125))
                          (try (have c125b3 : (!t130 == (!t131)) = true := by first | exact (show ∀ a_ b_ : Bool, ¬ ((a_ != !b_) = true) → (!a_ == !b_) = false by decide) _ _ c125 | exact (show ∀ a_ b_ : Bool, ((a_ != !b_) = true) → (!a_ == !b_) = true by decide) _ _ c125))
                          (try (have c125b4 : ¬ (t130 = (!t131)) := by simpa using c125))
                          clear c125
                          obtain rfl := Option.some.inj H
                          have hnb126 := NB118_122.out
                          have hnc126 := NB122_118.out
                          have hnb127 := NB118_127.out
                          have hnc127 := NB127_118.out
                          have hnb128 := NB118_132.out
                          have hnc128 := NB132_118.out
                          have hcz129_0 : wc.cell? ⟨gb118, 0, none⟩ = some (.bool true) := (blk_cell BK118.out 0).trans rfl
                          have hcz129_1 : wc.cell? ⟨gb118, 1, none⟩ = some (.bool a0_1) := (blk_cell BK118.out 1).trans rfl
                          have hcz129_2 : wc.cell? ⟨gb118, 2, none⟩ = some (.bool true) := (blk_cell BK118.out 2).trans rfl
                          have hfz129_0 := blk_frozen BK118.out 0
                          have hfz129_1 := blk_frozen BK118.out 1
                          have hfz129_2 := blk_frozen BK118.out 2
                          have hnb130 := NB132_122.out
                          have hnc130 := NB122_132.out
                          have hnb131 := NB132_127.out
                          have hnc131 := NB127_132.out
                          have hcz132_0 : wc.cell? ⟨gb132, 0, none⟩ = some (.bool t128) := (blk_cell BK132.out 0).trans rfl
                          have hcz132_1 : wc.cell? ⟨gb132, 1, none⟩ = some (.bool t129) := (blk_cell BK132.out 1).trans rfl
                          have hcz132_2 : wc.cell? ⟨gb132, 2, none⟩ = some (.bool t130) := (blk_cell BK132.out 2).trans rfl
                          have hfz132_0 := blk_frozen BK132.out 0
                          have hfz132_1 := blk_frozen BK132.out 1
                          have hfz132_2 := blk_frozen BK132.out 2
                          go_wp2
                          go_ret
                          exact ⟨by first | rfl | (simp [errW_none, errW_some] <;> rfl) | (simp [*, errW_none, errW_some] <;> rfl), by repeat (first | (with_reducible first | exact HB.out | apply below_alloc | apply pw_below_drewN | apply below_drew1 | refine below_set ?_ GE118.out | refine below_set ?_ GE122.out | refine below_set ?_ GE127.out | refine below_set ?_ GE132.out) | exact HB.out)⟩
                        · rw [if_neg c125] at H
                          have c125b0 : (t130 != (!t131)) = false := by simpa using c125
                          (try (have c125b1 : decide (t130 = (!t131)) = true := by simpa using c125))
                          (try (have c125b2 : (t130 == (!t131)) = true := by simpa using c125))
                          (try (have c125b3 : (!t130 == (!t131)) = false := by first | exact (show ∀ a_ b_ : Bool, ¬ ((a_ != !b_) = true) → (!a_ == !b_) = false by decide) _ _ c125 | exact (show ∀ a_ b_ : Bool, ((a_ != !b_) = true) → (!a_ == !b_) = true by decide) _ _ c125))
                          clear c125
                          replace H := Option.bind_eq_some_iff.mp H
                          obtain ⟨t134, A1330, H⟩ := H
                          replace H : (some (t134 == true)) = some r := H
                          have A133 := Aside0.mk A1330
                          clear A1330
                          obtain rfl := Option.some.inj H
                          have hnb134 := NB118_122.out
                          have hnc134 := NB122_118.out
                          have hnb135 := NB118_127.out
                          have hnc135 := NB127_118.out
                          have hnb136 := NB118_132.out
                          have hnc136 := NB132_118.out
                          have hcz137_0 : wc.cell? ⟨gb118, 0, none⟩ = some (.bool true) := (blk_cell BK118.out 0).trans rfl
                          have hcz137_1 : wc.cell? ⟨gb118, 1, none⟩ = some (.bool a0_1) := (blk_cell BK118.out 1).trans rfl
                          have hcz137_2 : wc.cell? ⟨gb118, 2, none⟩ = some (.bool true) := (blk_cell BK118.out 2).trans rfl
                          have hfz137_0 := blk_frozen BK118.out 0
                          have hfz137_1 := blk_frozen BK118.out 1
                          have hfz137_2 := blk_frozen BK118.out 2
                          have hnb138 := NB132_122.out
                          have hnc138 := NB122_132.out
                          have hnb139 := NB132_127.out
                          have hnc139 := NB127_132.out
                          have hcz140_0 : wc.cell? ⟨gb132, 0, none⟩ = some (.bool t128) := (blk_cell BK132.out 0).trans rfl
                          have hcz140_1 : wc.cell? ⟨gb132, 1, none⟩ = some (.bool t129) := (blk_cell BK132.out 1).trans rfl
                          have hcz140_2 : wc.cell? ⟨gb132, 2, none⟩ = some (.bool t130) := (blk_cell BK132.out 2).trans rfl
                          have hfz140_0 := blk_frozen BK132.out 0
                          have hfz140_1 := blk_frozen BK132.out 1
                          have hfz140_2 := blk_frozen BK132.out 2
                          try go_wp2
                          have n0_ := Aside0.mk (blk_drew BK118.out)
                          have n1_ := Aside0.mk (blk_drew BK122.out)
                          have n2_ := Aside0.mk (blk_drew BK127.out)
                          have n3_ := Aside0.mk (blk_drew BK132.out)
                          have n4_ := Aside0.mk (below_drew1 HB.out)
                          clear BK118
                          clear BK122
                          clear BK127
                          clear BK132
                          clear HB
                          have BK118 := n0_
                          have BK122 := n1_
                          have BK127 := n2_
                          have BK132 := n3_
                          have HB := n4_
                          clear n0_ n1_ n2_ n3_ n4_
                          refine start_ (n := 14) (S := fun w' => w'.cell? ⟨gb118, 0, none⟩ = some (.bool true) ∧ w'.cell? ⟨gb118, 1, none⟩ = some (.bool a0_1) ∧ w'.cell? ⟨gb118, 2, none⟩ = some (.bool true)) (ds := []) #[false, false, false, false, false, false, false, false, false, false, false, false, false, false] (by kernel_rfl) rfl rfl ⟨(blk_cell BK118.out 0).trans rfl, (blk_cell BK118.out 1).trans rfl, (blk_cell BK118.out 2).trans rfl⟩ (fun hHeld => ?_); refine with_tabW signalmanlaw15_OutageSteps.tab10 signalmanlaw15_OutageSteps.bits10 (fun HT_ HW_ => ?_)
                          generalize wc.drew = w141 at BK118 BK122 BK127 BK132 HB hHeld ⊢
                          refine pure_ (i := 2) (N := some 112) (v := ?_) (a' := ?_) #[false, false, true, false, false, false, false, false, false, false, false, false, false, false] rfl rfl (any_of HT_.out (by kernel_rfl)) (fun _ _ _ h => h) (Or.inl ⟨by rfl, ?_⟩) ?_ ?_
                          rotate_left
                          · intro w'
                            go_simp
                            with_reducible rfl
                          rotate_left
                          · simp only [Act.put, List.setIfInBounds_toArray, List.set_cons_zero, List.set_cons_succ, i64_w, i32_w]
                            rfl
                          refine take_ (i := 0) (N := some 110) (v := ?_) (a' := ?_) #[true, false, true, false, false, false, false, false, false, false, false, false, false, false] rfl rfl (take_ofW HT_.out HW_.out (by kernel_rfl)) (fun _ _ _ h => h) (Or.inl ⟨by rfl, ?_⟩) hHeld ?_ ?_
                          rotate_left
                          · rintro w' ⟨s0, s1, s2⟩
                            go_simp
                            with_reducible rfl
                          rotate_left
                          · simp only [Act.put, List.setIfInBounds_toArray, List.set_cons_zero, List.set_cons_succ, i64_w, i32_w]
                            rfl
                          refine take_ (i := 3) (N := some 113) (v := ?_) (a' := ?_) #[true, false, true, true, false, false, false, false, false, false, false, false, false, false] rfl rfl (take_ofW HT_.out HW_.out (by kernel_rfl)) (fun _ _ _ h => h) (Or.inl ⟨by rfl, ?_⟩) hHeld ?_ ?_
                          rotate_left
                          · rintro w' ⟨s0, s1, s2⟩
                            go_simp
                            with_reducible rfl
                          rotate_left
                          · simp only [Act.put, List.setIfInBounds_toArray, List.set_cons_zero, List.set_cons_succ, i64_w, i32_w]
                            rfl
                          refine one_ (i := 1) (N := some 111) #[true, true, true, true, false, false, false, false, false, false, false, false, false, false] rfl rfl (one_of HT_.out (by kernel_rfl)) (by decide) (fun K hK => ?_)
                          refine goes_ Try.func10 (by kernel_rfl) rfl #[.agg #[.bool true, .bool a0_1, .bool true]] (by rfl) rfl rfl (by (try simp only [List.map_toArray, List.map_cons, List.map_nil]); first | done | rfl | (simp only [List.length_drop, List.length_take]; rfl) | (simp [Act.eval, *]; done)) ?_
                          with_reducible refine (outage_Outage_Is.calls true a0_1 true t134 _ A133.out).mono ?_
                          rintro e w142 ⟨rfl, hb⟩
                          refine ⟨_, rfl, ?_⟩
                          have n0_ := Aside0.mk (blk_below (g := gb118) (o := .cells #[.bool true, .bool a0_1, .bool true] 23 (0, 0)) (by (with_reducible repeat (first | refine blk_drewN ?_ _ | refine blk_drew ?_ | refine blk_alloc ?_ _)); exact BK118.out) hb)
                          have n1_ := Aside0.mk (blk_below (g := gb122) (o := .cells #[.bool t119, .bool t120, .bool t121] 23 (0, 0)) (by (with_reducible repeat (first | refine blk_drewN ?_ _ | refine blk_drew ?_ | refine blk_alloc ?_ _)); exact BK122.out) hb)
                          have n2_ := Aside0.mk (blk_below (g := gb127) (o := .cells #[.bool t123, .bool t124, .bool t125] 23 (0, 0)) (by (with_reducible repeat (first | refine blk_drewN ?_ _ | refine blk_drew ?_ | refine blk_alloc ?_ _)); exact BK127.out) hb)
                          have n3_ := Aside0.mk (blk_below (g := gb132) (o := .cells #[.bool t128, .bool t129, .bool t130] 23 (0, 0)) (by (with_reducible repeat (first | refine blk_drewN ?_ _ | refine blk_drew ?_ | refine blk_alloc ?_ _)); exact BK132.out) hb)
                          have n4_ := Aside0.mk (below_step (by repeat (first | (with_reducible first | exact HB.out | apply below_alloc | apply pw_below_drewN | apply below_drew1 | refine below_set ?_ GE118.out | refine below_set ?_ GE122.out | refine below_set ?_ GE127.out | refine below_set ?_ GE132.out) | exact HB.out)) hb)
                          clear BK118
                          clear BK122
                          clear BK127
                          clear BK132
                          clear HB
                          have BK118 := n0_
                          have BK122 := n1_
                          have BK127 := n2_
                          have BK132 := n3_
                          have HB := n4_
                          clear n0_ n1_ n2_ n3_ n4_
                          (try clear hb)
                          (try clear hb2)
                          (try clear hk)
                          (try clear hi)
                          refine hK.out _ _ ⟨(blk_cell BK118.out 0).trans rfl, (blk_cell BK118.out 1).trans rfl, (blk_cell BK118.out 2).trans rfl⟩ (fun hHeld => ?_)
                          clear hK K
                          refine norm_ (a' := ?_) ?_ ?_
                          rotate_left
                          · show Act.put _ (some 111) _ = _
                            simp only [Act.put, List.setIfInBounds_toArray, List.set_cons_zero, List.set_cons_succ, i64_w, i32_w]
                            rfl
                          refine pure_ (i := 4) (N := some 114) (v := ?_) (a' := ?_) #[true, true, true, true, true, false, false, false, false, false, false, false, false, false] rfl rfl (any_of HT_.out (by kernel_rfl)) (fun _ _ _ h => h) (Or.inl ⟨by rfl, ?_⟩) ?_ ?_
                          rotate_left
                          · intro w'
                            go_simp
                            with_reducible rfl
                          rotate_left
                          · simp only [Act.put, List.setIfInBounds_toArray, List.set_cons_zero, List.set_cons_succ, i64_w, i32_w]
                            rfl
                          refine pure_ (i := 5) (N := some 115) (v := undef) (a' := ?_) #[true, true, true, true, true, true, false, false, false, false, false, false, false, false] rfl rfl (any_of HT_.out (by kernel_rfl)) (fun _ _ _ h => h) (Or.inr ⟨by rfl, rfl⟩) ?_ ?_
                          rotate_left
                          · simp only [Act.put, List.setIfInBounds_toArray, List.set_cons_zero, List.set_cons_succ, i64_w, i32_w]
                            rfl
                          refine pure_ (i := 6) (N := some 116) (v := undef) (a' := ?_) #[true, true, true, true, true, true, true, false, false, false, false, false, false, false] rfl rfl (any_of HT_.out (by kernel_rfl)) (fun _ _ _ h => h) (Or.inr ⟨by rfl, rfl⟩) ?_ ?_
                          rotate_left
                          · simp only [Act.put, List.setIfInBounds_toArray, List.set_cons_zero, List.set_cons_succ, i64_w, i32_w]
                            rfl
                          refine pure_ (i := 7) (N := some 117) (v := ?_) (a' := ?_) #[true, true, true, true, true, true, true, true, false, false, false, false, false, false] rfl rfl (any_of HT_.out (by kernel_rfl)) (fun _ _ _ h => h) (Or.inl ⟨by rfl, ?_⟩) ?_ ?_
                          rotate_left
                          · intro w'
                            go_simp
                            with_reducible rfl
                          rotate_left
                          · simp only [Act.put, List.setIfInBounds_toArray, List.set_cons_zero, List.set_cons_succ, i64_w, i32_w]
                            rfl
                          refine pure_ (i := 8) (N := some 118) (v := ?_) (a' := ?_) #[true, true, true, true, true, true, true, true, true, false, false, false, false, false] rfl rfl (any_of HT_.out (by kernel_rfl)) (fun _ _ _ h => h) (Or.inl ⟨by rfl, ?_⟩) ?_ ?_
                          rotate_left
                          · intro w'
                            go_simp
                            with_reducible rfl
                          rotate_left
                          · simp only [Act.put, List.setIfInBounds_toArray, List.set_cons_zero, List.set_cons_succ, i64_w, i32_w]
                            rfl
                          refine pure_ (i := 9) (N := some 119) (v := undef) (a' := ?_) #[true, true, true, true, true, true, true, true, true, true, false, false, false, false] rfl rfl (any_of HT_.out (by kernel_rfl)) (fun _ _ _ h => h) (Or.inr ⟨by rfl, rfl⟩) ?_ ?_
                          rotate_left
                          · simp only [Act.put, List.setIfInBounds_toArray, List.set_cons_zero, List.set_cons_succ, i64_w, i32_w]
                            rfl
                          refine pure_ (i := 10) (N := some 120) (v := undef) (a' := ?_) #[true, true, true, true, true, true, true, true, true, true, true, false, false, false] rfl rfl (any_of HT_.out (by kernel_rfl)) (fun _ _ _ h => h) (Or.inr ⟨by rfl, rfl⟩) ?_ ?_
                          rotate_left
                          · simp only [Act.put, List.setIfInBounds_toArray, List.set_cons_zero, List.set_cons_succ, i64_w, i32_w]
                            rfl
                          refine pure_ (i := 11) (N := some 121) (v := ?_) (a' := ?_) #[true, true, true, true, true, true, true, true, true, true, true, true, false, false] rfl rfl (any_of HT_.out (by kernel_rfl)) (fun _ _ _ h => h) (Or.inl ⟨by rfl, ?_⟩) ?_ ?_
                          rotate_left
                          · intro w'
                            go_simp
                            with_reducible rfl
                          rotate_left
                          · simp only [Act.put, List.setIfInBounds_toArray, List.set_cons_zero, List.set_cons_succ, i64_w, i32_w]
                            rfl
                          refine pure_ (i := 12) (N := some 122) (v := ?_) (a' := ?_) #[true, true, true, true, true, true, true, true, true, true, true, true, true, false] rfl rfl (any_of HT_.out (by kernel_rfl)) (fun _ _ _ h => h) (Or.inl ⟨by rfl, ?_⟩) ?_ ?_
                          rotate_left
                          · intro w'
                            go_simp
                            with_reducible rfl
                          rotate_left
                          · simp only [Act.put, List.setIfInBounds_toArray, List.set_cons_zero, List.set_cons_succ, i64_w, i32_w]
                            rfl
                          refine pure_ (i := 13) (N := some 4) (v := ?_) (a' := ?_) #[true, true, true, true, true, true, true, true, true, true, true, true, true, true] rfl rfl (any_of HT_.out (by kernel_rfl)) (fun _ _ _ h => h) (Or.inl ⟨by rfl, ?_⟩) ?_ ?_
                          rotate_left
                          · intro w'
                            go_simp
                            with_reducible rfl
                          rotate_left
                          · simp only [Act.put, List.setIfInBounds_toArray, List.set_cons_zero, List.set_cons_succ, i64_w, i32_w]
                            rfl
                          refine done_ (done_of HT_.out (by kernel_rfl)) ?_
                          try go_wp2
                          go_ret
                          exact ⟨by first | rfl | (simp [errW_none, errW_some] <;> rfl) | (simp [*, errW_none, errW_some] <;> rfl), by repeat (first | (with_reducible first | exact HB.out | apply below_alloc | apply pw_below_drewN | apply below_drew1 | refine below_set ?_ GE118.out | refine below_set ?_ GE122.out | refine below_set ?_ GE127.out | refine below_set ?_ GE132.out) | exact HB.out)⟩
                      · replace c124 := Bool.eq_false_iff.mpr c124
                        subst c124
                        have H1 : (if (t130 != false) = true then (some false) else ((outage_Outage_Is.f true a0_1 false).bind fun t135 => (some (t135 == true)))) = some r := by rw [if_neg (show ¬ (false = true) by decide)] at H; exact H
                        clear H
                        have H := H1
                        clear H1
                        by_cases c143 : (t130 != false) = true
                        · rw [if_pos c143] at H
                          have c143b0 : (t130 != false) = true := c143
                          (try (have c143b1 : decide (t130 = false) = false := by simpa using c143))
                          (try (have c143b2 : (t130 == false) = false := by simpa using c143))
                          (try (have c143b3 : ¬ (t130 = false) := by simpa using c143))
                          clear c143
                          obtain rfl := Option.some.inj H
                          have hnb144 := NB118_122.out
                          have hnc144 := NB122_118.out
                          have hnb145 := NB118_127.out
                          have hnc145 := NB127_118.out
                          have hnb146 := NB118_132.out
                          have hnc146 := NB132_118.out
                          have hcz147_0 : wc.cell? ⟨gb118, 0, none⟩ = some (.bool true) := (blk_cell BK118.out 0).trans rfl
                          have hcz147_1 : wc.cell? ⟨gb118, 1, none⟩ = some (.bool a0_1) := (blk_cell BK118.out 1).trans rfl
                          have hcz147_2 : wc.cell? ⟨gb118, 2, none⟩ = some (.bool false) := (blk_cell BK118.out 2).trans rfl
                          have hfz147_0 := blk_frozen BK118.out 0
                          have hfz147_1 := blk_frozen BK118.out 1
                          have hfz147_2 := blk_frozen BK118.out 2
                          have hnb148 := NB132_122.out
                          have hnc148 := NB122_132.out
                          have hnb149 := NB132_127.out
                          have hnc149 := NB127_132.out
                          have hcz150_0 : wc.cell? ⟨gb132, 0, none⟩ = some (.bool t128) := (blk_cell BK132.out 0).trans rfl
                          have hcz150_1 : wc.cell? ⟨gb132, 1, none⟩ = some (.bool t129) := (blk_cell BK132.out 1).trans rfl
                          have hcz150_2 : wc.cell? ⟨gb132, 2, none⟩ = some (.bool t130) := (blk_cell BK132.out 2).trans rfl
                          have hfz150_0 := blk_frozen BK132.out 0
                          have hfz150_1 := blk_frozen BK132.out 1
                          have hfz150_2 := blk_frozen BK132.out 2
                          go_wp2
                          go_ret
                          exact ⟨by first | rfl | (simp [errW_none, errW_some] <;> rfl) | (simp [*, errW_none, errW_some] <;> rfl), by repeat (first | (with_reducible first | exact HB.out | apply below_alloc | apply pw_below_drewN | apply below_drew1 | refine below_set ?_ GE118.out | refine below_set ?_ GE122.out | refine below_set ?_ GE127.out | refine below_set ?_ GE132.out) | exact HB.out)⟩
                        · rw [if_neg c143] at H
                          have c143b0 : (t130 != false) = false := by simpa using c143
                          (try (have c143b1 : decide (t130 = false) = true := by simpa using c143))
                          (try (have c143b2 : (t130 == false) = true := by simpa using c143))
                          clear c143
                          replace H := Option.bind_eq_some_iff.mp H
                          obtain ⟨t135, A1510, H⟩ := H
                          replace H : (some (t135 == true)) = some r := H
                          have A151 := Aside0.mk A1510
                          clear A1510
                          obtain rfl := Option.some.inj H
                          have hnb152 := NB118_122.out
                          have hnc152 := NB122_118.out
                          have hnb153 := NB118_127.out
                          have hnc153 := NB127_118.out
                          have hnb154 := NB118_132.out
                          have hnc154 := NB132_118.out
                          have hcz155_0 : wc.cell? ⟨gb118, 0, none⟩ = some (.bool true) := (blk_cell BK118.out 0).trans rfl
                          have hcz155_1 : wc.cell? ⟨gb118, 1, none⟩ = some (.bool a0_1) := (blk_cell BK118.out 1).trans rfl
                          have hcz155_2 : wc.cell? ⟨gb118, 2, none⟩ = some (.bool false) := (blk_cell BK118.out 2).trans rfl
                          have hfz155_0 := blk_frozen BK118.out 0
                          have hfz155_1 := blk_frozen BK118.out 1
                          have hfz155_2 := blk_frozen BK118.out 2
                          have hnb156 := NB132_122.out
                          have hnc156 := NB122_132.out
                          have hnb157 := NB132_127.out
                          have hnc157 := NB127_132.out
                          have hcz158_0 : wc.cell? ⟨gb132, 0, none⟩ = some (.bool t128) := (blk_cell BK132.out 0).trans rfl
                          have hcz158_1 : wc.cell? ⟨gb132, 1, none⟩ = some (.bool t129) := (blk_cell BK132.out 1).trans rfl
                          have hcz158_2 : wc.cell? ⟨gb132, 2, none⟩ = some (.bool t130) := (blk_cell BK132.out 2).trans rfl
                          have hfz158_0 := blk_frozen BK132.out 0
                          have hfz158_1 := blk_frozen BK132.out 1
                          have hfz158_2 := blk_frozen BK132.out 2
                          try go_wp2
                          have n0_ := Aside0.mk (blk_drew BK118.out)
                          have n1_ := Aside0.mk (blk_drew BK122.out)
                          have n2_ := Aside0.mk (blk_drew BK127.out)
                          have n3_ := Aside0.mk (blk_drew BK132.out)
                          have n4_ := Aside0.mk (below_drew1 HB.out)
                          clear BK118
                          clear BK122
                          clear BK127
                          clear BK132
                          clear HB
                          have BK118 := n0_
                          have BK122 := n1_
                          have BK127 := n2_
                          have BK132 := n3_
                          have HB := n4_
                          clear n0_ n1_ n2_ n3_ n4_
                          refine start_ (n := 14) (S := fun w' => w'.cell? ⟨gb118, 0, none⟩ = some (.bool true) ∧ w'.cell? ⟨gb118, 1, none⟩ = some (.bool a0_1) ∧ w'.cell? ⟨gb118, 2, none⟩ = some (.bool false)) (ds := []) #[false, false, false, false, false, false, false, false, false, false, false, false, false, false] (by kernel_rfl) rfl rfl ⟨(blk_cell BK118.out 0).trans rfl, (blk_cell BK118.out 1).trans rfl, (blk_cell BK118.out 2).trans rfl⟩ (fun hHeld => ?_); refine with_tabW signalmanlaw15_OutageSteps.tab10 signalmanlaw15_OutageSteps.bits10 (fun HT_ HW_ => ?_)
                          generalize wc.drew = w159 at BK118 BK122 BK127 BK132 HB hHeld ⊢
                          refine pure_ (i := 2) (N := some 112) (v := ?_) (a' := ?_) #[false, false, true, false, false, false, false, false, false, false, false, false, false, false] rfl rfl (any_of HT_.out (by kernel_rfl)) (fun _ _ _ h => h) (Or.inl ⟨by rfl, ?_⟩) ?_ ?_
                          rotate_left
                          · intro w'
                            go_simp
                            with_reducible rfl
                          rotate_left
                          · simp only [Act.put, List.setIfInBounds_toArray, List.set_cons_zero, List.set_cons_succ, i64_w, i32_w]
                            rfl
                          refine take_ (i := 0) (N := some 110) (v := ?_) (a' := ?_) #[true, false, true, false, false, false, false, false, false, false, false, false, false, false] rfl rfl (take_ofW HT_.out HW_.out (by kernel_rfl)) (fun _ _ _ h => h) (Or.inl ⟨by rfl, ?_⟩) hHeld ?_ ?_
                          rotate_left
                          · rintro w' ⟨s0, s1, s2⟩
                            go_simp
                            with_reducible rfl
                          rotate_left
                          · simp only [Act.put, List.setIfInBounds_toArray, List.set_cons_zero, List.set_cons_succ, i64_w, i32_w]
                            rfl
                          refine take_ (i := 3) (N := some 113) (v := ?_) (a' := ?_) #[true, false, true, true, false, false, false, false, false, false, false, false, false, false] rfl rfl (take_ofW HT_.out HW_.out (by kernel_rfl)) (fun _ _ _ h => h) (Or.inl ⟨by rfl, ?_⟩) hHeld ?_ ?_
                          rotate_left
                          · rintro w' ⟨s0, s1, s2⟩
                            go_simp
                            with_reducible rfl
                          rotate_left
                          · simp only [Act.put, List.setIfInBounds_toArray, List.set_cons_zero, List.set_cons_succ, i64_w, i32_w]
                            rfl
                          refine one_ (i := 1) (N := some 111) #[true, true, true, true, false, false, false, false, false, false, false, false, false, false] rfl rfl (one_of HT_.out (by kernel_rfl)) (by decide) (fun K hK => ?_)
                          refine goes_ Try.func10 (by kernel_rfl) rfl #[.agg #[.bool true, .bool a0_1, .bool false]] (by rfl) rfl rfl (by (try simp only [List.map_toArray, List.map_cons, List.map_nil]); first | done | rfl | (simp only [List.length_drop, List.length_take]; rfl) | (simp [Act.eval, *]; done)) ?_
                          with_reducible refine (outage_Outage_Is.calls true a0_1 false t135 _ A151.out).mono ?_
                          rintro e w160 ⟨rfl, hb⟩
                          refine ⟨_, rfl, ?_⟩
                          have n0_ := Aside0.mk (blk_below (g := gb118) (o := .cells #[.bool true, .bool a0_1, .bool false] 23 (0, 0)) (by (with_reducible repeat (first | refine blk_drewN ?_ _ | refine blk_drew ?_ | refine blk_alloc ?_ _)); exact BK118.out) hb)
                          have n1_ := Aside0.mk (blk_below (g := gb122) (o := .cells #[.bool t119, .bool t120, .bool t121] 23 (0, 0)) (by (with_reducible repeat (first | refine blk_drewN ?_ _ | refine blk_drew ?_ | refine blk_alloc ?_ _)); exact BK122.out) hb)
                          have n2_ := Aside0.mk (blk_below (g := gb127) (o := .cells #[.bool t123, .bool t124, .bool t125] 23 (0, 0)) (by (with_reducible repeat (first | refine blk_drewN ?_ _ | refine blk_drew ?_ | refine blk_alloc ?_ _)); exact BK127.out) hb)
                          have n3_ := Aside0.mk (blk_below (g := gb132) (o := .cells #[.bool t128, .bool t129, .bool t130] 23 (0, 0)) (by (with_reducible repeat (first | refine blk_drewN ?_ _ | refine blk_drew ?_ | refine blk_alloc ?_ _)); exact BK132.out) hb)
                          have n4_ := Aside0.mk (below_step (by repeat (first | (with_reducible first | exact HB.out | apply below_alloc | apply pw_below_drewN | apply below_drew1 | refine below_set ?_ GE118.out | refine below_set ?_ GE122.out | refine below_set ?_ GE127.out | refine below_set ?_ GE132.out) | exact HB.out)) hb)
                          clear BK118
                          clear BK122
                          clear BK127
                          clear BK132
                          clear HB
                          have BK118 := n0_
                          have BK122 := n1_
                          have BK127 := n2_
                          have BK132 := n3_
                          have HB := n4_
                          clear n0_ n1_ n2_ n3_ n4_
                          (try clear hb)
                          (try clear hb2)
                          (try clear hk)
                          (try clear hi)
                          refine hK.out _ _ ⟨(blk_cell BK118.out 0).trans rfl, (blk_cell BK118.out 1).trans rfl, (blk_cell BK118.out 2).trans rfl⟩ (fun hHeld => ?_)
                          clear hK K
                          refine norm_ (a' := ?_) ?_ ?_
                          rotate_left
                          · show Act.put _ (some 111) _ = _
                            simp only [Act.put, List.setIfInBounds_toArray, List.set_cons_zero, List.set_cons_succ, i64_w, i32_w]
                            rfl
                          refine pure_ (i := 4) (N := some 114) (v := ?_) (a' := ?_) #[true, true, true, true, true, false, false, false, false, false, false, false, false, false] rfl rfl (any_of HT_.out (by kernel_rfl)) (fun _ _ _ h => h) (Or.inl ⟨by rfl, ?_⟩) ?_ ?_
                          rotate_left
                          · intro w'
                            go_simp
                            with_reducible rfl
                          rotate_left
                          · simp only [Act.put, List.setIfInBounds_toArray, List.set_cons_zero, List.set_cons_succ, i64_w, i32_w]
                            rfl
                          refine pure_ (i := 5) (N := some 115) (v := undef) (a' := ?_) #[true, true, true, true, true, true, false, false, false, false, false, false, false, false] rfl rfl (any_of HT_.out (by kernel_rfl)) (fun _ _ _ h => h) (Or.inr ⟨by rfl, rfl⟩) ?_ ?_
                          rotate_left
                          · simp only [Act.put, List.setIfInBounds_toArray, List.set_cons_zero, List.set_cons_succ, i64_w, i32_w]
                            rfl
                          refine pure_ (i := 6) (N := some 116) (v := undef) (a' := ?_) #[true, true, true, true, true, true, true, false, false, false, false, false, false, false] rfl rfl (any_of HT_.out (by kernel_rfl)) (fun _ _ _ h => h) (Or.inr ⟨by rfl, rfl⟩) ?_ ?_
                          rotate_left
                          · simp only [Act.put, List.setIfInBounds_toArray, List.set_cons_zero, List.set_cons_succ, i64_w, i32_w]
                            rfl
                          refine pure_ (i := 7) (N := some 117) (v := ?_) (a' := ?_) #[true, true, true, true, true, true, true, true, false, false, false, false, false, false] rfl rfl (any_of HT_.out (by kernel_rfl)) (fun _ _ _ h => h) (Or.inl ⟨by rfl, ?_⟩) ?_ ?_
                          rotate_left
                          · intro w'
                            go_simp
                            with_reducible rfl
                          rotate_left
                          · simp only [Act.put, List.setIfInBounds_toArray, List.set_cons_zero, List.set_cons_succ, i64_w, i32_w]
                            rfl
                          refine pure_ (i := 8) (N := some 118) (v := ?_) (a' := ?_) #[true, true, true, true, true, true, true, true, true, false, false, false, false, false] rfl rfl (any_of HT_.out (by kernel_rfl)) (fun _ _ _ h => h) (Or.inl ⟨by rfl, ?_⟩) ?_ ?_
                          rotate_left
                          · intro w'
                            go_simp
                            with_reducible rfl
                          rotate_left
                          · simp only [Act.put, List.setIfInBounds_toArray, List.set_cons_zero, List.set_cons_succ, i64_w, i32_w]
                            rfl
                          refine pure_ (i := 9) (N := some 119) (v := undef) (a' := ?_) #[true, true, true, true, true, true, true, true, true, true, false, false, false, false] rfl rfl (any_of HT_.out (by kernel_rfl)) (fun _ _ _ h => h) (Or.inr ⟨by rfl, rfl⟩) ?_ ?_
                          rotate_left
                          · simp only [Act.put, List.setIfInBounds_toArray, List.set_cons_zero, List.set_cons_succ, i64_w, i32_w]
                            rfl
                          refine pure_ (i := 10) (N := some 120) (v := undef) (a' := ?_) #[true, true, true, true, true, true, true, true, true, true, true, false, false, false] rfl rfl (any_of HT_.out (by kernel_rfl)) (fun _ _ _ h => h) (Or.inr ⟨by rfl, rfl⟩) ?_ ?_
                          rotate_left
                          · simp only [Act.put, List.setIfInBounds_toArray, List.set_cons_zero, List.set_cons_succ, i64_w, i32_w]
                            rfl
                          refine pure_ (i := 11) (N := some 121) (v := ?_) (a' := ?_) #[true, true, true, true, true, true, true, true, true, true, true, true, false, false] rfl rfl (any_of HT_.out (by kernel_rfl)) (fun _ _ _ h => h) (Or.inl ⟨by rfl, ?_⟩) ?_ ?_
                          rotate_left
                          · intro w'
                            go_simp
                            with_reducible rfl
                          rotate_left
                          · simp only [Act.put, List.setIfInBounds_toArray, List.set_cons_zero, List.set_cons_succ, i64_w, i32_w]
                            rfl
                          refine pure_ (i := 12) (N := some 122) (v := ?_) (a' := ?_) #[true, true, true, true, true, true, true, true, true, true, true, true, true, false] rfl rfl (any_of HT_.out (by kernel_rfl)) (fun _ _ _ h => h) (Or.inl ⟨by rfl, ?_⟩) ?_ ?_
                          rotate_left
                          · intro w'
                            go_simp
                            with_reducible rfl
                          rotate_left
                          · simp only [Act.put, List.setIfInBounds_toArray, List.set_cons_zero, List.set_cons_succ, i64_w, i32_w]
                            rfl
                          refine pure_ (i := 13) (N := some 4) (v := ?_) (a' := ?_) #[true, true, true, true, true, true, true, true, true, true, true, true, true, true] rfl rfl (any_of HT_.out (by kernel_rfl)) (fun _ _ _ h => h) (Or.inl ⟨by rfl, ?_⟩) ?_ ?_
                          rotate_left
                          · intro w'
                            go_simp
                            with_reducible rfl
                          rotate_left
                          · simp only [Act.put, List.setIfInBounds_toArray, List.set_cons_zero, List.set_cons_succ, i64_w, i32_w]
                            rfl
                          refine done_ (done_of HT_.out (by kernel_rfl)) ?_
                          try go_wp2
                          go_ret
                          exact ⟨by first | rfl | (simp [errW_none, errW_some] <;> rfl) | (simp [*, errW_none, errW_some] <;> rfl), by repeat (first | (with_reducible first | exact HB.out | apply below_alloc | apply pw_below_drewN | apply below_drew1 | refine below_set ?_ GE118.out | refine below_set ?_ GE122.out | refine below_set ?_ GE127.out | refine below_set ?_ GE132.out) | exact HB.out)⟩
              · replace c102 := Bool.eq_false_iff.mpr c102
                subst c102
                have H1 : (if (t131 != (!a0_1)) = true then (some false) else (if (t128 != false) = true then (some false) else (if (t129 != a0_1) = true then (some false) else (if a0_2 = true then (if (t130 != (!t131)) = true then (some false) else ((outage_Outage_Is.f false a0_1 a0_2).bind fun t136 => (if a0_1 = true then (some (t136 == true)) else (some (t136 == a0_2))))) else (if (t130 != false) = true then (some false) else ((outage_Outage_Is.f false a0_1 a0_2).bind fun t137 => (if a0_1 = true then (some (t137 == true)) else (some (t137 == a0_2))))))))) = some r := by rw [if_neg (show ¬ (false = true) by decide)] at H; exact H
                clear H
                have H := H1
                clear H1
                by_cases c161 : (t131 != (!a0_1)) = true
                · rw [if_pos c161] at H
                  have c161b0 : (t131 != (!a0_1)) = true := c161
                  (try (have c161b1 : decide (t131 = (!a0_1)) = false := by simpa using c161))
                  (try (have c161b2 : (t131 == (!a0_1)) = false := by simpa using c161))
                  (try (have c161b3 : (!t131 == (!a0_1)) = true := by first | exact (show ∀ a_ b_ : Bool, ¬ ((a_ != !b_) = true) → (!a_ == !b_) = false by decide) _ _ c161 | exact (show ∀ a_ b_ : Bool, ((a_ != !b_) = true) → (!a_ == !b_) = true by decide) _ _ c161))
                  (try (have c161b4 : ¬ (t131 = (!a0_1)) := by simpa using c161))
                  clear c161
                  obtain rfl := Option.some.inj H
                  have hnb162 := NB118_122.out
                  have hnc162 := NB122_118.out
                  have hnb163 := NB118_127.out
                  have hnc163 := NB127_118.out
                  have hnb164 := NB118_132.out
                  have hnc164 := NB132_118.out
                  have hcz165_0 : wc.cell? ⟨gb118, 0, none⟩ = some (.bool false) := (blk_cell BK118.out 0).trans rfl
                  have hcz165_1 : wc.cell? ⟨gb118, 1, none⟩ = some (.bool a0_1) := (blk_cell BK118.out 1).trans rfl
                  have hcz165_2 : wc.cell? ⟨gb118, 2, none⟩ = some (.bool a0_2) := (blk_cell BK118.out 2).trans rfl
                  have hfz165_0 := blk_frozen BK118.out 0
                  have hfz165_1 := blk_frozen BK118.out 1
                  have hfz165_2 := blk_frozen BK118.out 2
                  go_wp2
                  go_ret
                  exact ⟨by first | rfl | (simp [errW_none, errW_some] <;> rfl) | (simp [*, errW_none, errW_some] <;> rfl), by repeat (first | (with_reducible first | exact HB.out | apply below_alloc | apply pw_below_drewN | apply below_drew1 | refine below_set ?_ GE118.out | refine below_set ?_ GE122.out | refine below_set ?_ GE127.out | refine below_set ?_ GE132.out) | exact HB.out)⟩
                · rw [if_neg c161] at H
                  have c161b0 : (t131 != (!a0_1)) = false := by simpa using c161
                  (try (have c161b1 : decide (t131 = (!a0_1)) = true := by simpa using c161))
                  (try (have c161b2 : (t131 == (!a0_1)) = true := by simpa using c161))
                  (try (have c161b3 : (!t131 == (!a0_1)) = false := by first | exact (show ∀ a_ b_ : Bool, ¬ ((a_ != !b_) = true) → (!a_ == !b_) = false by decide) _ _ c161 | exact (show ∀ a_ b_ : Bool, ((a_ != !b_) = true) → (!a_ == !b_) = true by decide) _ _ c161))
                  clear c161
                  by_cases c166 : (t128 != false) = true
                  · rw [if_pos c166] at H
                    have c166b0 : (t128 != false) = true := c166
                    (try (have c166b1 : decide (t128 = false) = false := by simpa using c166))
                    (try (have c166b2 : (t128 == false) = false := by simpa using c166))
                    (try (have c166b3 : ¬ (t128 = false) := by simpa using c166))
                    clear c166
                    obtain rfl := Option.some.inj H
                    have hnb167 := NB118_122.out
                    have hnc167 := NB122_118.out
                    have hnb168 := NB118_127.out
                    have hnc168 := NB127_118.out
                    have hnb169 := NB118_132.out
                    have hnc169 := NB132_118.out
                    have hcz170_0 : wc.cell? ⟨gb118, 0, none⟩ = some (.bool false) := (blk_cell BK118.out 0).trans rfl
                    have hcz170_1 : wc.cell? ⟨gb118, 1, none⟩ = some (.bool a0_1) := (blk_cell BK118.out 1).trans rfl
                    have hcz170_2 : wc.cell? ⟨gb118, 2, none⟩ = some (.bool a0_2) := (blk_cell BK118.out 2).trans rfl
                    have hfz170_0 := blk_frozen BK118.out 0
                    have hfz170_1 := blk_frozen BK118.out 1
                    have hfz170_2 := blk_frozen BK118.out 2
                    have hnb171 := NB132_122.out
                    have hnc171 := NB122_132.out
                    have hnb172 := NB132_127.out
                    have hnc172 := NB127_132.out
                    have hcz173_0 : wc.cell? ⟨gb132, 0, none⟩ = some (.bool t128) := (blk_cell BK132.out 0).trans rfl
                    have hcz173_1 : wc.cell? ⟨gb132, 1, none⟩ = some (.bool t129) := (blk_cell BK132.out 1).trans rfl
                    have hcz173_2 : wc.cell? ⟨gb132, 2, none⟩ = some (.bool t130) := (blk_cell BK132.out 2).trans rfl
                    have hfz173_0 := blk_frozen BK132.out 0
                    have hfz173_1 := blk_frozen BK132.out 1
                    have hfz173_2 := blk_frozen BK132.out 2
                    go_wp2
                    go_ret
                    exact ⟨by first | rfl | (simp [errW_none, errW_some] <;> rfl) | (simp [*, errW_none, errW_some] <;> rfl), by repeat (first | (with_reducible first | exact HB.out | apply below_alloc | apply pw_below_drewN | apply below_drew1 | refine below_set ?_ GE118.out | refine below_set ?_ GE122.out | refine below_set ?_ GE127.out | refine below_set ?_ GE132.out) | exact HB.out)⟩
                  · rw [if_neg c166] at H
                    have c166b0 : (t128 != false) = false := by simpa using c166
                    (try (have c166b1 : decide (t128 = false) = true := by simpa using c166))
                    (try (have c166b2 : (t128 == false) = true := by simpa using c166))
                    clear c166
                    by_cases c174 : (t129 != a0_1) = true
                    · rw [if_pos c174] at H
                      have c174b0 : (t129 != a0_1) = true := c174
                      (try (have c174b1 : decide (t129 = a0_1) = false := by simpa using c174))
                      (try (have c174b2 : (t129 == a0_1) = false := by simpa using c174))
                      (try (have c174b3 : ¬ (t129 = a0_1) := by simpa using c174))
                      clear c174
                      obtain rfl := Option.some.inj H
                      have hnb175 := NB118_122.out
                      have hnc175 := NB122_118.out
                      have hnb176 := NB118_127.out
                      have hnc176 := NB127_118.out
                      have hnb177 := NB118_132.out
                      have hnc177 := NB132_118.out
                      have hcz178_0 : wc.cell? ⟨gb118, 0, none⟩ = some (.bool false) := (blk_cell BK118.out 0).trans rfl
                      have hcz178_1 : wc.cell? ⟨gb118, 1, none⟩ = some (.bool a0_1) := (blk_cell BK118.out 1).trans rfl
                      have hcz178_2 : wc.cell? ⟨gb118, 2, none⟩ = some (.bool a0_2) := (blk_cell BK118.out 2).trans rfl
                      have hfz178_0 := blk_frozen BK118.out 0
                      have hfz178_1 := blk_frozen BK118.out 1
                      have hfz178_2 := blk_frozen BK118.out 2
                      have hnb179 := NB132_122.out
                      have hnc179 := NB122_132.out
                      have hnb180 := NB132_127.out
                      have hnc180 := NB127_132.out
                      have hcz181_0 : wc.cell? ⟨gb132, 0, none⟩ = some (.bool t128) := (blk_cell BK132.out 0).trans rfl
                      have hcz181_1 : wc.cell? ⟨gb132, 1, none⟩ = some (.bool t129) := (blk_cell BK132.out 1).trans rfl
                      have hcz181_2 : wc.cell? ⟨gb132, 2, none⟩ = some (.bool t130) := (blk_cell BK132.out 2).trans rfl
                      have hfz181_0 := blk_frozen BK132.out 0
                      have hfz181_1 := blk_frozen BK132.out 1
                      have hfz181_2 := blk_frozen BK132.out 2
                      go_wp2
                      go_ret
                      exact ⟨by first | rfl | (simp [errW_none, errW_some] <;> rfl) | (simp [*, errW_none, errW_some] <;> rfl), by repeat (first | (with_reducible first | exact HB.out | apply below_alloc | apply pw_below_drewN | apply below_drew1 | refine below_set ?_ GE118.out | refine below_set ?_ GE122.out | refine below_set ?_ GE127.out | refine below_set ?_ GE132.out) | exact HB.out)⟩
                    · rw [if_neg c174] at H
                      have c174b0 : (t129 != a0_1) = false := by simpa using c174
                      (try (have c174b1 : decide (t129 = a0_1) = true := by simpa using c174))
                      (try (have c174b2 : (t129 == a0_1) = true := by simpa using c174))
                      clear c174
                      by_cases c182 : a0_2 = true
                      · subst c182
                        have H1 : (if (t130 != (!t131)) = true then (some false) else ((outage_Outage_Is.f false a0_1 true).bind fun t136 => (if a0_1 = true then (some (t136 == true)) else (some (t136 == true))))) = some r := by rw [if_pos rfl] at H; exact H
                        clear H
                        have H := H1
                        clear H1
                        by_cases c183 : (t130 != (!t131)) = true
                        · rw [if_pos c183] at H
                          have c183b0 : (t130 != (!t131)) = true := c183
                          (try (have c183b1 : decide (t130 = (!t131)) = false := by simpa using c183))
                          (try (have c183b2 : (t130 == (!t131)) = false := by simpa using c183))
                          (try (have c183b3 : (!t130 == (!t131)) = true := by first | exact (show ∀ a_ b_ : Bool, ¬ ((a_ != !b_) = true) → (!a_ == !b_) = false by decide) _ _ c183 | exact (show ∀ a_ b_ : Bool, ((a_ != !b_) = true) → (!a_ == !b_) = true by decide) _ _ c183))
                          (try (have c183b4 : ¬ (t130 = (!t131)) := by simpa using c183))
                          clear c183
                          obtain rfl := Option.some.inj H
                          have hnb184 := NB118_122.out
                          have hnc184 := NB122_118.out
                          have hnb185 := NB118_127.out
                          have hnc185 := NB127_118.out
                          have hnb186 := NB118_132.out
                          have hnc186 := NB132_118.out
                          have hcz187_0 : wc.cell? ⟨gb118, 0, none⟩ = some (.bool false) := (blk_cell BK118.out 0).trans rfl
                          have hcz187_1 : wc.cell? ⟨gb118, 1, none⟩ = some (.bool a0_1) := (blk_cell BK118.out 1).trans rfl
                          have hcz187_2 : wc.cell? ⟨gb118, 2, none⟩ = some (.bool true) := (blk_cell BK118.out 2).trans rfl
                          have hfz187_0 := blk_frozen BK118.out 0
                          have hfz187_1 := blk_frozen BK118.out 1
                          have hfz187_2 := blk_frozen BK118.out 2
                          have hnb188 := NB132_122.out
                          have hnc188 := NB122_132.out
                          have hnb189 := NB132_127.out
                          have hnc189 := NB127_132.out
                          have hcz190_0 : wc.cell? ⟨gb132, 0, none⟩ = some (.bool t128) := (blk_cell BK132.out 0).trans rfl
                          have hcz190_1 : wc.cell? ⟨gb132, 1, none⟩ = some (.bool t129) := (blk_cell BK132.out 1).trans rfl
                          have hcz190_2 : wc.cell? ⟨gb132, 2, none⟩ = some (.bool t130) := (blk_cell BK132.out 2).trans rfl
                          have hfz190_0 := blk_frozen BK132.out 0
                          have hfz190_1 := blk_frozen BK132.out 1
                          have hfz190_2 := blk_frozen BK132.out 2
                          go_wp2
                          go_ret
                          exact ⟨by first | rfl | (simp [errW_none, errW_some] <;> rfl) | (simp [*, errW_none, errW_some] <;> rfl), by repeat (first | (with_reducible first | exact HB.out | apply below_alloc | apply pw_below_drewN | apply below_drew1 | refine below_set ?_ GE118.out | refine below_set ?_ GE122.out | refine below_set ?_ GE127.out | refine below_set ?_ GE132.out) | exact HB.out)⟩
                        · rw [if_neg c183] at H
                          have c183b0 : (t130 != (!t131)) = false := by simpa using c183
                          (try (have c183b1 : decide (t130 = (!t131)) = true := by simpa using c183))
                          (try (have c183b2 : (t130 == (!t131)) = true := by simpa using c183))
                          (try (have c183b3 : (!t130 == (!t131)) = false := by first | exact (show ∀ a_ b_ : Bool, ¬ ((a_ != !b_) = true) → (!a_ == !b_) = false by decide) _ _ c183 | exact (show ∀ a_ b_ : Bool, ((a_ != !b_) = true) → (!a_ == !b_) = true by decide) _ _ c183))
                          clear c183
                          replace H := Option.bind_eq_some_iff.mp H
                          obtain ⟨t136, A1910, H⟩ := H
                          replace H : (if a0_1 = true then (some (t136 == true)) else (some (t136 == true))) = some r := H
                          have A191 := Aside0.mk A1910
                          clear A1910
                          by_cases c192 : a0_1 = true
                          · subst c192
                            have H1 : (some (t136 == true)) = some r := by rw [if_pos rfl] at H; exact H
                            clear H
                            have H := H1
                            clear H1
                            obtain rfl := Option.some.inj H
                            have hnb193 := NB118_122.out
                            have hnc193 := NB122_118.out
                            have hnb194 := NB118_127.out
                            have hnc194 := NB127_118.out
                            have hnb195 := NB118_132.out
                            have hnc195 := NB132_118.out
                            have hcz196_0 : wc.cell? ⟨gb118, 0, none⟩ = some (.bool false) := (blk_cell BK118.out 0).trans rfl
                            have hcz196_1 : wc.cell? ⟨gb118, 1, none⟩ = some (.bool true) := (blk_cell BK118.out 1).trans rfl
                            have hcz196_2 : wc.cell? ⟨gb118, 2, none⟩ = some (.bool true) := (blk_cell BK118.out 2).trans rfl
                            have hfz196_0 := blk_frozen BK118.out 0
                            have hfz196_1 := blk_frozen BK118.out 1
                            have hfz196_2 := blk_frozen BK118.out 2
                            have hnb197 := NB132_122.out
                            have hnc197 := NB122_132.out
                            have hnb198 := NB132_127.out
                            have hnc198 := NB127_132.out
                            have hcz199_0 : wc.cell? ⟨gb132, 0, none⟩ = some (.bool t128) := (blk_cell BK132.out 0).trans rfl
                            have hcz199_1 : wc.cell? ⟨gb132, 1, none⟩ = some (.bool t129) := (blk_cell BK132.out 1).trans rfl
                            have hcz199_2 : wc.cell? ⟨gb132, 2, none⟩ = some (.bool t130) := (blk_cell BK132.out 2).trans rfl
                            have hfz199_0 := blk_frozen BK132.out 0
                            have hfz199_1 := blk_frozen BK132.out 1
                            have hfz199_2 := blk_frozen BK132.out 2
                            (try (have z_ : t131 = true := by revert c161b3; cases t131 <;> decide))
                            (try (have z_ : t131 = false := by revert c161b3; cases t131 <;> decide))
                            (try (have z_ : t131 = true := by revert c161b3; cases t131 <;> decide))
                            (try (have z_ : t131 = false := by revert c161b3; cases t131 <;> decide))
                            (try (have y_ : t130 = true := by revert c183b0 z_; cases t130 <;> cases t131 <;> decide))
                            (try (have y_ : t130 = false := by revert c183b0 z_; cases t130 <;> cases t131 <;> decide))
                            try go_wp2
                            have n0_ := Aside0.mk (blk_drew BK118.out)
                            have n1_ := Aside0.mk (blk_drew BK122.out)
                            have n2_ := Aside0.mk (blk_drew BK127.out)
                            have n3_ := Aside0.mk (blk_drew BK132.out)
                            have n4_ := Aside0.mk (below_drew1 HB.out)
                            clear BK118
                            clear BK122
                            clear BK127
                            clear BK132
                            clear HB
                            have BK118 := n0_
                            have BK122 := n1_
                            have BK127 := n2_
                            have BK132 := n3_
                            have HB := n4_
                            clear n0_ n1_ n2_ n3_ n4_
                            refine start_ (n := 14) (S := fun w' => w'.cell? ⟨gb118, 0, none⟩ = some (.bool false) ∧ w'.cell? ⟨gb118, 1, none⟩ = some (.bool true) ∧ w'.cell? ⟨gb118, 2, none⟩ = some (.bool true)) (ds := []) #[false, false, false, false, false, false, false, false, false, false, false, false, false, false] (by kernel_rfl) rfl rfl ⟨(blk_cell BK118.out 0).trans rfl, (blk_cell BK118.out 1).trans rfl, (blk_cell BK118.out 2).trans rfl⟩ (fun hHeld => ?_); refine with_tabW signalmanlaw15_OutageSteps.tab10 signalmanlaw15_OutageSteps.bits10 (fun HT_ HW_ => ?_)
                            generalize wc.drew = w200 at BK118 BK122 BK127 BK132 HB hHeld ⊢
                            refine pure_ (i := 2) (N := some 112) (v := ?_) (a' := ?_) #[false, false, true, false, false, false, false, false, false, false, false, false, false, false] rfl rfl (any_of HT_.out (by kernel_rfl)) (fun _ _ _ h => h) (Or.inl ⟨by rfl, ?_⟩) ?_ ?_
                            rotate_left
                            · intro w'
                              go_simp
                              with_reducible rfl
                            rotate_left
                            · simp only [Act.put, List.setIfInBounds_toArray, List.set_cons_zero, List.set_cons_succ, i64_w, i32_w]
                              rfl
                            refine take_ (i := 0) (N := some 110) (v := ?_) (a' := ?_) #[true, false, true, false, false, false, false, false, false, false, false, false, false, false] rfl rfl (take_ofW HT_.out HW_.out (by kernel_rfl)) (fun _ _ _ h => h) (Or.inl ⟨by rfl, ?_⟩) hHeld ?_ ?_
                            rotate_left
                            · rintro w' ⟨s0, s1, s2⟩
                              go_simp
                              with_reducible rfl
                            rotate_left
                            · simp only [Act.put, List.setIfInBounds_toArray, List.set_cons_zero, List.set_cons_succ, i64_w, i32_w]
                              rfl
                            refine take_ (i := 3) (N := some 113) (v := ?_) (a' := ?_) #[true, false, true, true, false, false, false, false, false, false, false, false, false, false] rfl rfl (take_ofW HT_.out HW_.out (by kernel_rfl)) (fun _ _ _ h => h) (Or.inl ⟨by rfl, ?_⟩) hHeld ?_ ?_
                            rotate_left
                            · rintro w' ⟨s0, s1, s2⟩
                              go_simp
                              with_reducible rfl
                            rotate_left
                            · simp only [Act.put, List.setIfInBounds_toArray, List.set_cons_zero, List.set_cons_succ, i64_w, i32_w]
                              rfl
                            refine one_ (i := 1) (N := some 111) #[true, true, true, true, false, false, false, false, false, false, false, false, false, false] rfl rfl (one_of HT_.out (by kernel_rfl)) (by decide) (fun K hK => ?_)
                            refine goes_ Try.func10 (by kernel_rfl) rfl #[.agg #[.bool false, .bool true, .bool true]] (by rfl) rfl rfl (by (try simp only [List.map_toArray, List.map_cons, List.map_nil]); first | done | rfl | (simp only [List.length_drop, List.length_take]; rfl) | (simp [Act.eval, *]; done)) ?_
                            with_reducible refine (outage_Outage_Is.calls false true true t136 _ A191.out).mono ?_
                            rintro e w201 ⟨rfl, hb⟩
                            refine ⟨_, rfl, ?_⟩
                            have n0_ := Aside0.mk (blk_below (g := gb118) (o := .cells #[.bool false, .bool true, .bool true] 23 (0, 0)) (by (with_reducible repeat (first | refine blk_drewN ?_ _ | refine blk_drew ?_ | refine blk_alloc ?_ _)); exact BK118.out) hb)
                            have n1_ := Aside0.mk (blk_below (g := gb122) (o := .cells #[.bool t119, .bool t120, .bool t121] 23 (0, 0)) (by (with_reducible repeat (first | refine blk_drewN ?_ _ | refine blk_drew ?_ | refine blk_alloc ?_ _)); exact BK122.out) hb)
                            have n2_ := Aside0.mk (blk_below (g := gb127) (o := .cells #[.bool t123, .bool t124, .bool t125] 23 (0, 0)) (by (with_reducible repeat (first | refine blk_drewN ?_ _ | refine blk_drew ?_ | refine blk_alloc ?_ _)); exact BK127.out) hb)
                            have n3_ := Aside0.mk (blk_below (g := gb132) (o := .cells #[.bool t128, .bool t129, .bool t130] 23 (0, 0)) (by (with_reducible repeat (first | refine blk_drewN ?_ _ | refine blk_drew ?_ | refine blk_alloc ?_ _)); exact BK132.out) hb)
                            have n4_ := Aside0.mk (below_step (by repeat (first | (with_reducible first | exact HB.out | apply below_alloc | apply pw_below_drewN | apply below_drew1 | refine below_set ?_ GE118.out | refine below_set ?_ GE122.out | refine below_set ?_ GE127.out | refine below_set ?_ GE132.out) | exact HB.out)) hb)
                            clear BK118
                            clear BK122
                            clear BK127
                            clear BK132
                            clear HB
                            have BK118 := n0_
                            have BK122 := n1_
                            have BK127 := n2_
                            have BK132 := n3_
                            have HB := n4_
                            clear n0_ n1_ n2_ n3_ n4_
                            (try clear hb)
                            (try clear hb2)
                            (try clear hk)
                            (try clear hi)
                            refine hK.out _ _ ⟨(blk_cell BK118.out 0).trans rfl, (blk_cell BK118.out 1).trans rfl, (blk_cell BK118.out 2).trans rfl⟩ (fun hHeld => ?_)
                            clear hK K
                            refine norm_ (a' := ?_) ?_ ?_
                            rotate_left
                            · show Act.put _ (some 111) _ = _
                              simp only [Act.put, List.setIfInBounds_toArray, List.set_cons_zero, List.set_cons_succ, i64_w, i32_w]
                              rfl
                            refine pure_ (i := 4) (N := some 114) (v := ?_) (a' := ?_) #[true, true, true, true, true, false, false, false, false, false, false, false, false, false] rfl rfl (any_of HT_.out (by kernel_rfl)) (fun _ _ _ h => h) (Or.inl ⟨by rfl, ?_⟩) ?_ ?_
                            rotate_left
                            · intro w'
                              go_simp
                              with_reducible rfl
                            rotate_left
                            · simp only [Act.put, List.setIfInBounds_toArray, List.set_cons_zero, List.set_cons_succ, i64_w, i32_w]
                              rfl
                            refine pure_ (i := 5) (N := some 115) (v := ?_) (a' := ?_) #[true, true, true, true, true, true, false, false, false, false, false, false, false, false] rfl rfl (any_of HT_.out (by kernel_rfl)) (fun _ _ _ h => h) (Or.inl ⟨by rfl, ?_⟩) ?_ ?_
                            rotate_left
                            · intro w'
                              go_simp
                              with_reducible rfl
                            rotate_left
                            · simp only [Act.put, List.setIfInBounds_toArray, List.set_cons_zero, List.set_cons_succ, i64_w, i32_w]
                              rfl
                            refine take_ (i := 6) (N := some 116) (v := ?_) (a' := ?_) #[true, true, true, true, true, true, true, false, false, false, false, false, false, false] rfl rfl (take_ofW HT_.out HW_.out (by kernel_rfl)) (fun _ _ _ h => h) (Or.inl ⟨by rfl, ?_⟩) hHeld ?_ ?_
                            rotate_left
                            · rintro w' ⟨s0, s1, s2⟩
                              go_simp
                              with_reducible rfl
                            rotate_left
                            · simp only [Act.put, List.setIfInBounds_toArray, List.set_cons_zero, List.set_cons_succ, i64_w, i32_w]
                              rfl
                            refine pure_ (i := 7) (N := some 117) (v := ?_) (a' := ?_) #[true, true, true, true, true, true, true, true, false, false, false, false, false, false] rfl rfl (any_of HT_.out (by kernel_rfl)) (fun _ _ _ h => h) (Or.inl ⟨by rfl, ?_⟩) ?_ ?_
                            rotate_left
                            · intro w'
                              go_simp
                              with_reducible rfl
                            rotate_left
                            · simp only [Act.put, List.setIfInBounds_toArray, List.set_cons_zero, List.set_cons_succ, i64_w, i32_w]
                              rfl
                            refine pure_ (i := 8) (N := some 118) (v := ?_) (a' := ?_) #[true, true, true, true, true, true, true, true, true, false, false, false, false, false] rfl rfl (any_of HT_.out (by kernel_rfl)) (fun _ _ _ h => h) (Or.inl ⟨by rfl, ?_⟩) ?_ ?_
                            rotate_left
                            · intro w'
                              go_simp
                              with_reducible rfl
                            rotate_left
                            · simp only [Act.put, List.setIfInBounds_toArray, List.set_cons_zero, List.set_cons_succ, i64_w, i32_w]
                              rfl
                            refine pure_ (i := 9) (N := some 119) (v := undef) (a' := ?_) #[true, true, true, true, true, true, true, true, true, true, false, false, false, false] rfl rfl (any_of HT_.out (by kernel_rfl)) (fun _ _ _ h => h) (Or.inr ⟨by rfl, rfl⟩) ?_ ?_
                            rotate_left
                            · simp only [Act.put, List.setIfInBounds_toArray, List.set_cons_zero, List.set_cons_succ, i64_w, i32_w]
                              rfl
                            refine pure_ (i := 10) (N := some 120) (v := undef) (a' := ?_) #[true, true, true, true, true, true, true, true, true, true, true, false, false, false] rfl rfl (any_of HT_.out (by kernel_rfl)) (fun _ _ _ h => h) (Or.inr ⟨by rfl, rfl⟩) ?_ ?_
                            rotate_left
                            · simp only [Act.put, List.setIfInBounds_toArray, List.set_cons_zero, List.set_cons_succ, i64_w, i32_w]
                              rfl
                            refine pure_ (i := 11) (N := some 121) (v := ?_) (a' := ?_) #[true, true, true, true, true, true, true, true, true, true, true, true, false, false] rfl rfl (any_of HT_.out (by kernel_rfl)) (fun _ _ _ h => h) (Or.inl ⟨by rfl, ?_⟩) ?_ ?_
                            rotate_left
                            · intro w'
                              go_simp
                              with_reducible rfl
                            rotate_left
                            · simp only [Act.put, List.setIfInBounds_toArray, List.set_cons_zero, List.set_cons_succ, i64_w, i32_w]
                              rfl
                            refine pure_ (i := 12) (N := some 122) (v := ?_) (a' := ?_) #[true, true, true, true, true, true, true, true, true, true, true, true, true, false] rfl rfl (any_of HT_.out (by kernel_rfl)) (fun _ _ _ h => h) (Or.inl ⟨by rfl, ?_⟩) ?_ ?_
                            rotate_left
                            · intro w'
                              go_simp
                              with_reducible rfl
                            rotate_left
                            · simp only [Act.put, List.setIfInBounds_toArray, List.set_cons_zero, List.set_cons_succ, i64_w, i32_w]
                              rfl
                            refine pure_ (i := 13) (N := some 4) (v := ?_) (a' := ?_) #[true, true, true, true, true, true, true, true, true, true, true, true, true, true] rfl rfl (any_of HT_.out (by kernel_rfl)) (fun _ _ _ h => h) (Or.inl ⟨by rfl, ?_⟩) ?_ ?_
                            rotate_left
                            · intro w'
                              go_simp
                              with_reducible rfl
                            rotate_left
                            · simp only [Act.put, List.setIfInBounds_toArray, List.set_cons_zero, List.set_cons_succ, i64_w, i32_w]
                              rfl
                            refine done_ (done_of HT_.out (by kernel_rfl)) ?_
                            try go_wp2
                            go_ret
                            exact ⟨by first | rfl | (simp [errW_none, errW_some] <;> rfl) | (simp [*, errW_none, errW_some] <;> rfl), by repeat (first | (with_reducible first | exact HB.out | apply below_alloc | apply pw_below_drewN | apply below_drew1 | refine below_set ?_ GE118.out | refine below_set ?_ GE122.out | refine below_set ?_ GE127.out | refine below_set ?_ GE132.out) | exact HB.out)⟩
                          · replace c192 := Bool.eq_false_iff.mpr c192
                            subst c192
                            have H1 : (some (t136 == true)) = some r := by rw [if_neg (show ¬ (false = true) by decide)] at H; exact H
                            clear H
                            have H := H1
                            clear H1
                            obtain rfl := Option.some.inj H
                            have hnb202 := NB118_122.out
                            have hnc202 := NB122_118.out
                            have hnb203 := NB118_127.out
                            have hnc203 := NB127_118.out
                            have hnb204 := NB118_132.out
                            have hnc204 := NB132_118.out
                            have hcz205_0 : wc.cell? ⟨gb118, 0, none⟩ = some (.bool false) := (blk_cell BK118.out 0).trans rfl
                            have hcz205_1 : wc.cell? ⟨gb118, 1, none⟩ = some (.bool false) := (blk_cell BK118.out 1).trans rfl
                            have hcz205_2 : wc.cell? ⟨gb118, 2, none⟩ = some (.bool true) := (blk_cell BK118.out 2).trans rfl
                            have hfz205_0 := blk_frozen BK118.out 0
                            have hfz205_1 := blk_frozen BK118.out 1
                            have hfz205_2 := blk_frozen BK118.out 2
                            have hnb206 := NB132_122.out
                            have hnc206 := NB122_132.out
                            have hnb207 := NB132_127.out
                            have hnc207 := NB127_132.out
                            have hcz208_0 : wc.cell? ⟨gb132, 0, none⟩ = some (.bool t128) := (blk_cell BK132.out 0).trans rfl
                            have hcz208_1 : wc.cell? ⟨gb132, 1, none⟩ = some (.bool t129) := (blk_cell BK132.out 1).trans rfl
                            have hcz208_2 : wc.cell? ⟨gb132, 2, none⟩ = some (.bool t130) := (blk_cell BK132.out 2).trans rfl
                            have hfz208_0 := blk_frozen BK132.out 0
                            have hfz208_1 := blk_frozen BK132.out 1
                            have hfz208_2 := blk_frozen BK132.out 2
                            (try (have z_ : t131 = true := by revert c161b3; cases t131 <;> decide))
                            (try (have z_ : t131 = false := by revert c161b3; cases t131 <;> decide))
                            (try (have z_ : t131 = true := by revert c161b3; cases t131 <;> decide))
                            (try (have z_ : t131 = false := by revert c161b3; cases t131 <;> decide))
                            (try (have y_ : t130 = true := by revert c183b0 z_; cases t130 <;> cases t131 <;> decide))
                            (try (have y_ : t130 = false := by revert c183b0 z_; cases t130 <;> cases t131 <;> decide))
                            try go_wp2
                            have n0_ := Aside0.mk (blk_drew BK118.out)
                            have n1_ := Aside0.mk (blk_drew BK122.out)
                            have n2_ := Aside0.mk (blk_drew BK127.out)
                            have n3_ := Aside0.mk (blk_drew BK132.out)
                            have n4_ := Aside0.mk (below_drew1 HB.out)
                            clear BK118
                            clear BK122
                            clear BK127
                            clear BK132
                            clear HB
                            have BK118 := n0_
                            have BK122 := n1_
                            have BK127 := n2_
                            have BK132 := n3_
                            have HB := n4_
                            clear n0_ n1_ n2_ n3_ n4_
                            refine start_ (n := 14) (S := fun w' => w'.cell? ⟨gb118, 0, none⟩ = some (.bool false) ∧ w'.cell? ⟨gb118, 1, none⟩ = some (.bool false) ∧ w'.cell? ⟨gb118, 2, none⟩ = some (.bool true)) (ds := []) #[false, false, false, false, false, false, false, false, false, false, false, false, false, false] (by kernel_rfl) rfl rfl ⟨(blk_cell BK118.out 0).trans rfl, (blk_cell BK118.out 1).trans rfl, (blk_cell BK118.out 2).trans rfl⟩ (fun hHeld => ?_); refine with_tabW signalmanlaw15_OutageSteps.tab10 signalmanlaw15_OutageSteps.bits10 (fun HT_ HW_ => ?_)
                            generalize wc.drew = w209 at BK118 BK122 BK127 BK132 HB hHeld ⊢
                            refine pure_ (i := 2) (N := some 112) (v := ?_) (a' := ?_) #[false, false, true, false, false, false, false, false, false, false, false, false, false, false] rfl rfl (any_of HT_.out (by kernel_rfl)) (fun _ _ _ h => h) (Or.inl ⟨by rfl, ?_⟩) ?_ ?_
                            rotate_left
                            · intro w'
                              go_simp
                              with_reducible rfl
                            rotate_left
                            · simp only [Act.put, List.setIfInBounds_toArray, List.set_cons_zero, List.set_cons_succ, i64_w, i32_w]
                              rfl
                            refine take_ (i := 0) (N := some 110) (v := ?_) (a' := ?_) #[true, false, true, false, false, false, false, false, false, false, false, false, false, false] rfl rfl (take_ofW HT_.out HW_.out (by kernel_rfl)) (fun _ _ _ h => h) (Or.inl ⟨by rfl, ?_⟩) hHeld ?_ ?_
                            rotate_left
                            · rintro w' ⟨s0, s1, s2⟩
                              go_simp
                              with_reducible rfl
                            rotate_left
                            · simp only [Act.put, List.setIfInBounds_toArray, List.set_cons_zero, List.set_cons_succ, i64_w, i32_w]
                              rfl
                            refine take_ (i := 3) (N := some 113) (v := ?_) (a' := ?_) #[true, false, true, true, false, false, false, false, false, false, false, false, false, false] rfl rfl (take_ofW HT_.out HW_.out (by kernel_rfl)) (fun _ _ _ h => h) (Or.inl ⟨by rfl, ?_⟩) hHeld ?_ ?_
                            rotate_left
                            · rintro w' ⟨s0, s1, s2⟩
                              go_simp
                              with_reducible rfl
                            rotate_left
                            · simp only [Act.put, List.setIfInBounds_toArray, List.set_cons_zero, List.set_cons_succ, i64_w, i32_w]
                              rfl
                            refine one_ (i := 1) (N := some 111) #[true, true, true, true, false, false, false, false, false, false, false, false, false, false] rfl rfl (one_of HT_.out (by kernel_rfl)) (by decide) (fun K hK => ?_)
                            refine goes_ Try.func10 (by kernel_rfl) rfl #[.agg #[.bool false, .bool false, .bool true]] (by rfl) rfl rfl (by (try simp only [List.map_toArray, List.map_cons, List.map_nil]); first | done | rfl | (simp only [List.length_drop, List.length_take]; rfl) | (simp [Act.eval, *]; done)) ?_
                            with_reducible refine (outage_Outage_Is.calls false false true t136 _ A191.out).mono ?_
                            rintro e w210 ⟨rfl, hb⟩
                            refine ⟨_, rfl, ?_⟩
                            have n0_ := Aside0.mk (blk_below (g := gb118) (o := .cells #[.bool false, .bool false, .bool true] 23 (0, 0)) (by (with_reducible repeat (first | refine blk_drewN ?_ _ | refine blk_drew ?_ | refine blk_alloc ?_ _)); exact BK118.out) hb)
                            have n1_ := Aside0.mk (blk_below (g := gb122) (o := .cells #[.bool t119, .bool t120, .bool t121] 23 (0, 0)) (by (with_reducible repeat (first | refine blk_drewN ?_ _ | refine blk_drew ?_ | refine blk_alloc ?_ _)); exact BK122.out) hb)
                            have n2_ := Aside0.mk (blk_below (g := gb127) (o := .cells #[.bool t123, .bool t124, .bool t125] 23 (0, 0)) (by (with_reducible repeat (first | refine blk_drewN ?_ _ | refine blk_drew ?_ | refine blk_alloc ?_ _)); exact BK127.out) hb)
                            have n3_ := Aside0.mk (blk_below (g := gb132) (o := .cells #[.bool t128, .bool t129, .bool t130] 23 (0, 0)) (by (with_reducible repeat (first | refine blk_drewN ?_ _ | refine blk_drew ?_ | refine blk_alloc ?_ _)); exact BK132.out) hb)
                            have n4_ := Aside0.mk (below_step (by repeat (first | (with_reducible first | exact HB.out | apply below_alloc | apply pw_below_drewN | apply below_drew1 | refine below_set ?_ GE118.out | refine below_set ?_ GE122.out | refine below_set ?_ GE127.out | refine below_set ?_ GE132.out) | exact HB.out)) hb)
                            clear BK118
                            clear BK122
                            clear BK127
                            clear BK132
                            clear HB
                            have BK118 := n0_
                            have BK122 := n1_
                            have BK127 := n2_
                            have BK132 := n3_
                            have HB := n4_
                            clear n0_ n1_ n2_ n3_ n4_
                            (try clear hb)
                            (try clear hb2)
                            (try clear hk)
                            (try clear hi)
                            refine hK.out _ _ ⟨(blk_cell BK118.out 0).trans rfl, (blk_cell BK118.out 1).trans rfl, (blk_cell BK118.out 2).trans rfl⟩ (fun hHeld => ?_)
                            clear hK K
                            refine norm_ (a' := ?_) ?_ ?_
                            rotate_left
                            · show Act.put _ (some 111) _ = _
                              simp only [Act.put, List.setIfInBounds_toArray, List.set_cons_zero, List.set_cons_succ, i64_w, i32_w]
                              rfl
                            refine pure_ (i := 4) (N := some 114) (v := ?_) (a' := ?_) #[true, true, true, true, true, false, false, false, false, false, false, false, false, false] rfl rfl (any_of HT_.out (by kernel_rfl)) (fun _ _ _ h => h) (Or.inl ⟨by rfl, ?_⟩) ?_ ?_
                            rotate_left
                            · intro w'
                              go_simp
                              with_reducible rfl
                            rotate_left
                            · simp only [Act.put, List.setIfInBounds_toArray, List.set_cons_zero, List.set_cons_succ, i64_w, i32_w]
                              rfl
                            refine pure_ (i := 5) (N := some 115) (v := ?_) (a' := ?_) #[true, true, true, true, true, true, false, false, false, false, false, false, false, false] rfl rfl (any_of HT_.out (by kernel_rfl)) (fun _ _ _ h => h) (Or.inl ⟨by rfl, ?_⟩) ?_ ?_
                            rotate_left
                            · intro w'
                              go_simp
                              with_reducible rfl
                            rotate_left
                            · simp only [Act.put, List.setIfInBounds_toArray, List.set_cons_zero, List.set_cons_succ, i64_w, i32_w]
                              rfl
                            refine take_ (i := 6) (N := some 116) (v := ?_) (a' := ?_) #[true, true, true, true, true, true, true, false, false, false, false, false, false, false] rfl rfl (take_ofW HT_.out HW_.out (by kernel_rfl)) (fun _ _ _ h => h) (Or.inl ⟨by rfl, ?_⟩) hHeld ?_ ?_
                            rotate_left
                            · rintro w' ⟨s0, s1, s2⟩
                              go_simp
                              with_reducible rfl
                            rotate_left
                            · simp only [Act.put, List.setIfInBounds_toArray, List.set_cons_zero, List.set_cons_succ, i64_w, i32_w]
                              rfl
                            refine pure_ (i := 7) (N := some 117) (v := ?_) (a' := ?_) #[true, true, true, true, true, true, true, true, false, false, false, false, false, false] rfl rfl (any_of HT_.out (by kernel_rfl)) (fun _ _ _ h => h) (Or.inl ⟨by rfl, ?_⟩) ?_ ?_
                            rotate_left
                            · intro w'
                              go_simp
                              with_reducible rfl
                            rotate_left
                            · simp only [Act.put, List.setIfInBounds_toArray, List.set_cons_zero, List.set_cons_succ, i64_w, i32_w]
                              rfl
                            refine pure_ (i := 8) (N := some 118) (v := ?_) (a' := ?_) #[true, true, true, true, true, true, true, true, true, false, false, false, false, false] rfl rfl (any_of HT_.out (by kernel_rfl)) (fun _ _ _ h => h) (Or.inl ⟨by rfl, ?_⟩) ?_ ?_
                            rotate_left
                            · intro w'
                              go_simp
                              with_reducible rfl
                            rotate_left
                            · simp only [Act.put, List.setIfInBounds_toArray, List.set_cons_zero, List.set_cons_succ, i64_w, i32_w]
                              rfl
                            refine pure_ (i := 9) (N := some 119) (v := ?_) (a' := ?_) #[true, true, true, true, true, true, true, true, true, true, false, false, false, false] rfl rfl (any_of HT_.out (by kernel_rfl)) (fun _ _ _ h => h) (Or.inl ⟨by rfl, ?_⟩) ?_ ?_
                            rotate_left
                            · intro w'
                              go_simp
                              with_reducible rfl
                            rotate_left
                            · simp only [Act.put, List.setIfInBounds_toArray, List.set_cons_zero, List.set_cons_succ, i64_w, i32_w]
                              rfl
                            refine take_ (i := 10) (N := some 120) (v := ?_) (a' := ?_) #[true, true, true, true, true, true, true, true, true, true, true, false, false, false] rfl rfl (take_ofW HT_.out HW_.out (by kernel_rfl)) (fun _ _ _ h => h) (Or.inl ⟨by rfl, ?_⟩) hHeld ?_ ?_
                            rotate_left
                            · rintro w' ⟨s0, s1, s2⟩
                              go_simp
                              with_reducible rfl
                            rotate_left
                            · simp only [Act.put, List.setIfInBounds_toArray, List.set_cons_zero, List.set_cons_succ, i64_w, i32_w]
                              rfl
                            refine pure_ (i := 11) (N := some 121) (v := ?_) (a' := ?_) #[true, true, true, true, true, true, true, true, true, true, true, true, false, false] rfl rfl (any_of HT_.out (by kernel_rfl)) (fun _ _ _ h => h) (Or.inl ⟨by rfl, ?_⟩) ?_ ?_
                            rotate_left
                            · intro w'
                              go_simp
                              with_reducible rfl
                            rotate_left
                            · simp only [Act.put, List.setIfInBounds_toArray, List.set_cons_zero, List.set_cons_succ, i64_w, i32_w]
                              rfl
                            refine pure_ (i := 12) (N := some 122) (v := ?_) (a' := ?_) #[true, true, true, true, true, true, true, true, true, true, true, true, true, false] rfl rfl (any_of HT_.out (by kernel_rfl)) (fun _ _ _ h => h) (Or.inl ⟨by rfl, ?_⟩) ?_ ?_
                            rotate_left
                            · intro w'
                              go_simp
                              with_reducible rfl
                            rotate_left
                            · simp only [Act.put, List.setIfInBounds_toArray, List.set_cons_zero, List.set_cons_succ, i64_w, i32_w]
                              rfl
                            refine pure_ (i := 13) (N := some 4) (v := ?_) (a' := ?_) #[true, true, true, true, true, true, true, true, true, true, true, true, true, true] rfl rfl (any_of HT_.out (by kernel_rfl)) (fun _ _ _ h => h) (Or.inl ⟨by rfl, ?_⟩) ?_ ?_
                            rotate_left
                            · intro w'
                              go_simp
                              with_reducible rfl
                            rotate_left
                            · simp only [Act.put, List.setIfInBounds_toArray, List.set_cons_zero, List.set_cons_succ, i64_w, i32_w]
                              rfl
                            refine done_ (done_of HT_.out (by kernel_rfl)) ?_
                            try go_wp2
                            go_ret
                            exact ⟨by first | rfl | (simp [errW_none, errW_some] <;> rfl) | (simp [*, errW_none, errW_some] <;> rfl), by repeat (first | (with_reducible first | exact HB.out | apply below_alloc | apply pw_below_drewN | apply below_drew1 | refine below_set ?_ GE118.out | refine below_set ?_ GE122.out | refine below_set ?_ GE127.out | refine below_set ?_ GE132.out) | exact HB.out)⟩
                      · replace c182 := Bool.eq_false_iff.mpr c182
                        subst c182
                        have H1 : (if (t130 != false) = true then (some false) else ((outage_Outage_Is.f false a0_1 false).bind fun t137 => (if a0_1 = true then (some (t137 == true)) else (some (t137 == false))))) = some r := by rw [if_neg (show ¬ (false = true) by decide)] at H; exact H
                        clear H
                        have H := H1
                        clear H1
                        by_cases c211 : (t130 != false) = true
                        · rw [if_pos c211] at H
                          have c211b0 : (t130 != false) = true := c211
                          (try (have c211b1 : decide (t130 = false) = false := by simpa using c211))
                          (try (have c211b2 : (t130 == false) = false := by simpa using c211))
                          (try (have c211b3 : ¬ (t130 = false) := by simpa using c211))
                          clear c211
                          obtain rfl := Option.some.inj H
                          have hnb212 := NB118_122.out
                          have hnc212 := NB122_118.out
                          have hnb213 := NB118_127.out
                          have hnc213 := NB127_118.out
                          have hnb214 := NB118_132.out
                          have hnc214 := NB132_118.out
                          have hcz215_0 : wc.cell? ⟨gb118, 0, none⟩ = some (.bool false) := (blk_cell BK118.out 0).trans rfl
                          have hcz215_1 : wc.cell? ⟨gb118, 1, none⟩ = some (.bool a0_1) := (blk_cell BK118.out 1).trans rfl
                          have hcz215_2 : wc.cell? ⟨gb118, 2, none⟩ = some (.bool false) := (blk_cell BK118.out 2).trans rfl
                          have hfz215_0 := blk_frozen BK118.out 0
                          have hfz215_1 := blk_frozen BK118.out 1
                          have hfz215_2 := blk_frozen BK118.out 2
                          have hnb216 := NB132_122.out
                          have hnc216 := NB122_132.out
                          have hnb217 := NB132_127.out
                          have hnc217 := NB127_132.out
                          have hcz218_0 : wc.cell? ⟨gb132, 0, none⟩ = some (.bool t128) := (blk_cell BK132.out 0).trans rfl
                          have hcz218_1 : wc.cell? ⟨gb132, 1, none⟩ = some (.bool t129) := (blk_cell BK132.out 1).trans rfl
                          have hcz218_2 : wc.cell? ⟨gb132, 2, none⟩ = some (.bool t130) := (blk_cell BK132.out 2).trans rfl
                          have hfz218_0 := blk_frozen BK132.out 0
                          have hfz218_1 := blk_frozen BK132.out 1
                          have hfz218_2 := blk_frozen BK132.out 2
                          go_wp2
                          go_ret
                          exact ⟨by first | rfl | (simp [errW_none, errW_some] <;> rfl) | (simp [*, errW_none, errW_some] <;> rfl), by repeat (first | (with_reducible first | exact HB.out | apply below_alloc | apply pw_below_drewN | apply below_drew1 | refine below_set ?_ GE118.out | refine below_set ?_ GE122.out | refine below_set ?_ GE127.out | refine below_set ?_ GE132.out) | exact HB.out)⟩
                        · rw [if_neg c211] at H
                          have c211b0 : (t130 != false) = false := by simpa using c211
                          (try (have c211b1 : decide (t130 = false) = true := by simpa using c211))
                          (try (have c211b2 : (t130 == false) = true := by simpa using c211))
                          clear c211
                          replace H := Option.bind_eq_some_iff.mp H
                          obtain ⟨t137, A2190, H⟩ := H
                          replace H : (if a0_1 = true then (some (t137 == true)) else (some (t137 == false))) = some r := H
                          have A219 := Aside0.mk A2190
                          clear A2190
                          by_cases c220 : a0_1 = true
                          · subst c220
                            have H1 : (some (t137 == true)) = some r := by rw [if_pos rfl] at H; exact H
                            clear H
                            have H := H1
                            clear H1
                            obtain rfl := Option.some.inj H
                            have hnb221 := NB118_122.out
                            have hnc221 := NB122_118.out
                            have hnb222 := NB118_127.out
                            have hnc222 := NB127_118.out
                            have hnb223 := NB118_132.out
                            have hnc223 := NB132_118.out
                            have hcz224_0 : wc.cell? ⟨gb118, 0, none⟩ = some (.bool false) := (blk_cell BK118.out 0).trans rfl
                            have hcz224_1 : wc.cell? ⟨gb118, 1, none⟩ = some (.bool true) := (blk_cell BK118.out 1).trans rfl
                            have hcz224_2 : wc.cell? ⟨gb118, 2, none⟩ = some (.bool false) := (blk_cell BK118.out 2).trans rfl
                            have hfz224_0 := blk_frozen BK118.out 0
                            have hfz224_1 := blk_frozen BK118.out 1
                            have hfz224_2 := blk_frozen BK118.out 2
                            have hnb225 := NB132_122.out
                            have hnc225 := NB122_132.out
                            have hnb226 := NB132_127.out
                            have hnc226 := NB127_132.out
                            have hcz227_0 : wc.cell? ⟨gb132, 0, none⟩ = some (.bool t128) := (blk_cell BK132.out 0).trans rfl
                            have hcz227_1 : wc.cell? ⟨gb132, 1, none⟩ = some (.bool t129) := (blk_cell BK132.out 1).trans rfl
                            have hcz227_2 : wc.cell? ⟨gb132, 2, none⟩ = some (.bool t130) := (blk_cell BK132.out 2).trans rfl
                            have hfz227_0 := blk_frozen BK132.out 0
                            have hfz227_1 := blk_frozen BK132.out 1
                            have hfz227_2 := blk_frozen BK132.out 2
                            (try (have z_ : t131 = true := by revert c161b3; cases t131 <;> decide))
                            (try (have z_ : t131 = false := by revert c161b3; cases t131 <;> decide))
                            (try (have z_ : t131 = true := by revert c161b3; cases t131 <;> decide))
                            (try (have z_ : t131 = false := by revert c161b3; cases t131 <;> decide))
                            (try (have y_ : t130 = true := by revert c183b0 z_; cases t130 <;> cases t131 <;> decide))
                            (try (have y_ : t130 = false := by revert c183b0 z_; cases t130 <;> cases t131 <;> decide))
                            try go_wp2
                            have n0_ := Aside0.mk (blk_drew BK118.out)
                            have n1_ := Aside0.mk (blk_drew BK122.out)
                            have n2_ := Aside0.mk (blk_drew BK127.out)
                            have n3_ := Aside0.mk (blk_drew BK132.out)
                            have n4_ := Aside0.mk (below_drew1 HB.out)
                            clear BK118
                            clear BK122
                            clear BK127
                            clear BK132
                            clear HB
                            have BK118 := n0_
                            have BK122 := n1_
                            have BK127 := n2_
                            have BK132 := n3_
                            have HB := n4_
                            clear n0_ n1_ n2_ n3_ n4_
                            refine start_ (n := 14) (S := fun w' => w'.cell? ⟨gb118, 0, none⟩ = some (.bool false) ∧ w'.cell? ⟨gb118, 1, none⟩ = some (.bool true) ∧ w'.cell? ⟨gb118, 2, none⟩ = some (.bool false)) (ds := []) #[false, false, false, false, false, false, false, false, false, false, false, false, false, false] (by kernel_rfl) rfl rfl ⟨(blk_cell BK118.out 0).trans rfl, (blk_cell BK118.out 1).trans rfl, (blk_cell BK118.out 2).trans rfl⟩ (fun hHeld => ?_); refine with_tabW signalmanlaw15_OutageSteps.tab10 signalmanlaw15_OutageSteps.bits10 (fun HT_ HW_ => ?_)
                            generalize wc.drew = w228 at BK118 BK122 BK127 BK132 HB hHeld ⊢
                            refine pure_ (i := 2) (N := some 112) (v := ?_) (a' := ?_) #[false, false, true, false, false, false, false, false, false, false, false, false, false, false] rfl rfl (any_of HT_.out (by kernel_rfl)) (fun _ _ _ h => h) (Or.inl ⟨by rfl, ?_⟩) ?_ ?_
                            rotate_left
                            · intro w'
                              go_simp
                              with_reducible rfl
                            rotate_left
                            · simp only [Act.put, List.setIfInBounds_toArray, List.set_cons_zero, List.set_cons_succ, i64_w, i32_w]
                              rfl
                            refine take_ (i := 0) (N := some 110) (v := ?_) (a' := ?_) #[true, false, true, false, false, false, false, false, false, false, false, false, false, false] rfl rfl (take_ofW HT_.out HW_.out (by kernel_rfl)) (fun _ _ _ h => h) (Or.inl ⟨by rfl, ?_⟩) hHeld ?_ ?_
                            rotate_left
                            · rintro w' ⟨s0, s1, s2⟩
                              go_simp
                              with_reducible rfl
                            rotate_left
                            · simp only [Act.put, List.setIfInBounds_toArray, List.set_cons_zero, List.set_cons_succ, i64_w, i32_w]
                              rfl
                            refine take_ (i := 3) (N := some 113) (v := ?_) (a' := ?_) #[true, false, true, true, false, false, false, false, false, false, false, false, false, false] rfl rfl (take_ofW HT_.out HW_.out (by kernel_rfl)) (fun _ _ _ h => h) (Or.inl ⟨by rfl, ?_⟩) hHeld ?_ ?_
                            rotate_left
                            · rintro w' ⟨s0, s1, s2⟩
                              go_simp
                              with_reducible rfl
                            rotate_left
                            · simp only [Act.put, List.setIfInBounds_toArray, List.set_cons_zero, List.set_cons_succ, i64_w, i32_w]
                              rfl
                            refine one_ (i := 1) (N := some 111) #[true, true, true, true, false, false, false, false, false, false, false, false, false, false] rfl rfl (one_of HT_.out (by kernel_rfl)) (by decide) (fun K hK => ?_)
                            refine goes_ Try.func10 (by kernel_rfl) rfl #[.agg #[.bool false, .bool true, .bool false]] (by rfl) rfl rfl (by (try simp only [List.map_toArray, List.map_cons, List.map_nil]); first | done | rfl | (simp only [List.length_drop, List.length_take]; rfl) | (simp [Act.eval, *]; done)) ?_
                            with_reducible refine (outage_Outage_Is.calls false true false t137 _ A219.out).mono ?_
                            rintro e w229 ⟨rfl, hb⟩
                            refine ⟨_, rfl, ?_⟩
                            have n0_ := Aside0.mk (blk_below (g := gb118) (o := .cells #[.bool false, .bool true, .bool false] 23 (0, 0)) (by (with_reducible repeat (first | refine blk_drewN ?_ _ | refine blk_drew ?_ | refine blk_alloc ?_ _)); exact BK118.out) hb)
                            have n1_ := Aside0.mk (blk_below (g := gb122) (o := .cells #[.bool t119, .bool t120, .bool t121] 23 (0, 0)) (by (with_reducible repeat (first | refine blk_drewN ?_ _ | refine blk_drew ?_ | refine blk_alloc ?_ _)); exact BK122.out) hb)
                            have n2_ := Aside0.mk (blk_below (g := gb127) (o := .cells #[.bool t123, .bool t124, .bool t125] 23 (0, 0)) (by (with_reducible repeat (first | refine blk_drewN ?_ _ | refine blk_drew ?_ | refine blk_alloc ?_ _)); exact BK127.out) hb)
                            have n3_ := Aside0.mk (blk_below (g := gb132) (o := .cells #[.bool t128, .bool t129, .bool t130] 23 (0, 0)) (by (with_reducible repeat (first | refine blk_drewN ?_ _ | refine blk_drew ?_ | refine blk_alloc ?_ _)); exact BK132.out) hb)
                            have n4_ := Aside0.mk (below_step (by repeat (first | (with_reducible first | exact HB.out | apply below_alloc | apply pw_below_drewN | apply below_drew1 | refine below_set ?_ GE118.out | refine below_set ?_ GE122.out | refine below_set ?_ GE127.out | refine below_set ?_ GE132.out) | exact HB.out)) hb)
                            clear BK118
                            clear BK122
                            clear BK127
                            clear BK132
                            clear HB
                            have BK118 := n0_
                            have BK122 := n1_
                            have BK127 := n2_
                            have BK132 := n3_
                            have HB := n4_
                            clear n0_ n1_ n2_ n3_ n4_
                            (try clear hb)
                            (try clear hb2)
                            (try clear hk)
                            (try clear hi)
                            refine hK.out _ _ ⟨(blk_cell BK118.out 0).trans rfl, (blk_cell BK118.out 1).trans rfl, (blk_cell BK118.out 2).trans rfl⟩ (fun hHeld => ?_)
                            clear hK K
                            refine norm_ (a' := ?_) ?_ ?_
                            rotate_left
                            · show Act.put _ (some 111) _ = _
                              simp only [Act.put, List.setIfInBounds_toArray, List.set_cons_zero, List.set_cons_succ, i64_w, i32_w]
                              rfl
                            refine pure_ (i := 4) (N := some 114) (v := ?_) (a' := ?_) #[true, true, true, true, true, false, false, false, false, false, false, false, false, false] rfl rfl (any_of HT_.out (by kernel_rfl)) (fun _ _ _ h => h) (Or.inl ⟨by rfl, ?_⟩) ?_ ?_
                            rotate_left
                            · intro w'
                              go_simp
                              with_reducible rfl
                            rotate_left
                            · simp only [Act.put, List.setIfInBounds_toArray, List.set_cons_zero, List.set_cons_succ, i64_w, i32_w]
                              rfl
                            refine pure_ (i := 5) (N := some 115) (v := ?_) (a' := ?_) #[true, true, true, true, true, true, false, false, false, false, false, false, false, false] rfl rfl (any_of HT_.out (by kernel_rfl)) (fun _ _ _ h => h) (Or.inl ⟨by rfl, ?_⟩) ?_ ?_
                            rotate_left
                            · intro w'
                              go_simp
                              with_reducible rfl
                            rotate_left
                            · simp only [Act.put, List.setIfInBounds_toArray, List.set_cons_zero, List.set_cons_succ, i64_w, i32_w]
                              rfl
                            refine take_ (i := 6) (N := some 116) (v := ?_) (a' := ?_) #[true, true, true, true, true, true, true, false, false, false, false, false, false, false] rfl rfl (take_ofW HT_.out HW_.out (by kernel_rfl)) (fun _ _ _ h => h) (Or.inl ⟨by rfl, ?_⟩) hHeld ?_ ?_
                            rotate_left
                            · rintro w' ⟨s0, s1, s2⟩
                              go_simp
                              with_reducible rfl
                            rotate_left
                            · simp only [Act.put, List.setIfInBounds_toArray, List.set_cons_zero, List.set_cons_succ, i64_w, i32_w]
                              rfl
                            refine pure_ (i := 7) (N := some 117) (v := ?_) (a' := ?_) #[true, true, true, true, true, true, true, true, false, false, false, false, false, false] rfl rfl (any_of HT_.out (by kernel_rfl)) (fun _ _ _ h => h) (Or.inl ⟨by rfl, ?_⟩) ?_ ?_
                            rotate_left
                            · intro w'
                              go_simp
                              with_reducible rfl
                            rotate_left
                            · simp only [Act.put, List.setIfInBounds_toArray, List.set_cons_zero, List.set_cons_succ, i64_w, i32_w]
                              rfl
                            refine pure_ (i := 8) (N := some 118) (v := ?_) (a' := ?_) #[true, true, true, true, true, true, true, true, true, false, false, false, false, false] rfl rfl (any_of HT_.out (by kernel_rfl)) (fun _ _ _ h => h) (Or.inl ⟨by rfl, ?_⟩) ?_ ?_
                            rotate_left
                            · intro w'
                              go_simp
                              with_reducible rfl
                            rotate_left
                            · simp only [Act.put, List.setIfInBounds_toArray, List.set_cons_zero, List.set_cons_succ, i64_w, i32_w]
                              rfl
                            refine pure_ (i := 9) (N := some 119) (v := undef) (a' := ?_) #[true, true, true, true, true, true, true, true, true, true, false, false, false, false] rfl rfl (any_of HT_.out (by kernel_rfl)) (fun _ _ _ h => h) (Or.inr ⟨by rfl, rfl⟩) ?_ ?_
                            rotate_left
                            · simp only [Act.put, List.setIfInBounds_toArray, List.set_cons_zero, List.set_cons_succ, i64_w, i32_w]
                              rfl
                            refine pure_ (i := 10) (N := some 120) (v := undef) (a' := ?_) #[true, true, true, true, true, true, true, true, true, true, true, false, false, false] rfl rfl (any_of HT_.out (by kernel_rfl)) (fun _ _ _ h => h) (Or.inr ⟨by rfl, rfl⟩) ?_ ?_
                            rotate_left
                            · simp only [Act.put, List.setIfInBounds_toArray, List.set_cons_zero, List.set_cons_succ, i64_w, i32_w]
                              rfl
                            refine pure_ (i := 11) (N := some 121) (v := ?_) (a' := ?_) #[true, true, true, true, true, true, true, true, true, true, true, true, false, false] rfl rfl (any_of HT_.out (by kernel_rfl)) (fun _ _ _ h => h) (Or.inl ⟨by rfl, ?_⟩) ?_ ?_
                            rotate_left
                            · intro w'
                              go_simp
                              with_reducible rfl
                            rotate_left
                            · simp only [Act.put, List.setIfInBounds_toArray, List.set_cons_zero, List.set_cons_succ, i64_w, i32_w]
                              rfl
                            refine pure_ (i := 12) (N := some 122) (v := ?_) (a' := ?_) #[true, true, true, true, true, true, true, true, true, true, true, true, true, false] rfl rfl (any_of HT_.out (by kernel_rfl)) (fun _ _ _ h => h) (Or.inl ⟨by rfl, ?_⟩) ?_ ?_
                            rotate_left
                            · intro w'
                              go_simp
                              with_reducible rfl
                            rotate_left
                            · simp only [Act.put, List.setIfInBounds_toArray, List.set_cons_zero, List.set_cons_succ, i64_w, i32_w]
                              rfl
                            refine pure_ (i := 13) (N := some 4) (v := ?_) (a' := ?_) #[true, true, true, true, true, true, true, true, true, true, true, true, true, true] rfl rfl (any_of HT_.out (by kernel_rfl)) (fun _ _ _ h => h) (Or.inl ⟨by rfl, ?_⟩) ?_ ?_
                            rotate_left
                            · intro w'
                              go_simp
                              with_reducible rfl
                            rotate_left
                            · simp only [Act.put, List.setIfInBounds_toArray, List.set_cons_zero, List.set_cons_succ, i64_w, i32_w]
                              rfl
                            refine done_ (done_of HT_.out (by kernel_rfl)) ?_
                            try go_wp2
                            go_ret
                            exact ⟨by first | rfl | (simp [errW_none, errW_some] <;> rfl) | (simp [*, errW_none, errW_some] <;> rfl), by repeat (first | (with_reducible first | exact HB.out | apply below_alloc | apply pw_below_drewN | apply below_drew1 | refine below_set ?_ GE118.out | refine below_set ?_ GE122.out | refine below_set ?_ GE127.out | refine below_set ?_ GE132.out) | exact HB.out)⟩
                          · replace c220 := Bool.eq_false_iff.mpr c220
                            subst c220
                            have H1 : (some (t137 == false)) = some r := by rw [if_neg (show ¬ (false = true) by decide)] at H; exact H
                            clear H
                            have H := H1
                            clear H1
                            obtain rfl := Option.some.inj H
                            have hnb230 := NB118_122.out
                            have hnc230 := NB122_118.out
                            have hnb231 := NB118_127.out
                            have hnc231 := NB127_118.out
                            have hnb232 := NB118_132.out
                            have hnc232 := NB132_118.out
                            have hcz233_0 : wc.cell? ⟨gb118, 0, none⟩ = some (.bool false) := (blk_cell BK118.out 0).trans rfl
                            have hcz233_1 : wc.cell? ⟨gb118, 1, none⟩ = some (.bool false) := (blk_cell BK118.out 1).trans rfl
                            have hcz233_2 : wc.cell? ⟨gb118, 2, none⟩ = some (.bool false) := (blk_cell BK118.out 2).trans rfl
                            have hfz233_0 := blk_frozen BK118.out 0
                            have hfz233_1 := blk_frozen BK118.out 1
                            have hfz233_2 := blk_frozen BK118.out 2
                            have hnb234 := NB132_122.out
                            have hnc234 := NB122_132.out
                            have hnb235 := NB132_127.out
                            have hnc235 := NB127_132.out
                            have hcz236_0 : wc.cell? ⟨gb132, 0, none⟩ = some (.bool t128) := (blk_cell BK132.out 0).trans rfl
                            have hcz236_1 : wc.cell? ⟨gb132, 1, none⟩ = some (.bool t129) := (blk_cell BK132.out 1).trans rfl
                            have hcz236_2 : wc.cell? ⟨gb132, 2, none⟩ = some (.bool t130) := (blk_cell BK132.out 2).trans rfl
                            have hfz236_0 := blk_frozen BK132.out 0
                            have hfz236_1 := blk_frozen BK132.out 1
                            have hfz236_2 := blk_frozen BK132.out 2
                            (try (have z_ : t131 = true := by revert c161b3; cases t131 <;> decide))
                            (try (have z_ : t131 = false := by revert c161b3; cases t131 <;> decide))
                            (try (have z_ : t131 = true := by revert c161b3; cases t131 <;> decide))
                            (try (have z_ : t131 = false := by revert c161b3; cases t131 <;> decide))
                            (try (have y_ : t130 = true := by revert c183b0 z_; cases t130 <;> cases t131 <;> decide))
                            (try (have y_ : t130 = false := by revert c183b0 z_; cases t130 <;> cases t131 <;> decide))
                            try go_wp2
                            have n0_ := Aside0.mk (blk_drew BK118.out)
                            have n1_ := Aside0.mk (blk_drew BK122.out)
                            have n2_ := Aside0.mk (blk_drew BK127.out)
                            have n3_ := Aside0.mk (blk_drew BK132.out)
                            have n4_ := Aside0.mk (below_drew1 HB.out)
                            clear BK118
                            clear BK122
                            clear BK127
                            clear BK132
                            clear HB
                            have BK118 := n0_
                            have BK122 := n1_
                            have BK127 := n2_
                            have BK132 := n3_
                            have HB := n4_
                            clear n0_ n1_ n2_ n3_ n4_
                            refine start_ (n := 14) (S := fun w' => w'.cell? ⟨gb118, 0, none⟩ = some (.bool false) ∧ w'.cell? ⟨gb118, 1, none⟩ = some (.bool false) ∧ w'.cell? ⟨gb118, 2, none⟩ = some (.bool false)) (ds := []) #[false, false, false, false, false, false, false, false, false, false, false, false, false, false] (by kernel_rfl) rfl rfl ⟨(blk_cell BK118.out 0).trans rfl, (blk_cell BK118.out 1).trans rfl, (blk_cell BK118.out 2).trans rfl⟩ (fun hHeld => ?_); refine with_tabW signalmanlaw15_OutageSteps.tab10 signalmanlaw15_OutageSteps.bits10 (fun HT_ HW_ => ?_)
                            generalize wc.drew = w237 at BK118 BK122 BK127 BK132 HB hHeld ⊢
                            refine pure_ (i := 2) (N := some 112) (v := ?_) (a' := ?_) #[false, false, true, false, false, false, false, false, false, false, false, false, false, false] rfl rfl (any_of HT_.out (by kernel_rfl)) (fun _ _ _ h => h) (Or.inl ⟨by rfl, ?_⟩) ?_ ?_
                            rotate_left
                            · intro w'
                              go_simp
                              with_reducible rfl
                            rotate_left
                            · simp only [Act.put, List.setIfInBounds_toArray, List.set_cons_zero, List.set_cons_succ, i64_w, i32_w]
                              rfl
                            refine take_ (i := 0) (N := some 110) (v := ?_) (a' := ?_) #[true, false, true, false, false, false, false, false, false, false, false, false, false, false] rfl rfl (take_ofW HT_.out HW_.out (by kernel_rfl)) (fun _ _ _ h => h) (Or.inl ⟨by rfl, ?_⟩) hHeld ?_ ?_
                            rotate_left
                            · rintro w' ⟨s0, s1, s2⟩
                              go_simp
                              with_reducible rfl
                            rotate_left
                            · simp only [Act.put, List.setIfInBounds_toArray, List.set_cons_zero, List.set_cons_succ, i64_w, i32_w]
                              rfl
                            refine take_ (i := 3) (N := some 113) (v := ?_) (a' := ?_) #[true, false, true, true, false, false, false, false, false, false, false, false, false, false] rfl rfl (take_ofW HT_.out HW_.out (by kernel_rfl)) (fun _ _ _ h => h) (Or.inl ⟨by rfl, ?_⟩) hHeld ?_ ?_
                            rotate_left
                            · rintro w' ⟨s0, s1, s2⟩
                              go_simp
                              with_reducible rfl
                            rotate_left
                            · simp only [Act.put, List.setIfInBounds_toArray, List.set_cons_zero, List.set_cons_succ, i64_w, i32_w]
                              rfl
                            refine one_ (i := 1) (N := some 111) #[true, true, true, true, false, false, false, false, false, false, false, false, false, false] rfl rfl (one_of HT_.out (by kernel_rfl)) (by decide) (fun K hK => ?_)
                            refine goes_ Try.func10 (by kernel_rfl) rfl #[.agg #[.bool false, .bool false, .bool false]] (by rfl) rfl rfl (by (try simp only [List.map_toArray, List.map_cons, List.map_nil]); first | done | rfl | (simp only [List.length_drop, List.length_take]; rfl) | (simp [Act.eval, *]; done)) ?_
                            with_reducible refine (outage_Outage_Is.calls false false false t137 _ A219.out).mono ?_
                            rintro e w238 ⟨rfl, hb⟩
                            refine ⟨_, rfl, ?_⟩
                            have n0_ := Aside0.mk (blk_below (g := gb118) (o := .cells #[.bool false, .bool false, .bool false] 23 (0, 0)) (by (with_reducible repeat (first | refine blk_drewN ?_ _ | refine blk_drew ?_ | refine blk_alloc ?_ _)); exact BK118.out) hb)
                            have n1_ := Aside0.mk (blk_below (g := gb122) (o := .cells #[.bool t119, .bool t120, .bool t121] 23 (0, 0)) (by (with_reducible repeat (first | refine blk_drewN ?_ _ | refine blk_drew ?_ | refine blk_alloc ?_ _)); exact BK122.out) hb)
                            have n2_ := Aside0.mk (blk_below (g := gb127) (o := .cells #[.bool t123, .bool t124, .bool t125] 23 (0, 0)) (by (with_reducible repeat (first | refine blk_drewN ?_ _ | refine blk_drew ?_ | refine blk_alloc ?_ _)); exact BK127.out) hb)
                            have n3_ := Aside0.mk (blk_below (g := gb132) (o := .cells #[.bool t128, .bool t129, .bool t130] 23 (0, 0)) (by (with_reducible repeat (first | refine blk_drewN ?_ _ | refine blk_drew ?_ | refine blk_alloc ?_ _)); exact BK132.out) hb)
                            have n4_ := Aside0.mk (below_step (by repeat (first | (with_reducible first | exact HB.out | apply below_alloc | apply pw_below_drewN | apply below_drew1 | refine below_set ?_ GE118.out | refine below_set ?_ GE122.out | refine below_set ?_ GE127.out | refine below_set ?_ GE132.out) | exact HB.out)) hb)
                            clear BK118
                            clear BK122
                            clear BK127
                            clear BK132
                            clear HB
                            have BK118 := n0_
                            have BK122 := n1_
                            have BK127 := n2_
                            have BK132 := n3_
                            have HB := n4_
                            clear n0_ n1_ n2_ n3_ n4_
                            (try clear hb)
                            (try clear hb2)
                            (try clear hk)
                            (try clear hi)
                            refine hK.out _ _ ⟨(blk_cell BK118.out 0).trans rfl, (blk_cell BK118.out 1).trans rfl, (blk_cell BK118.out 2).trans rfl⟩ (fun hHeld => ?_)
                            clear hK K
                            refine norm_ (a' := ?_) ?_ ?_
                            rotate_left
                            · show Act.put _ (some 111) _ = _
                              simp only [Act.put, List.setIfInBounds_toArray, List.set_cons_zero, List.set_cons_succ, i64_w, i32_w]
                              rfl
                            refine pure_ (i := 4) (N := some 114) (v := ?_) (a' := ?_) #[true, true, true, true, true, false, false, false, false, false, false, false, false, false] rfl rfl (any_of HT_.out (by kernel_rfl)) (fun _ _ _ h => h) (Or.inl ⟨by rfl, ?_⟩) ?_ ?_
                            rotate_left
                            · intro w'
                              go_simp
                              with_reducible rfl
                            rotate_left
                            · simp only [Act.put, List.setIfInBounds_toArray, List.set_cons_zero, List.set_cons_succ, i64_w, i32_w]
                              rfl
                            refine pure_ (i := 5) (N := some 115) (v := ?_) (a' := ?_) #[true, true, true, true, true, true, false, false, false, false, false, false, false, false] rfl rfl (any_of HT_.out (by kernel_rfl)) (fun _ _ _ h => h) (Or.inl ⟨by rfl, ?_⟩) ?_ ?_
                            rotate_left
                            · intro w'
                              go_simp
                              with_reducible rfl
                            rotate_left
                            · simp only [Act.put, List.setIfInBounds_toArray, List.set_cons_zero, List.set_cons_succ, i64_w, i32_w]
                              rfl
                            refine take_ (i := 6) (N := some 116) (v := ?_) (a' := ?_) #[true, true, true, true, true, true, true, false, false, false, false, false, false, false] rfl rfl (take_ofW HT_.out HW_.out (by kernel_rfl)) (fun _ _ _ h => h) (Or.inl ⟨by rfl, ?_⟩) hHeld ?_ ?_
                            rotate_left
                            · rintro w' ⟨s0, s1, s2⟩
                              go_simp
                              with_reducible rfl
                            rotate_left
                            · simp only [Act.put, List.setIfInBounds_toArray, List.set_cons_zero, List.set_cons_succ, i64_w, i32_w]
                              rfl
                            refine pure_ (i := 7) (N := some 117) (v := ?_) (a' := ?_) #[true, true, true, true, true, true, true, true, false, false, false, false, false, false] rfl rfl (any_of HT_.out (by kernel_rfl)) (fun _ _ _ h => h) (Or.inl ⟨by rfl, ?_⟩) ?_ ?_
                            rotate_left
                            · intro w'
                              go_simp
                              with_reducible rfl
                            rotate_left
                            · simp only [Act.put, List.setIfInBounds_toArray, List.set_cons_zero, List.set_cons_succ, i64_w, i32_w]
                              rfl
                            refine pure_ (i := 8) (N := some 118) (v := ?_) (a' := ?_) #[true, true, true, true, true, true, true, true, true, false, false, false, false, false] rfl rfl (any_of HT_.out (by kernel_rfl)) (fun _ _ _ h => h) (Or.inl ⟨by rfl, ?_⟩) ?_ ?_
                            rotate_left
                            · intro w'
                              go_simp
                              with_reducible rfl
                            rotate_left
                            · simp only [Act.put, List.setIfInBounds_toArray, List.set_cons_zero, List.set_cons_succ, i64_w, i32_w]
                              rfl
                            refine pure_ (i := 9) (N := some 119) (v := ?_) (a' := ?_) #[true, true, true, true, true, true, true, true, true, true, false, false, false, false] rfl rfl (any_of HT_.out (by kernel_rfl)) (fun _ _ _ h => h) (Or.inl ⟨by rfl, ?_⟩) ?_ ?_
                            rotate_left
                            · intro w'
                              go_simp
                              with_reducible rfl
                            rotate_left
                            · simp only [Act.put, List.setIfInBounds_toArray, List.set_cons_zero, List.set_cons_succ, i64_w, i32_w]
                              rfl
                            refine take_ (i := 10) (N := some 120) (v := ?_) (a' := ?_) #[true, true, true, true, true, true, true, true, true, true, true, false, false, false] rfl rfl (take_ofW HT_.out HW_.out (by kernel_rfl)) (fun _ _ _ h => h) (Or.inl ⟨by rfl, ?_⟩) hHeld ?_ ?_
                            rotate_left
                            · rintro w' ⟨s0, s1, s2⟩
                              go_simp
                              with_reducible rfl
                            rotate_left
                            · simp only [Act.put, List.setIfInBounds_toArray, List.set_cons_zero, List.set_cons_succ, i64_w, i32_w]
                              rfl
                            refine pure_ (i := 11) (N := some 121) (v := ?_) (a' := ?_) #[true, true, true, true, true, true, true, true, true, true, true, true, false, false] rfl rfl (any_of HT_.out (by kernel_rfl)) (fun _ _ _ h => h) (Or.inl ⟨by rfl, ?_⟩) ?_ ?_
                            rotate_left
                            · intro w'
                              go_simp
                              with_reducible rfl
                            rotate_left
                            · simp only [Act.put, List.setIfInBounds_toArray, List.set_cons_zero, List.set_cons_succ, i64_w, i32_w]
                              rfl
                            refine pure_ (i := 12) (N := some 122) (v := ?_) (a' := ?_) #[true, true, true, true, true, true, true, true, true, true, true, true, true, false] rfl rfl (any_of HT_.out (by kernel_rfl)) (fun _ _ _ h => h) (Or.inl ⟨by rfl, ?_⟩) ?_ ?_
                            rotate_left
                            · intro w'
                              go_simp
                              with_reducible rfl
                            rotate_left
                            · simp only [Act.put, List.setIfInBounds_toArray, List.set_cons_zero, List.set_cons_succ, i64_w, i32_w]
                              rfl
                            refine pure_ (i := 13) (N := some 4) (v := ?_) (a' := ?_) #[true, true, true, true, true, true, true, true, true, true, true, true, true, true] rfl rfl (any_of HT_.out (by kernel_rfl)) (fun _ _ _ h => h) (Or.inl ⟨by rfl, ?_⟩) ?_ ?_
                            rotate_left
                            · intro w'
                              go_simp
                              with_reducible rfl
                            rotate_left
                            · simp only [Act.put, List.setIfInBounds_toArray, List.set_cons_zero, List.set_cons_succ, i64_w, i32_w]
                              rfl
                            refine done_ (done_of HT_.out (by kernel_rfl)) ?_
                            try go_wp2
                            go_ret
                            exact ⟨by first | rfl | (simp [errW_none, errW_some] <;> rfl) | (simp [*, errW_none, errW_some] <;> rfl), by repeat (first | (with_reducible first | exact HB.out | apply below_alloc | apply pw_below_drewN | apply below_drew1 | refine below_set ?_ GE118.out | refine below_set ?_ GE122.out | refine below_set ?_ GE127.out | refine below_set ?_ GE132.out) | exact HB.out)⟩

end Go.Proofs.Ytlimjjfcbmjlfaa.MOutageSteps
