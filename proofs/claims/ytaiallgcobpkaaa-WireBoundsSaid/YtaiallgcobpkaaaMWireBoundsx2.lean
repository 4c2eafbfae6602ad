/- A part of the proof of the given statement that each law names; no condition. Written by a program of this session's own (wip/tools/myprint.py, over the kit's print); Lean checks it. -/
import Derived.Test.YtaiallgcobpkaaaMWireBoundsx0
import Derived.Test.YtaiallgcobpkaaaMWireBoundsx1
namespace Go.Proofs.Ytaiallgcobpkaaa.MWireBounds
open Go.RowKit Go.Proofs.Ytaiallgcobpkaaa Go.Proofs.YtaiallgcobpkaaaW.PrintWords Go.Proofs.YtaiallgcobpkaaaW.PrintLast Go.Proofs.YtaiallgcobpkaaaW.PrintMore
attribute [local go_sem] max2_int min2_int max_two min_two max_three min_three max_four min_four   -- for this text's walks alone
set_option linter.unusedVariables false
set_option linter.unusedSimpArgs false

/-! ### signalmanlaw20_WireBounds: function 7 -/
set_option maxHeartbeats 8000000 in
set_option maxRecDepth 100000 in
theorem signalmanlaw20_WireBounds.early (a0 a1 : Int) (A : Option Addr) (c : Nat) (l : List Int) (on : Bool) (w : World) (hl : 100 < l.length) :
    Calls Try.prog 7 #[.int .i64 a0, .int .i64 a1, .slice A l.length c, .bool on] w fun e w' => e = .returned (.bool true) ∧ Below w.heap.size w w' := by
  have HB := Aside0.mk (Below.refl w.heap.size w)
  have d1 : decide ((100 : Int) < (l.length : Int)) = true := decide_eq_true (by omega)
  have d2 : decide (100 < l.length) = true := decide_eq_true hl
  go_enter Try.func7, Try.ntmps7
  go_wp2_with (first
  | ((with_reducible refine gate_callee (f := 8) rfl ?_); refine goesL_ (some 20) rfl rfl Try.func8 (by kernel_rfl) rfl #[] rfl (by (try simp only [List.map_toArray, List.map_cons, List.map_nil]); first | done | rfl | (simp [Act.eval, *]; done)) ?_; (with_reducible refine (Wire.awake_calls _).mono ?_); rintro e w9 ⟨rfl, hb⟩; refine ⟨_, rfl, ?_⟩; have n0_ := Aside0.mk (below_step HB.out hb); clear HB; have HB := n0_; clear n0_; clear hb)
  | ((with_reducible refine gate_callee (f := 8) rfl ?_); refine goesL_ (some 27) rfl rfl Try.func8 (by kernel_rfl) rfl #[] rfl (by (try simp only [List.map_toArray, List.map_cons, List.map_nil]); first | done | rfl | (simp [Act.eval, *]; done)) ?_; (with_reducible refine (Wire.awake_calls _).mono ?_); rintro e w9 ⟨rfl, hb⟩; refine ⟨_, rfl, ?_⟩; have n0_ := Aside0.mk (below_step HB.out hb); clear HB; have HB := n0_; clear n0_; clear hb))
  go_ret
  exact ⟨rfl, HB.out⟩
set_option maxHeartbeats 8000000 in
set_option maxRecDepth 100000 in
theorem signalmanlaw20_WireBounds.w_ok_ok_no (k : Nat) (dn : Nat) (hdn : dn ≤ 65536) (nn : Nat) (hn1 : 7 ≤ nn) (hn2 : nn ≤ 65536) (A : Option Addr) (c : Nat) (l : List Int) (t : List Bool) (on : Bool) (w : World) (hr : Kd.C (Kd.int .u8) w A l.length l) (hc : l.length ≤ c) (hl : l.length ≤ 100) (hE : l.length < 1) (h : signalmanref01_Bits.f k l = some t) (ht : t.length = 8 * l.length) :
    Calls Try.prog 7 #[.int .i64 (dn : Int), .int .i64 (nn : Int), .slice A l.length c, .bool on] w fun e w' => e = .returned (.bool true) ∧ Below w.heap.size w w' := by
  have HB := Aside0.mk (Below.refl w.heap.size w)
  have HR := Aside0.mk hr
  have HC := Aside0.mk hc
  have HH := Aside0.mk h
  have HTL := Aside0.mk ht
  obtain ⟨q, hq0⟩ : ∃ q : Nat, q = 65530 := ⟨_, rfl⟩
  have hq := Aside0.mk (show q ≤ 65536 by omega)
  have hq2 := Aside0.mk hq0
  have hm : ∀ W : World, (Instr.makeSlice 41 (.int .i64 65530) (.int .i64 65530)).run Try.prog W = .ok (.slice (some ⟨W.heap.size, 0, none⟩) q q) (W.alloc (.cells (madeCells #[.bool false] q) 4)) := by
    have h_ := print_make_of (P := Try.prog) 41 4 (.bool false) 1 Try.underlying41 info4 rfl (by decide) q (by omega)
    have e_ : (q : Int) = 65530 := by omega
    rw [e_] at h_
    exact h_
  have d0 : decide ((100 : Int) < (l.length : Int)) = false := decide_eq_false (by omega)
  have d1 : decide (100 < l.length) = false := decide_eq_false (by omega)
  have d2 : decide ((0 : Int) ≤ (dn : Int)) = true := decide_eq_true (by omega)
  have d3 : decide ((dn : Int) ≤ 65536) = true := decide_eq_true (by omega)
  have d4 : decide (dn ≤ 65536) = true := decide_eq_true (by omega)
  have d5 : decide ((7 : Int) ≤ (nn : Int)) = true := decide_eq_true (by omega)
  have d6 : decide (7 ≤ nn) = true := decide_eq_true (by omega)
  have d7 : decide ((nn : Int) ≤ 65536) = true := decide_eq_true (by omega)
  have d8 : decide (nn ≤ 65536) = true := decide_eq_true (by omega)
  have d9 : decide (8 * (l.length : Int) ≤ 6) = true := decide_eq_true (by omega)
  have d10 : decide (8 * l.length ≤ 6) = true := decide_eq_true (by omega)
  clear hr hc h ht hq0
  go_enter Try.func7, Try.ntmps7
  go_wp2_with (first
  | ((with_reducible refine gate_callee (f := 8) rfl ?_); refine goesL_ (some 20) rfl rfl Try.func8 (by kernel_rfl) rfl #[] rfl (by (try simp only [List.map_toArray, List.map_cons, List.map_nil]); first | done | rfl | (simp [Act.eval, *]; done)) ?_; (with_reducible refine (Wire.awake_calls _).mono ?_); rintro e w9 ⟨rfl, hb⟩; refine ⟨_, rfl, ?_⟩; have n0_ := Aside0.mk (below_step HB.out hb); clear HB; have HB := n0_; clear n0_; clear hb)
  | ((with_reducible refine gate_callee (f := 9) rfl ?_); refine goesL_ (some 30) rfl rfl Try.func9 (by kernel_rfl) rfl #[.int .i64 (dn : Int)] rfl (by (try simp only [List.map_toArray, List.map_cons, List.map_nil]); first | done | rfl | (simp [Act.eval, *]; done)) ?_; (with_reducible refine (Wire.new_bare dn hdn _).mono ?_); rintro e w1 ⟨g0, gl0, rfl, _, _, _, hb⟩; refine ⟨_, rfl, ?_⟩; have n0_ := Aside0.mk (below_step HB.out hb); clear HB; have HB := n0_; clear n0_; clear hb)
  | ((with_reducible refine gate_callee (f := 9) rfl ?_); refine goesL_ (some 50) rfl rfl Try.func9 (by kernel_rfl) rfl #[.int .i64 3] rfl (by (try simp only [List.map_toArray, List.map_cons, List.map_nil]); first | done | rfl | (simp [Act.eval, *]; done)) ?_; (with_reducible refine (Wire.new_bare3 _).mono ?_); rintro e w2 ⟨g, gl, rfl, hg, hgl, hI, hb⟩; refine ⟨_, rfl, ?_⟩; have HG := Aside0.mk (Nat.le_trans HB.out.size hg); have HL := Aside0.mk (Nat.le_trans HB.out.size hgl); have HI := Aside0.mk (hI.isq (Wire.Own w.heap.size g gl) (fun k hk => Wire.Own.apart hk)); have n0_ := Aside0.mk (below_step HB.out hb); clear HB; have HB := n0_; clear n0_; clear hg hgl hI hb)
  | ((with_reducible refine gate_callee (f := 15) rfl ?_); refine goesL_ (some 55) rfl rfl Try.func15 (by kernel_rfl) rfl #[.pointer (some ⟨g, 0, none⟩), .int .i64 (nn : Int)] rfl (by (try simp only [List.map_toArray, List.map_cons, List.map_nil]); first | done | rfl | (simp [Act.eval, *]; done)) ?_; (with_reducible refine (Wire.breakq HI.out hn1 (by omega)).mono ?_); rintro e w3 ⟨rfl, hI, ho⟩; refine ⟨_, rfl, ?_⟩; have n0_ := Aside0.mk (ho.below (B := w.heap.size) (fun k hk => hk ▸ HG.out) HB.out HB.out.size); have n1_ := Aside0.mk (hI); clear HB HI; have HB := n0_; have HI := n1_; clear n0_ n1_; clear hI ho)
  | ((with_reducible refine gate_callee (f := 15) rfl ?_); refine goesL_ (some 67) rfl rfl Try.func15 (by kernel_rfl) rfl #[.pointer (some ⟨g, 0, none⟩), .int .i64 65536] rfl (by (try simp only [List.map_toArray, List.map_cons, List.map_nil]); first | done | rfl | (simp [Act.eval, *]; done)) ?_; (with_reducible refine (Wire.break_fullq HI.out (by omega) (by omega)).mono ?_); rintro e w4 ⟨rfl, rfl⟩; refine ⟨_, rfl, ?_⟩)
  | ((with_reducible refine gate_callee (f := 14) rfl ?_); refine goesL_ (some 70) rfl rfl Try.func14 (by kernel_rfl) rfl #[.pointer (some ⟨g, 0, none⟩), .slice (some ⟨w4.heap.size, 0, none⟩) q q] rfl (by (try simp only [List.map_toArray, List.map_cons, List.map_nil]); first | done | rfl | (simp [Act.eval, *]; done)) ?_; (with_reducible refine (Wire.bend_madeq (w := w4) q hq.out HI.out (Wire.Own.fresh HB.out HI.out)).mono ?_); rintro e w5 ⟨rfl, hI, ho⟩; refine ⟨_, rfl, ?_⟩; have n0_ := Aside0.mk (ho.below (B := w.heap.size) (fun k hk => hk.elim (fun e => e ▸ HG.out) Wire.Own.low) (below_alloc HB.out _) (below_alloc HB.out _).size); have n1_ := Aside0.mk (hI); clear HB HI; have HB := n0_; have HI := n1_; clear n0_ n1_; clear hI ho)
  | ((with_reducible refine gate_callee (f := 10) rfl ?_); refine goesL_ (some 73) rfl rfl Try.func10 (by kernel_rfl) rfl #[.slice A l.length c] rfl (by (try simp only [List.map_toArray, List.map_cons, List.map_nil]); first | done | rfl | (simp [Act.eval, *]; done)) ?_; (with_reducible refine (signalmanref01_Bits.calls k A c l t _ (Kd.C_below HR.out HB.out) HC.out HH.out).mono ?_); rintro e w6 ⟨v, rfl, ho, hb⟩; refine ⟨_, rfl, ?_⟩; obtain ⟨At, ct, rfl, hct, hrt, hft⟩ := Wire.fresh_reads ho; have HT := Aside0.mk hrt; have n0_ := Aside0.mk (Wire.Isq.below HI.out hb); have n1_ := Aside0.mk (below_step HB.out hb); clear HI HB; have HI := n0_; have HB := n1_; clear n0_ n1_; clear ho hb hct hrt hft)
  | ((with_reducible refine gate_callee (f := 14) rfl ?_); refine goesL_ (some 74) rfl rfl Try.func14 (by kernel_rfl) rfl #[.pointer (some ⟨g, 0, none⟩), .slice At t.length ct] rfl (by (try simp only [List.map_toArray, List.map_cons, List.map_nil]); first | done | rfl | (simp [Act.eval, *]; done)) ?_; (with_reducible refine (Wire.bendq HI.out t At ct HT.out (by have := HTL.out; have := hq2.out; rw [List.length_replicate]; omega) (Wire.Own.fresh HB.out HI.out)).mono ?_); rintro e w7 ⟨rfl, hI, ho⟩; refine ⟨_, rfl, ?_⟩; have n0_ := Aside0.mk (ho.below (B := w.heap.size) (fun k hk => hk.elim (fun e => e ▸ HG.out) Wire.Own.low) HB.out HB.out.size); clear HB; have HB := n0_; clear n0_; clear hI ho)
  | ((with_reducible refine gate_callee (f := 11) rfl ?_); (try (refine gate_guard (by rfl) ?_; dsimp only)); refine goesL_ (some 102) rfl rfl Try.func11 (by kernel_rfl) rfl #[.pointer none, .bool on] rfl (by (try simp only [List.map_toArray, List.map_cons, List.map_nil]); first | done | rfl | (simp [Act.eval, *]; done)) ?_; (with_reducible refine (Wire.pass_nil on _).mono ?_); rintro e wz ⟨rfl, rfl⟩; refine ⟨_, rfl, ?_⟩)
  | ((with_reducible refine gate_callee (f := 14) rfl ?_); (try (refine gate_guard (by rfl) ?_; dsimp only)); refine goesL_ (some 108) rfl rfl Try.func14 (by kernel_rfl) rfl #[.pointer none, .slice none 0 0] rfl (by (try simp only [List.map_toArray, List.map_cons, List.map_nil]); first | done | rfl | (simp [Act.eval, *]; done)) ?_; (with_reducible refine (Wire.bend_nil (.slice none 0 0) _).mono ?_); rintro e wz ⟨rfl, rfl⟩; refine ⟨_, rfl, ?_⟩)
  | ((with_reducible refine gate_callee (f := 15) rfl ?_); (try (refine gate_guard (by rfl) ?_; dsimp only)); refine goesL_ (some 113) rfl rfl Try.func15 (by kernel_rfl) rfl #[.pointer none, .int .i64 9] rfl (by (try simp only [List.map_toArray, List.map_cons, List.map_nil]); first | done | rfl | (simp [Act.eval, *]; done)) ?_; (with_reducible refine (Wire.break_nil 9 _).mono ?_); rintro e wz ⟨rfl, rfl⟩; refine ⟨_, rfl, ?_⟩)
  | ((with_reducible refine gate_callee (f := 17) rfl ?_); (try (refine gate_guard (by rfl) ?_; dsimp only)); refine goesL_ (some 118) rfl rfl Try.func17 (by kernel_rfl) rfl #[.pointer none] rfl (by (try simp only [List.map_toArray, List.map_cons, List.map_nil]); first | done | rfl | (simp [Act.eval, *]; done)) ?_; (with_reducible refine (Wire.delay_nil _).mono ?_); rintro e wz ⟨rfl, rfl⟩; refine ⟨_, rfl, ?_⟩)
  | ((with_reducible refine gate_callee (f := 16) rfl ?_); (try (refine gate_guard (by rfl) ?_; dsimp only)); refine goesL_ (some 120) rfl rfl Try.func16 (by kernel_rfl) rfl #[.pointer none] rfl (by (try simp only [List.map_toArray, List.map_cons, List.map_nil]); first | done | rfl | (simp [Act.eval, *]; done)) ?_; (with_reducible refine (Wire.masked_nil _).mono ?_); rintro e wz ⟨rfl, rfl⟩; refine ⟨_, rfl, ?_⟩)
  | ((with_reducible refine gate_callee (f := 13) rfl ?_); (try (refine gate_guard (by rfl) ?_; dsimp only)); refine goesL_ (some 123) rfl rfl Try.func13 (by kernel_rfl) rfl #[.pointer none] rfl (by (try simp only [List.map_toArray, List.map_cons, List.map_nil]); first | done | rfl | (simp [Act.eval, *]; done)) ?_; (with_reducible refine (Wire.bent_nil _).mono ?_); rintro e wz ⟨rfl, rfl⟩; refine ⟨_, rfl, ?_⟩))
  go_ret
  exact ⟨rfl, HB.out⟩
set_option maxHeartbeats 8000000 in
set_option maxRecDepth 100000 in
theorem signalmanlaw20_WireBounds.w_ok_ok_yes (k : Nat) (dn : Nat) (hdn : dn ≤ 65536) (nn : Nat) (hn1 : 7 ≤ nn) (hn2 : nn ≤ 65536) (A : Option Addr) (c : Nat) (l : List Int) (t : List Bool) (on : Bool) (w : World) (hr : Kd.C (Kd.int .u8) w A l.length l) (hc : l.length ≤ c) (hl : l.length ≤ 100) (hE : 0 < l.length) (h : signalmanref01_Bits.f k l = some t) (ht : t.length = 8 * l.length) :
    Calls Try.prog 7 #[.int .i64 (dn : Int), .int .i64 (nn : Int), .slice A l.length c, .bool on] w fun e w' => e = .returned (.bool true) ∧ Below w.heap.size w w' := by
  have HB := Aside0.mk (Below.refl w.heap.size w)
  have HR := Aside0.mk hr
  have HC := Aside0.mk hc
  have HH := Aside0.mk h
  have HTL := Aside0.mk ht
  obtain ⟨q, hq0⟩ : ∃ q : Nat, q = 65530 := ⟨_, rfl⟩
  have hq := Aside0.mk (show q ≤ 65536 by omega)
  have hq2 := Aside0.mk hq0
  have hm : ∀ W : World, (Instr.makeSlice 41 (.int .i64 65530) (.int .i64 65530)).run Try.prog W = .ok (.slice (some ⟨W.heap.size, 0, none⟩) q q) (W.alloc (.cells (madeCells #[.bool false] q) 4)) := by
    have h_ := print_make_of (P := Try.prog) 41 4 (.bool false) 1 Try.underlying41 info4 rfl (by decide) q (by omega)
    have e_ : (q : Int) = 65530 := by omega
    rw [e_] at h_
    exact h_
  have d0 : decide ((100 : Int) < (l.length : Int)) = false := decide_eq_false (by omega)
  have d1 : decide (100 < l.length) = false := decide_eq_false (by omega)
  have d2 : decide ((0 : Int) ≤ (dn : Int)) = true := decide_eq_true (by omega)
  have d3 : decide ((dn : Int) ≤ 65536) = true := decide_eq_true (by omega)
  have d4 : decide (dn ≤ 65536) = true := decide_eq_true (by omega)
  have d5 : decide ((7 : Int) ≤ (nn : Int)) = true := decide_eq_true (by omega)
  have d6 : decide (7 ≤ nn) = true := decide_eq_true (by omega)
  have d7 : decide ((nn : Int) ≤ 65536) = true := decide_eq_true (by omega)
  have d8 : decide (nn ≤ 65536) = true := decide_eq_true (by omega)
  have d9 : decide (8 * (l.length : Int) ≤ 6) = false := decide_eq_false (by omega)
  have d10 : decide (8 * l.length ≤ 6) = false := decide_eq_false (by omega)
  clear hr hc h ht hq0
  go_enter Try.func7, Try.ntmps7
  go_wp2_with (first
  | ((with_reducible refine gate_callee (f := 8) rfl ?_); refine goesL_ (some 20) rfl rfl Try.func8 (by kernel_rfl) rfl #[] rfl (by (try simp only [List.map_toArray, List.map_cons, List.map_nil]); first | done | rfl | (simp [Act.eval, *]; done)) ?_; (with_reducible refine (Wire.awake_calls _).mono ?_); rintro e w9 ⟨rfl, hb⟩; refine ⟨_, rfl, ?_⟩; have n0_ := Aside0.mk (below_step HB.out hb); clear HB; have HB := n0_; clear n0_; clear hb)
  | ((with_reducible refine gate_callee (f := 9) rfl ?_); refine goesL_ (some 30) rfl rfl Try.func9 (by kernel_rfl) rfl #[.int .i64 (dn : Int)] rfl (by (try simp only [List.map_toArray, List.map_cons, List.map_nil]); first | done | rfl | (simp [Act.eval, *]; done)) ?_; (with_reducible refine (Wire.new_bare dn hdn _).mono ?_); rintro e w1 ⟨g0, gl0, rfl, _, _, _, hb⟩; refine ⟨_, rfl, ?_⟩; have n0_ := Aside0.mk (below_step HB.out hb); clear HB; have HB := n0_; clear n0_; clear hb)
  | ((with_reducible refine gate_callee (f := 9) rfl ?_); refine goesL_ (some 50) rfl rfl Try.func9 (by kernel_rfl) rfl #[.int .i64 3] rfl (by (try simp only [List.map_toArray, List.map_cons, List.map_nil]); first | done | rfl | (simp [Act.eval, *]; done)) ?_; (with_reducible refine (Wire.new_bare3 _).mono ?_); rintro e w2 ⟨g, gl, rfl, hg, hgl, hI, hb⟩; refine ⟨_, rfl, ?_⟩; have HG := Aside0.mk (Nat.le_trans HB.out.size hg); have HL := Aside0.mk (Nat.le_trans HB.out.size hgl); have HI := Aside0.mk (hI.isq (Wire.Own w.heap.size g gl) (fun k hk => Wire.Own.apart hk)); have n0_ := Aside0.mk (below_step HB.out hb); clear HB; have HB := n0_; clear n0_; clear hg hgl hI hb)
  | ((with_reducible refine gate_callee (f := 15) rfl ?_); refine goesL_ (some 55) rfl rfl Try.func15 (by kernel_rfl) rfl #[.pointer (some ⟨g, 0, none⟩), .int .i64 (nn : Int)] rfl (by (try simp only [List.map_toArray, List.map_cons, List.map_nil]); first | done | rfl | (simp [Act.eval, *]; done)) ?_; (with_reducible refine (Wire.breakq HI.out hn1 (by omega)).mono ?_); rintro e w3 ⟨rfl, hI, ho⟩; refine ⟨_, rfl, ?_⟩; have n0_ := Aside0.mk (ho.below (B := w.heap.size) (fun k hk => hk ▸ HG.out) HB.out HB.out.size); have n1_ := Aside0.mk (hI); clear HB HI; have HB := n0_; have HI := n1_; clear n0_ n1_; clear hI ho)
  | ((with_reducible refine gate_callee (f := 15) rfl ?_); refine goesL_ (some 67) rfl rfl Try.func15 (by kernel_rfl) rfl #[.pointer (some ⟨g, 0, none⟩), .int .i64 65536] rfl (by (try simp only [List.map_toArray, List.map_cons, List.map_nil]); first | done | rfl | (simp [Act.eval, *]; done)) ?_; (with_reducible refine (Wire.break_fullq HI.out (by omega) (by omega)).mono ?_); rintro e w4 ⟨rfl, rfl⟩; refine ⟨_, rfl, ?_⟩)
  | ((with_reducible refine gate_callee (f := 14) rfl ?_); refine goesL_ (some 70) rfl rfl Try.func14 (by kernel_rfl) rfl #[.pointer (some ⟨g, 0, none⟩), .slice (some ⟨w4.heap.size, 0, none⟩) q q] rfl (by (try simp only [List.map_toArray, List.map_cons, List.map_nil]); first | done | rfl | (simp [Act.eval, *]; done)) ?_; (with_reducible refine (Wire.bend_madeq (w := w4) q hq.out HI.out (Wire.Own.fresh HB.out HI.out)).mono ?_); rintro e w5 ⟨rfl, hI, ho⟩; refine ⟨_, rfl, ?_⟩; have n0_ := Aside0.mk (ho.below (B := w.heap.size) (fun k hk => hk.elim (fun e => e ▸ HG.out) Wire.Own.low) (below_alloc HB.out _) (below_alloc HB.out _).size); have n1_ := Aside0.mk (hI); clear HB HI; have HB := n0_; have HI := n1_; clear n0_ n1_; clear hI ho)
  | ((with_reducible refine gate_callee (f := 10) rfl ?_); refine goesL_ (some 73) rfl rfl Try.func10 (by kernel_rfl) rfl #[.slice A l.length c] rfl (by (try simp only [List.map_toArray, List.map_cons, List.map_nil]); first | done | rfl | (simp [Act.eval, *]; done)) ?_; (with_reducible refine (signalmanref01_Bits.calls k A c l t _ (Kd.C_below HR.out HB.out) HC.out HH.out).mono ?_); rintro e w6 ⟨v, rfl, ho, hb⟩; refine ⟨_, rfl, ?_⟩; obtain ⟨At, ct, rfl, hct, hrt, hft⟩ := Wire.fresh_reads ho; have HT := Aside0.mk hrt; have n0_ := Aside0.mk (Wire.Isq.below HI.out hb); have n1_ := Aside0.mk (below_step HB.out hb); clear HI HB; have HI := n0_; have HB := n1_; clear n0_ n1_; clear ho hb hct hrt hft)
  | ((with_reducible refine gate_callee (f := 14) rfl ?_); refine goesL_ (some 74) rfl rfl Try.func14 (by kernel_rfl) rfl #[.pointer (some ⟨g, 0, none⟩), .slice At t.length ct] rfl (by (try simp only [List.map_toArray, List.map_cons, List.map_nil]); first | done | rfl | (simp [Act.eval, *]; done)) ?_; (with_reducible refine (Wire.bend_fullq HI.out At t.length ct (by have := HTL.out; have := hq2.out; rw [List.length_replicate]; omega) (by have := hq2.out; rw [List.length_replicate]; omega) (by have := HTL.out; omega)).mono ?_); rintro e w7 ⟨rfl, rfl⟩; refine ⟨_, rfl, ?_⟩)
  | ((with_reducible refine gate_callee (f := 11) rfl ?_); (try (refine gate_guard (by rfl) ?_; dsimp only)); refine goesL_ (some 102) rfl rfl Try.func11 (by kernel_rfl) rfl #[.pointer none, .bool on] rfl (by (try simp only [List.map_toArray, List.map_cons, List.map_nil]); first | done | rfl | (simp [Act.eval, *]; done)) ?_; (with_reducible refine (Wire.pass_nil on _).mono ?_); rintro e wz ⟨rfl, rfl⟩; refine ⟨_, rfl, ?_⟩)
  | ((with_reducible refine gate_callee (f := 14) rfl ?_); (try (refine gate_guard (by rfl) ?_; dsimp only)); refine goesL_ (some 108) rfl rfl Try.func14 (by kernel_rfl) rfl #[.pointer none, .slice none 0 0] rfl (by (try simp only [List.map_toArray, List.map_cons, List.map_nil]); first | done | rfl | (simp [Act.eval, *]; done)) ?_; (with_reducible refine (Wire.bend_nil (.slice none 0 0) _).mono ?_); rintro e wz ⟨rfl, rfl⟩; refine ⟨_, rfl, ?_⟩)
  | ((with_reducible refine gate_callee (f := 15) rfl ?_); (try (refine gate_guard (by rfl) ?_; dsimp only)); refine goesL_ (some 113) rfl rfl Try.func15 (by kernel_rfl) rfl #[.pointer none, .int .i64 9] rfl (by (try simp only [List.map_toArray, List.map_cons, List.map_nil]); first | done | rfl | (simp [Act.eval, *]; done)) ?_; (with_reducible refine (Wire.break_nil 9 _).mono ?_); rintro e wz ⟨rfl, rfl⟩; refine ⟨_, rfl, ?_⟩)
  | ((with_reducible refine gate_callee (f := 17) rfl ?_); (try (refine gate_guard (by rfl) ?_; dsimp only)); refine goesL_ (some 118) rfl rfl Try.func17 (by kernel_rfl) rfl #[.pointer none] rfl (by (try simp only [List.map_toArray, List.map_cons, List.map_nil]); first | done | rfl | (simp [Act.eval, *]; done)) ?_; (with_reducible refine (Wire.delay_nil _).mono ?_); rintro e wz ⟨rfl, rfl⟩; refine ⟨_, rfl, ?_⟩)
  | ((with_reducible refine gate_callee (f := 16) rfl ?_); (try (refine gate_guard (by rfl) ?_; dsimp only)); refine goesL_ (some 120) rfl rfl Try.func16 (by kernel_rfl) rfl #[.pointer none] rfl (by (try simp only [List.map_toArray, List.map_cons, List.map_nil]); first | done | rfl | (simp [Act.eval, *]; done)) ?_; (with_reducible refine (Wire.masked_nil _).mono ?_); rintro e wz ⟨rfl, rfl⟩; refine ⟨_, rfl, ?_⟩)
  | ((with_reducible refine gate_callee (f := 13) rfl ?_); (try (refine gate_guard (by rfl) ?_; dsimp only)); refine goesL_ (some 123) rfl rfl Try.func13 (by kernel_rfl) rfl #[.pointer none] rfl (by (try simp only [List.map_toArray, List.map_cons, List.map_nil]); first | done | rfl | (simp [Act.eval, *]; done)) ?_; (with_reducible refine (Wire.bent_nil _).mono ?_); rintro e wz ⟨rfl, rfl⟩; refine ⟨_, rfl, ?_⟩))
  go_ret
  exact ⟨rfl, HB.out⟩
set_option maxHeartbeats 8000000 in
set_option maxRecDepth 100000 in
theorem signalmanlaw20_WireBounds.w_ok_lo_no (k : Nat) (dn : Nat) (hdn : dn ≤ 65536) (a1 : Int) (hn : a1 < 7) (A : Option Addr) (c : Nat) (l : List Int) (t : List Bool) (on : Bool) (w : World) (hr : Kd.C (Kd.int .u8) w A l.length l) (hc : l.length ≤ c) (hl : l.length ≤ 100) (hE : l.length < 1) (h : signalmanref01_Bits.f k l = some t) (ht : t.length = 8 * l.length) :
    Calls Try.prog 7 #[.int .i64 (dn : Int), .int .i64 a1, .slice A l.length c, .bool on] w fun e w' => e = .returned (.bool true) ∧ Below w.heap.size w w' := by
  have HB := Aside0.mk (Below.refl w.heap.size w)
  have HR := Aside0.mk hr
  have HC := Aside0.mk hc
  have HH := Aside0.mk h
  have HTL := Aside0.mk ht
  obtain ⟨q, hq0⟩ : ∃ q : Nat, q = 65530 := ⟨_, rfl⟩
  have hq := Aside0.mk (show q ≤ 65536 by omega)
  have hq2 := Aside0.mk hq0
  have hm : ∀ W : World, (Instr.makeSlice 41 (.int .i64 65530) (.int .i64 65530)).run Try.prog W = .ok (.slice (some ⟨W.heap.size, 0, none⟩) q q) (W.alloc (.cells (madeCells #[.bool false] q) 4)) := by
    have h_ := print_make_of (P := Try.prog) 41 4 (.bool false) 1 Try.underlying41 info4 rfl (by decide) q (by omega)
    have e_ : (q : Int) = 65530 := by omega
    rw [e_] at h_
    exact h_
  have d0 : decide ((100 : Int) < (l.length : Int)) = false := decide_eq_false (by omega)
  have d1 : decide (100 < l.length) = false := decide_eq_false (by omega)
  have d2 : decide ((0 : Int) ≤ (dn : Int)) = true := decide_eq_true (by omega)
  have d3 : decide ((dn : Int) ≤ 65536) = true := decide_eq_true (by omega)
  have d4 : decide (dn ≤ 65536) = true := decide_eq_true (by omega)
  have d5 : decide ((7 : Int) ≤ a1) = false := decide_eq_false (by omega)
  have d6 : decide (8 * (l.length : Int) ≤ 6) = true := decide_eq_true (by omega)
  have d7 : decide (8 * l.length ≤ 6) = true := decide_eq_true (by omega)
  clear hr hc h ht hq0
  go_enter Try.func7, Try.ntmps7
  go_wp2_with (first
  | ((with_reducible refine gate_callee (f := 8) rfl ?_); refine goesL_ (some 20) rfl rfl Try.func8 (by kernel_rfl) rfl #[] rfl (by (try simp only [List.map_toArray, List.map_cons, List.map_nil]); first | done | rfl | (simp [Act.eval, *]; done)) ?_; (with_reducible refine (Wire.awake_calls _).mono ?_); rintro e w9 ⟨rfl, hb⟩; refine ⟨_, rfl, ?_⟩; have n0_ := Aside0.mk (below_step HB.out hb); clear HB; have HB := n0_; clear n0_; clear hb)
  | ((with_reducible refine gate_callee (f := 9) rfl ?_); refine goesL_ (some 30) rfl rfl Try.func9 (by kernel_rfl) rfl #[.int .i64 (dn : Int)] rfl (by (try simp only [List.map_toArray, List.map_cons, List.map_nil]); first | done | rfl | (simp [Act.eval, *]; done)) ?_; (with_reducible refine (Wire.new_bare dn hdn _).mono ?_); rintro e w1 ⟨g0, gl0, rfl, _, _, _, hb⟩; refine ⟨_, rfl, ?_⟩; have n0_ := Aside0.mk (below_step HB.out hb); clear HB; have HB := n0_; clear n0_; clear hb)
  | ((with_reducible refine gate_callee (f := 9) rfl ?_); refine goesL_ (some 50) rfl rfl Try.func9 (by kernel_rfl) rfl #[.int .i64 3] rfl (by (try simp only [List.map_toArray, List.map_cons, List.map_nil]); first | done | rfl | (simp [Act.eval, *]; done)) ?_; (with_reducible refine (Wire.new_bare3 _).mono ?_); rintro e w2 ⟨g, gl, rfl, hg, hgl, hI, hb⟩; refine ⟨_, rfl, ?_⟩; have HG := Aside0.mk (Nat.le_trans HB.out.size hg); have HL := Aside0.mk (Nat.le_trans HB.out.size hgl); have HI := Aside0.mk (hI.isq (Wire.Own w.heap.size g gl) (fun k hk => Wire.Own.apart hk)); have n0_ := Aside0.mk (below_step HB.out hb); clear HB; have HB := n0_; clear n0_; clear hg hgl hI hb)
  | ((with_reducible refine gate_callee (f := 15) rfl ?_); refine goesL_ (some 55) rfl rfl Try.func15 (by kernel_rfl) rfl #[.pointer (some ⟨g, 0, none⟩), .int .i64 a1] rfl (by (try simp only [List.map_toArray, List.map_cons, List.map_nil]); first | done | rfl | (simp [Act.eval, *]; done)) ?_; (with_reducible refine (Wire.break_lo ⟨g, 0, none⟩ a1 hn _).mono ?_); rintro e w3 ⟨rfl, rfl⟩; refine ⟨_, rfl, ?_⟩)
  | ((with_reducible refine gate_callee (f := 15) rfl ?_); refine goesL_ (some 67) rfl rfl Try.func15 (by kernel_rfl) rfl #[.pointer (some ⟨g, 0, none⟩), .int .i64 65536] rfl (by (try simp only [List.map_toArray, List.map_cons, List.map_nil]); first | done | rfl | (simp [Act.eval, *]; done)) ?_; (with_reducible refine (Wire.break_mostq HI.out).mono ?_); rintro e w4 ⟨rfl, hI, ho⟩; refine ⟨_, rfl, ?_⟩; have n0_ := Aside0.mk (ho.below (B := w.heap.size) (fun k hk => hk ▸ HG.out) HB.out HB.out.size); have n1_ := Aside0.mk (hI); clear HB HI; have HB := n0_; have HI := n1_; clear n0_ n1_; clear hI ho)
  | ((with_reducible refine gate_callee (f := 14) rfl ?_); refine goesL_ (some 70) rfl rfl Try.func14 (by kernel_rfl) rfl #[.pointer (some ⟨g, 0, none⟩), .slice (some ⟨w4.heap.size, 0, none⟩) q q] rfl (by (try simp only [List.map_toArray, List.map_cons, List.map_nil]); first | done | rfl | (simp [Act.eval, *]; done)) ?_; (with_reducible refine (Wire.bend_madeq (w := w4) q hq.out HI.out (Wire.Own.fresh HB.out HI.out)).mono ?_); rintro e w5 ⟨rfl, hI, ho⟩; refine ⟨_, rfl, ?_⟩; have n0_ := Aside0.mk (ho.below (B := w.heap.size) (fun k hk => hk.elim (fun e => e ▸ HG.out) Wire.Own.low) (below_alloc HB.out _) (below_alloc HB.out _).size); have n1_ := Aside0.mk (hI); clear HB HI; have HB := n0_; have HI := n1_; clear n0_ n1_; clear hI ho)
  | ((with_reducible refine gate_callee (f := 10) rfl ?_); refine goesL_ (some 73) rfl rfl Try.func10 (by kernel_rfl) rfl #[.slice A l.length c] rfl (by (try simp only [List.map_toArray, List.map_cons, List.map_nil]); first | done | rfl | (simp [Act.eval, *]; done)) ?_; (with_reducible refine (signalmanref01_Bits.calls k A c l t _ (Kd.C_below HR.out HB.out) HC.out HH.out).mono ?_); rintro e w6 ⟨v, rfl, ho, hb⟩; refine ⟨_, rfl, ?_⟩; obtain ⟨At, ct, rfl, hct, hrt, hft⟩ := Wire.fresh_reads ho; have HT := Aside0.mk hrt; have n0_ := Aside0.mk (Wire.Isq.below HI.out hb); have n1_ := Aside0.mk (below_step HB.out hb); clear HI HB; have HI := n0_; have HB := n1_; clear n0_ n1_; clear ho hb hct hrt hft)
  | ((with_reducible refine gate_callee (f := 14) rfl ?_); refine goesL_ (some 74) rfl rfl Try.func14 (by kernel_rfl) rfl #[.pointer (some ⟨g, 0, none⟩), .slice At t.length ct] rfl (by (try simp only [List.map_toArray, List.map_cons, List.map_nil]); first | done | rfl | (simp [Act.eval, *]; done)) ?_; (with_reducible refine (Wire.bendq HI.out t At ct HT.out (by have := HTL.out; have := hq2.out; rw [List.length_replicate]; omega) (Wire.Own.fresh HB.out HI.out)).mono ?_); rintro e w7 ⟨rfl, hI, ho⟩; refine ⟨_, rfl, ?_⟩; have n0_ := Aside0.mk (ho.below (B := w.heap.size) (fun k hk => hk.elim (fun e => e ▸ HG.out) Wire.Own.low) HB.out HB.out.size); clear HB; have HB := n0_; clear n0_; clear hI ho)
  | ((with_reducible refine gate_callee (f := 11) rfl ?_); (try (refine gate_guard (by rfl) ?_; dsimp only)); refine goesL_ (some 102) rfl rfl Try.func11 (by kernel_rfl) rfl #[.pointer none, .bool on] rfl (by (try simp only [List.map_toArray, List.map_cons, List.map_nil]); first | done | rfl | (simp [Act.eval, *]; done)) ?_; (with_reducible refine (Wire.pass_nil on _).mono ?_); rintro e wz ⟨rfl, rfl⟩; refine ⟨_, rfl, ?_⟩)
  | ((with_reducible refine gate_callee (f := 14) rfl ?_); (try (refine gate_guard (by rfl) ?_; dsimp only)); refine goesL_ (some 108) rfl rfl Try.func14 (by kernel_rfl) rfl #[.pointer none, .slice none 0 0] rfl (by (try simp only [List.map_toArray, List.map_cons, List.map_nil]); first | done | rfl | (simp [Act.eval, *]; done)) ?_; (with_reducible refine (Wire.bend_nil (.slice none 0 0) _).mono ?_); rintro e wz ⟨rfl, rfl⟩; refine ⟨_, rfl, ?_⟩)
  | ((with_reducible refine gate_callee (f := 15) rfl ?_); (try (refine gate_guard (by rfl) ?_; dsimp only)); refine goesL_ (some 113) rfl rfl Try.func15 (by kernel_rfl) rfl #[.pointer none, .int .i64 9] rfl (by (try simp only [List.map_toArray, List.map_cons, List.map_nil]); first | done | rfl | (simp [Act.eval, *]; done)) ?_; (with_reducible refine (Wire.break_nil 9 _).mono ?_); rintro e wz ⟨rfl, rfl⟩; refine ⟨_, rfl, ?_⟩)
  | ((with_reducible refine gate_callee (f := 17) rfl ?_); (try (refine gate_guard (by rfl) ?_; dsimp only)); refine goesL_ (some 118) rfl rfl Try.func17 (by kernel_rfl) rfl #[.pointer none] rfl (by (try simp only [List.map_toArray, List.map_cons, List.map_nil]); first | done | rfl | (simp [Act.eval, *]; done)) ?_; (with_reducible refine (Wire.delay_nil _).mono ?_); rintro e wz ⟨rfl, rfl⟩; refine ⟨_, rfl, ?_⟩)
  | ((with_reducible refine gate_callee (f := 16) rfl ?_); (try (refine gate_guard (by rfl) ?_; dsimp only)); refine goesL_ (some 120) rfl rfl Try.func16 (by kernel_rfl) rfl #[.pointer none] rfl (by (try simp only [List.map_toArray, List.map_cons, List.map_nil]); first | done | rfl | (simp [Act.eval, *]; done)) ?_; (with_reducible refine (Wire.masked_nil _).mono ?_); rintro e wz ⟨rfl, rfl⟩; refine ⟨_, rfl, ?_⟩)
  | ((with_reducible refine gate_callee (f := 13) rfl ?_); (try (refine gate_guard (by rfl) ?_; dsimp only)); refine goesL_ (some 123) rfl rfl Try.func13 (by kernel_rfl) rfl #[.pointer none] rfl (by (try simp only [List.map_toArray, List.map_cons, List.map_nil]); first | done | rfl | (simp [Act.eval, *]; done)) ?_; (with_reducible refine (Wire.bent_nil _).mono ?_); rintro e wz ⟨rfl, rfl⟩; refine ⟨_, rfl, ?_⟩))
  go_ret
  exact ⟨rfl, HB.out⟩
set_option maxHeartbeats 8000000 in
set_option maxRecDepth 100000 in
theorem signalmanlaw20_WireBounds.w_ok_lo_yes (k : Nat) (dn : Nat) (hdn : dn ≤ 65536) (a1 : Int) (hn : a1 < 7) (A : Option Addr) (c : Nat) (l : List Int) (t : List Bool) (on : Bool) (w : World) (hr : Kd.C (Kd.int .u8) w A l.length l) (hc : l.length ≤ c) (hl : l.length ≤ 100) (hE : 0 < l.length) (h : signalmanref01_Bits.f k l = some t) (ht : t.length = 8 * l.length) :
    Calls Try.prog 7 #[.int .i64 (dn : Int), .int .i64 a1, .slice A l.length c, .bool on] w fun e w' => e = .returned (.bool true) ∧ Below w.heap.size w w' := by
  have HB := Aside0.mk (Below.refl w.heap.size w)
  have HR := Aside0.mk hr
  have HC := Aside0.mk hc
  have HH := Aside0.mk h
  have HTL := Aside0.mk ht
  obtain ⟨q, hq0⟩ : ∃ q : Nat, q = 65530 := ⟨_, rfl⟩
  have hq := Aside0.mk (show q ≤ 65536 by omega)
  have hq2 := Aside0.mk hq0
  have hm : ∀ W : World, (Instr.makeSlice 41 (.int .i64 65530) (.int .i64 65530)).run Try.prog W = .ok (.slice (some ⟨W.heap.size, 0, none⟩) q q) (W.alloc (.cells (madeCells #[.bool false] q) 4)) := by
    have h_ := print_make_of (P := Try.prog) 41 4 (.bool false) 1 Try.underlying41 info4 rfl (by decide) q (by omega)
    have e_ : (q : Int) = 65530 := by omega
    rw [e_] at h_
    exact h_
  have d0 : decide ((100 : Int) < (l.length : Int)) = false := decide_eq_false (by omega)
  have d1 : decide (100 < l.length) = false := decide_eq_false (by omega)
  have d2 : decide ((0 : Int) ≤ (dn : Int)) = true := decide_eq_true (by omega)
  have d3 : decide ((dn : Int) ≤ 65536) = true := decide_eq_true (by omega)
  have d4 : decide (dn ≤ 65536) = true := decide_eq_true (by omega)
  have d5 : decide ((7 : Int) ≤ a1) = false := decide_eq_false (by omega)
  have d6 : decide (8 * (l.length : Int) ≤ 6) = false := decide_eq_false (by omega)
  have d7 : decide (8 * l.length ≤ 6) = false := decide_eq_false (by omega)
  clear hr hc h ht hq0
  go_enter Try.func7, Try.ntmps7
  go_wp2_with (first
  | ((with_reducible refine gate_callee (f := 8) rfl ?_); refine goesL_ (some 20) rfl rfl Try.func8 (by kernel_rfl) rfl #[] rfl (by (try simp only [List.map_toArray, List.map_cons, List.map_nil]); first | done | rfl | (simp [Act.eval, *]; done)) ?_; (with_reducible refine (Wire.awake_calls _).mono ?_); rintro e w9 ⟨rfl, hb⟩; refine ⟨_, rfl, ?_⟩; have n0_ := Aside0.mk (below_step HB.out hb); clear HB; have HB := n0_; clear n0_; clear hb)
  | ((with_reducible refine gate_callee (f := 9) rfl ?_); refine goesL_ (some 30) rfl rfl Try.func9 (by kernel_rfl) rfl #[.int .i64 (dn : Int)] rfl (by (try simp only [List.map_toArray, List.map_cons, List.map_nil]); first | done | rfl | (simp [Act.eval, *]; done)) ?_; (with_reducible refine (Wire.new_bare dn hdn _).mono ?_); rintro e w1 ⟨g0, gl0, rfl, _, _, _, hb⟩; refine ⟨_, rfl, ?_⟩; have n0_ := Aside0.mk (below_step HB.out hb); clear HB; have HB := n0_; clear n0_; clear hb)
  | ((with_reducible refine gate_callee (f := 9) rfl ?_); refine goesL_ (some 50) rfl rfl Try.func9 (by kernel_rfl) rfl #[.int .i64 3] rfl (by (try simp only [List.map_toArray, List.map_cons, List.map_nil]); first | done | rfl | (simp [Act.eval, *]; done)) ?_; (with_reducible refine (Wire.new_bare3 _).mono ?_); rintro e w2 ⟨g, gl, rfl, hg, hgl, hI, hb⟩; refine ⟨_, rfl, ?_⟩; have HG := Aside0.mk (Nat.le_trans HB.out.size hg); have HL := Aside0.mk (Nat.le_trans HB.out.size hgl); have HI := Aside0.mk (hI.isq (Wire.Own w.heap.size g gl) (fun k hk => Wire.Own.apart hk)); have n0_ := Aside0.mk (below_step HB.out hb); clear HB; have HB := n0_; clear n0_; clear hg hgl hI hb)
  | ((with_reducible refine gate_callee (f := 15) rfl ?_); refine goesL_ (some 55) rfl rfl Try.func15 (by kernel_rfl) rfl #[.pointer (some ⟨g, 0, none⟩), .int .i64 a1] rfl (by (try simp only [List.map_toArray, List.map_cons, List.map_nil]); first | done | rfl | (simp [Act.eval, *]; done)) ?_; (with_reducible refine (Wire.break_lo ⟨g, 0, none⟩ a1 hn _).mono ?_); rintro e w3 ⟨rfl, rfl⟩; refine ⟨_, rfl, ?_⟩)
  | ((with_reducible refine gate_callee (f := 15) rfl ?_); refine goesL_ (some 67) rfl rfl Try.func15 (by kernel_rfl) rfl #[.pointer (some ⟨g, 0, none⟩), .int .i64 65536] rfl (by (try simp only [List.map_toArray, List.map_cons, List.map_nil]); first | done | rfl | (simp [Act.eval, *]; done)) ?_; (with_reducible refine (Wire.break_mostq HI.out).mono ?_); rintro e w4 ⟨rfl, hI, ho⟩; refine ⟨_, rfl, ?_⟩; have n0_ := Aside0.mk (ho.below (B := w.heap.size) (fun k hk => hk ▸ HG.out) HB.out HB.out.size); have n1_ := Aside0.mk (hI); clear HB HI; have HB := n0_; have HI := n1_; clear n0_ n1_; clear hI ho)
  | ((with_reducible refine gate_callee (f := 14) rfl ?_); refine goesL_ (some 70) rfl rfl Try.func14 (by kernel_rfl) rfl #[.pointer (some ⟨g, 0, none⟩), .slice (some ⟨w4.heap.size, 0, none⟩) q q] rfl (by (try simp only [List.map_toArray, List.map_cons, List.map_nil]); first | done | rfl | (simp [Act.eval, *]; done)) ?_; (with_reducible refine (Wire.bend_madeq (w := w4) q hq.out HI.out (Wire.Own.fresh HB.out HI.out)).mono ?_); rintro e w5 ⟨rfl, hI, ho⟩; refine ⟨_, rfl, ?_⟩; have n0_ := Aside0.mk (ho.below (B := w.heap.size) (fun k hk => hk.elim (fun e => e ▸ HG.out) Wire.Own.low) (below_alloc HB.out _) (below_alloc HB.out _).size); have n1_ := Aside0.mk (hI); clear HB HI; have HB := n0_; have HI := n1_; clear n0_ n1_; clear hI ho)
  | ((with_reducible refine gate_callee (f := 10) rfl ?_); refine goesL_ (some 73) rfl rfl Try.func10 (by kernel_rfl) rfl #[.slice A l.length c] rfl (by (try simp only [List.map_toArray, List.map_cons, List.map_nil]); first | done | rfl | (simp [Act.eval, *]; done)) ?_; (with_reducible refine (signalmanref01_Bits.calls k A c l t _ (Kd.C_below HR.out HB.out) HC.out HH.out).mono ?_); rintro e w6 ⟨v, rfl, ho, hb⟩; refine ⟨_, rfl, ?_⟩; obtain ⟨At, ct, rfl, hct, hrt, hft⟩ := Wire.fresh_reads ho; have HT := Aside0.mk hrt; have n0_ := Aside0.mk (Wire.Isq.below HI.out hb); have n1_ := Aside0.mk (below_step HB.out hb); clear HI HB; have HI := n0_; have HB := n1_; clear n0_ n1_; clear ho hb hct hrt hft)
  | ((with_reducible refine gate_callee (f := 14) rfl ?_); refine goesL_ (some 74) rfl rfl Try.func14 (by kernel_rfl) rfl #[.pointer (some ⟨g, 0, none⟩), .slice At t.length ct] rfl (by (try simp only [List.map_toArray, List.map_cons, List.map_nil]); first | done | rfl | (simp [Act.eval, *]; done)) ?_; (with_reducible refine (Wire.bend_fullq HI.out At t.length ct (by have := HTL.out; have := hq2.out; rw [List.length_replicate]; omega) (by have := hq2.out; rw [List.length_replicate]; omega) (by have := HTL.out; omega)).mono ?_); rintro e w7 ⟨rfl, rfl⟩; refine ⟨_, rfl, ?_⟩)
  | ((with_reducible refine gate_callee (f := 11) rfl ?_); (try (refine gate_guard (by rfl) ?_; dsimp only)); refine goesL_ (some 102) rfl rfl Try.func11 (by kernel_rfl) rfl #[.pointer none, .bool on] rfl (by (try simp only [List.map_toArray, List.map_cons, List.map_nil]); first | done | rfl | (simp [Act.eval, *]; done)) ?_; (with_reducible refine (Wire.pass_nil on _).mono ?_); rintro e wz ⟨rfl, rfl⟩; refine ⟨_, rfl, ?_⟩)
  | ((with_reducible refine gate_callee (f := 14) rfl ?_); (try (refine gate_guard (by rfl) ?_; dsimp only)); refine goesL_ (some 108) rfl rfl Try.func14 (by kernel_rfl) rfl #[.pointer none, .slice none 0 0] rfl (by (try simp only [List.map_toArray, List.map_cons, List.map_nil]); first | done | rfl | (simp [Act.eval, *]; done)) ?_; (with_reducible refine (Wire.bend_nil (.slice none 0 0) _).mono ?_); rintro e wz ⟨rfl, rfl⟩; refine ⟨_, rfl, ?_⟩)
  | ((with_reducible refine gate_callee (f := 15) rfl ?_); (try (refine gate_guard (by rfl) ?_; dsimp only)); refine goesL_ (some 113) rfl rfl Try.func15 (by kernel_rfl) rfl #[.pointer none, .int .i64 9] rfl (by (try simp only [List.map_toArray, List.map_cons, List.map_nil]); first | done | rfl | (simp [Act.eval, *]; done)) ?_; (with_reducible refine (Wire.break_nil 9 _).mono ?_); rintro e wz ⟨rfl, rfl⟩; refine ⟨_, rfl, ?_⟩)
  | ((with_reducible refine gate_callee (f := 17) rfl ?_); (try (refine gate_guard (by rfl) ?_; dsimp only)); refine goesL_ (some 118) rfl rfl Try.func17 (by kernel_rfl) rfl #[.pointer none] rfl (by (try simp only [List.map_toArray, List.map_cons, List.map_nil]); first | done | rfl | (simp [Act.eval, *]; done)) ?_; (with_reducible refine (Wire.delay_nil _).mono ?_); rintro e wz ⟨rfl, rfl⟩; refine ⟨_, rfl, ?_⟩)
  | ((with_reducible refine gate_callee (f := 16) rfl ?_); (try (refine gate_guard (by rfl) ?_; dsimp only)); refine goesL_ (some 120) rfl rfl Try.func16 (by kernel_rfl) rfl #[.pointer none] rfl (by (try simp only [List.map_toArray, List.map_cons, List.map_nil]); first | done | rfl | (simp [Act.eval, *]; done)) ?_; (with_reducible refine (Wire.masked_nil _).mono ?_); rintro e wz ⟨rfl, rfl⟩; refine ⟨_, rfl, ?_⟩)
  | ((with_reducible refine gate_callee (f := 13) rfl ?_); (try (refine gate_guard (by rfl) ?_; dsimp only)); refine goesL_ (some 123) rfl rfl Try.func13 (by kernel_rfl) rfl #[.pointer none] rfl (by (try simp only [List.map_toArray, List.map_cons, List.map_nil]); first | done | rfl | (simp [Act.eval, *]; done)) ?_; (with_reducible refine (Wire.bent_nil _).mono ?_); rintro e wz ⟨rfl, rfl⟩; refine ⟨_, rfl, ?_⟩))
  go_ret
  exact ⟨rfl, HB.out⟩
set_option maxHeartbeats 8000000 in
set_option maxRecDepth 100000 in
theorem signalmanlaw20_WireBounds.w_ok_hi_no (k : Nat) (dn : Nat) (hdn : dn ≤ 65536) (a1 : Int) (hn : 65536 < a1) (A : Option Addr) (c : Nat) (l : List Int) (t : List Bool) (on : Bool) (w : World) (hr : Kd.C (Kd.int .u8) w A l.length l) (hc : l.length ≤ c) (hl : l.length ≤ 100) (hE : l.length < 1) (h : signalmanref01_Bits.f k l = some t) (ht : t.length = 8 * l.length) :
    Calls Try.prog 7 #[.int .i64 (dn : Int), .int .i64 a1, .slice A l.length c, .bool on] w fun e w' => e = .returned (.bool true) ∧ Below w.heap.size w w' := by
  have HB := Aside0.mk (Below.refl w.heap.size w)
  have HR := Aside0.mk hr
  have HC := Aside0.mk hc
  have HH := Aside0.mk h
  have HTL := Aside0.mk ht
  obtain ⟨q, hq0⟩ : ∃ q : Nat, q = 65530 := ⟨_, rfl⟩
  have hq := Aside0.mk (show q ≤ 65536 by omega)
  have hq2 := Aside0.mk hq0
  have hm : ∀ W : World, (Instr.makeSlice 41 (.int .i64 65530) (.int .i64 65530)).run Try.prog W = .ok (.slice (some ⟨W.heap.size, 0, none⟩) q q) (W.alloc (.cells (madeCells #[.bool false] q) 4)) := by
    have h_ := print_make_of (P := Try.prog) 41 4 (.bool false) 1 Try.underlying41 info4 rfl (by decide) q (by omega)
    have e_ : (q : Int) = 65530 := by omega
    rw [e_] at h_
    exact h_
  have d0 : decide ((100 : Int) < (l.length : Int)) = false := decide_eq_false (by omega)
  have d1 : decide (100 < l.length) = false := decide_eq_false (by omega)
  have d2 : decide ((0 : Int) ≤ (dn : Int)) = true := decide_eq_true (by omega)
  have d3 : decide ((dn : Int) ≤ 65536) = true := decide_eq_true (by omega)
  have d4 : decide (dn ≤ 65536) = true := decide_eq_true (by omega)
  have d5 : decide ((7 : Int) ≤ a1) = true := decide_eq_true (by omega)
  have d6 : decide (a1 ≤ 65536) = false := decide_eq_false (by omega)
  have d7 : decide (8 * (l.length : Int) ≤ 6) = true := decide_eq_true (by omega)
  have d8 : decide (8 * l.length ≤ 6) = true := decide_eq_true (by omega)
  clear hr hc h ht hq0
  go_enter Try.func7, Try.ntmps7
  go_wp2_with (first
  | ((with_reducible refine gate_callee (f := 8) rfl ?_); refine goesL_ (some 20) rfl rfl Try.func8 (by kernel_rfl) rfl #[] rfl (by (try simp only [List.map_toArray, List.map_cons, List.map_nil]); first | done | rfl | (simp [Act.eval, *]; done)) ?_; (with_reducible refine (Wire.awake_calls _).mono ?_); rintro e w9 ⟨rfl, hb⟩; refine ⟨_, rfl, ?_⟩; have n0_ := Aside0.mk (below_step HB.out hb); clear HB; have HB := n0_; clear n0_; clear hb)
  | ((with_reducible refine gate_callee (f := 9) rfl ?_); refine goesL_ (some 30) rfl rfl Try.func9 (by kernel_rfl) rfl #[.int .i64 (dn : Int)] rfl (by (try simp only [List.map_toArray, List.map_cons, List.map_nil]); first | done | rfl | (simp [Act.eval, *]; done)) ?_; (with_reducible refine (Wire.new_bare dn hdn _).mono ?_); rintro e w1 ⟨g0, gl0, rfl, _, _, _, hb⟩; refine ⟨_, rfl, ?_⟩; have n0_ := Aside0.mk (below_step HB.out hb); clear HB; have HB := n0_; clear n0_; clear hb)
  | ((with_reducible refine gate_callee (f := 9) rfl ?_); refine goesL_ (some 50) rfl rfl Try.func9 (by kernel_rfl) rfl #[.int .i64 3] rfl (by (try simp only [List.map_toArray, List.map_cons, List.map_nil]); first | done | rfl | (simp [Act.eval, *]; done)) ?_; (with_reducible refine (Wire.new_bare3 _).mono ?_); rintro e w2 ⟨g, gl, rfl, hg, hgl, hI, hb⟩; refine ⟨_, rfl, ?_⟩; have HG := Aside0.mk (Nat.le_trans HB.out.size hg); have HL := Aside0.mk (Nat.le_trans HB.out.size hgl); have HI := Aside0.mk (hI.isq (Wire.Own w.heap.size g gl) (fun k hk => Wire.Own.apart hk)); have n0_ := Aside0.mk (below_step HB.out hb); clear HB; have HB := n0_; clear n0_; clear hg hgl hI hb)
  | ((with_reducible refine gate_callee (f := 15) rfl ?_); refine goesL_ (some 55) rfl rfl Try.func15 (by kernel_rfl) rfl #[.pointer (some ⟨g, 0, none⟩), .int .i64 a1] rfl (by (try simp only [List.map_toArray, List.map_cons, List.map_nil]); first | done | rfl | (simp [Act.eval, *]; done)) ?_; (with_reducible refine (Wire.break_hi ⟨g, 0, none⟩ a1 hn _).mono ?_); rintro e w3 ⟨rfl, rfl⟩; refine ⟨_, rfl, ?_⟩)
  | ((with_reducible refine gate_callee (f := 15) rfl ?_); refine goesL_ (some 67) rfl rfl Try.func15 (by kernel_rfl) rfl #[.pointer (some ⟨g, 0, none⟩), .int .i64 65536] rfl (by (try simp only [List.map_toArray, List.map_cons, List.map_nil]); first | done | rfl | (simp [Act.eval, *]; done)) ?_; (with_reducible refine (Wire.break_mostq HI.out).mono ?_); rintro e w4 ⟨rfl, hI, ho⟩; refine ⟨_, rfl, ?_⟩; have n0_ := Aside0.mk (ho.below (B := w.heap.size) (fun k hk => hk ▸ HG.out) HB.out HB.out.size); have n1_ := Aside0.mk (hI); clear HB HI; have HB := n0_; have HI := n1_; clear n0_ n1_; clear hI ho)
  | ((with_reducible refine gate_callee (f := 14) rfl ?_); refine goesL_ (some 70) rfl rfl Try.func14 (by kernel_rfl) rfl #[.pointer (some ⟨g, 0, none⟩), .slice (some ⟨w4.heap.size, 0, none⟩) q q] rfl (by (try simp only [List.map_toArray, List.map_cons, List.map_nil]); first | done | rfl | (simp [Act.eval, *]; done)) ?_; (with_reducible refine (Wire.bend_madeq (w := w4) q hq.out HI.out (Wire.Own.fresh HB.out HI.out)).mono ?_); rintro e w5 ⟨rfl, hI, ho⟩; refine ⟨_, rfl, ?_⟩; have n0_ := Aside0.mk (ho.below (B := w.heap.size) (fun k hk => hk.elim (fun e => e ▸ HG.out) Wire.Own.low) (below_alloc HB.out _) (below_alloc HB.out _).size); have n1_ := Aside0.mk (hI); clear HB HI; have HB := n0_; have HI := n1_; clear n0_ n1_; clear hI ho)
  | ((with_reducible refine gate_callee (f := 10) rfl ?_); refine goesL_ (some 73) rfl rfl Try.func10 (by kernel_rfl) rfl #[.slice A l.length c] rfl (by (try simp only [List.map_toArray, List.map_cons, List.map_nil]); first | done | rfl | (simp [Act.eval, *]; done)) ?_; (with_reducible refine (signalmanref01_Bits.calls k A c l t _ (Kd.C_below HR.out HB.out) HC.out HH.out).mono ?_); rintro e w6 ⟨v, rfl, ho, hb⟩; refine ⟨_, rfl, ?_⟩; obtain ⟨At, ct, rfl, hct, hrt, hft⟩ := Wire.fresh_reads ho; have HT := Aside0.mk hrt; have n0_ := Aside0.mk (Wire.Isq.below HI.out hb); have n1_ := Aside0.mk (below_step HB.out hb); clear HI HB; have HI := n0_; have HB := n1_; clear n0_ n1_; clear ho hb hct hrt hft)
  | ((with_reducible refine gate_callee (f := 14) rfl ?_); refine goesL_ (some 74) rfl rfl Try.func14 (by kernel_rfl) rfl #[.pointer (some ⟨g, 0, none⟩), .slice At t.length ct] rfl (by (try simp only [List.map_toArray, List.map_cons, List.map_nil]); first | done | rfl | (simp [Act.eval, *]; done)) ?_; (with_reducible refine (Wire.bendq HI.out t At ct HT.out (by have := HTL.out; have := hq2.out; rw [List.length_replicate]; omega) (Wire.Own.fresh HB.out HI.out)).mono ?_); rintro e w7 ⟨rfl, hI, ho⟩; refine ⟨_, rfl, ?_⟩; have n0_ := Aside0.mk (ho.below (B := w.heap.size) (fun k hk => hk.elim (fun e => e ▸ HG.out) Wire.Own.low) HB.out HB.out.size); clear HB; have HB := n0_; clear n0_; clear hI ho)
  | ((with_reducible refine gate_callee (f := 11) rfl ?_); (try (refine gate_guard (by rfl) ?_; dsimp only)); refine goesL_ (some 102) rfl rfl Try.func11 (by kernel_rfl) rfl #[.pointer none, .bool on] rfl (by (try simp only [List.map_toArray, List.map_cons, List.map_nil]); first | done | rfl | (simp [Act.eval, *]; done)) ?_; (with_reducible refine (Wire.pass_nil on _).mono ?_); rintro e wz ⟨rfl, rfl⟩; refine ⟨_, rfl, ?_⟩)
  | ((with_reducible refine gate_callee (f := 14) rfl ?_); (try (refine gate_guard (by rfl) ?_; dsimp only)); refine goesL_ (some 108) rfl rfl Try.func14 (by kernel_rfl) rfl #[.pointer none, .slice none 0 0] rfl (by (try simp only [List.map_toArray, List.map_cons, List.map_nil]); first | done | rfl | (simp [Act.eval, *]; done)) ?_; (with_reducible refine (Wire.bend_nil (.slice none 0 0) _).mono ?_); rintro e wz ⟨rfl, rfl⟩; refine ⟨_, rfl, ?_⟩)
  | ((with_reducible refine gate_callee (f := 15) rfl ?_); (try (refine gate_guard (by rfl) ?_; dsimp only)); refine goesL_ (some 113) rfl rfl Try.func15 (by kernel_rfl) rfl #[.pointer none, .int .i64 9] rfl (by (try simp only [List.map_toArray, List.map_cons, List.map_nil]); first | done | rfl | (simp [Act.eval, *]; done)) ?_; (with_reducible refine (Wire.break_nil 9 _).mono ?_); rintro e wz ⟨rfl, rfl⟩; refine ⟨_, rfl, ?_⟩)
  | ((with_reducible refine gate_callee (f := 17) rfl ?_); (try (refine gate_guard (by rfl) ?_; dsimp only)); refine goesL_ (some 118) rfl rfl Try.func17 (by kernel_rfl) rfl #[.pointer none] rfl (by (try simp only [List.map_toArray, List.map_cons, List.map_nil]); first | done | rfl | (simp [Act.eval, *]; done)) ?_; (with_reducible refine (Wire.delay_nil _).mono ?_); rintro e wz ⟨rfl, rfl⟩; refine ⟨_, rfl, ?_⟩)
  | ((with_reducible refine gate_callee (f := 16) rfl ?_); (try (refine gate_guard (by rfl) ?_; dsimp only)); refine goesL_ (some 120) rfl rfl Try.func16 (by kernel_rfl) rfl #[.pointer none] rfl (by (try simp only [List.map_toArray, List.map_cons, List.map_nil]); first | done | rfl | (simp [Act.eval, *]; done)) ?_; (with_reducible refine (Wire.masked_nil _).mono ?_); rintro e wz ⟨rfl, rfl⟩; refine ⟨_, rfl, ?_⟩)
  | ((with_reducible refine gate_callee (f := 13) rfl ?_); (try (refine gate_guard (by rfl) ?_; dsimp only)); refine goesL_ (some 123) rfl rfl Try.func13 (by kernel_rfl) rfl #[.pointer none] rfl (by (try simp only [List.map_toArray, List.map_cons, List.map_nil]); first | done | rfl | (simp [Act.eval, *]; done)) ?_; (with_reducible refine (Wire.bent_nil _).mono ?_); rintro e wz ⟨rfl, rfl⟩; refine ⟨_, rfl, ?_⟩))
  go_ret
  exact ⟨rfl, HB.out⟩
set_option maxHeartbeats 8000000 in
set_option maxRecDepth 100000 in
theorem signalmanlaw20_WireBounds.w_ok_hi_yes (k : Nat) (dn : Nat) (hdn : dn ≤ 65536) (a1 : Int) (hn : 65536 < a1) (A : Option Addr) (c : Nat) (l : List Int) (t : List Bool) (on : Bool) (w : World) (hr : Kd.C (Kd.int .u8) w A l.length l) (hc : l.length ≤ c) (hl : l.length ≤ 100) (hE : 0 < l.length) (h : signalmanref01_Bits.f k l = some t) (ht : t.length = 8 * l.length) :
    Calls Try.prog 7 #[.int .i64 (dn : Int), .int .i64 a1, .slice A l.length c, .bool on] w fun e w' => e = .returned (.bool true) ∧ Below w.heap.size w w' := by
  have HB := Aside0.mk (Below.refl w.heap.size w)
  have HR := Aside0.mk hr
  have HC := Aside0.mk hc
  have HH := Aside0.mk h
  have HTL := Aside0.mk ht
  obtain ⟨q, hq0⟩ : ∃ q : Nat, q = 65530 := ⟨_, rfl⟩
  have hq := Aside0.mk (show q ≤ 65536 by omega)
  have hq2 := Aside0.mk hq0
  have hm : ∀ W : World, (Instr.makeSlice 41 (.int .i64 65530) (.int .i64 65530)).run Try.prog W = .ok (.slice (some ⟨W.heap.size, 0, none⟩) q q) (W.alloc (.cells (madeCells #[.bool false] q) 4)) := by
    have h_ := print_make_of (P := Try.prog) 41 4 (.bool false) 1 Try.underlying41 info4 rfl (by decide) q (by omega)
    have e_ : (q : Int) = 65530 := by omega
    rw [e_] at h_
    exact h_
  have d0 : decide ((100 : Int) < (l.length : Int)) = false := decide_eq_false (by omega)
  have d1 : decide (100 < l.length) = false := decide_eq_false (by omega)
  have d2 : decide ((0 : Int) ≤ (dn : Int)) = true := decide_eq_true (by omega)
  have d3 : decide ((dn : Int) ≤ 65536) = true := decide_eq_true (by omega)
  have d4 : decide (dn ≤ 65536) = true := decide_eq_true (by omega)
  have d5 : decide ((7 : Int) ≤ a1) = true := decide_eq_true (by omega)
  have d6 : decide (a1 ≤ 65536) = false := decide_eq_false (by omega)
  have d7 : decide (8 * (l.length : Int) ≤ 6) = false := decide_eq_false (by omega)
  have d8 : decide (8 * l.length ≤ 6) = false := decide_eq_false (by omega)
  clear hr hc h ht hq0
  go_enter Try.func7, Try.ntmps7
  go_wp2_with (first
  | ((with_reducible refine gate_callee (f := 8) rfl ?_); refine goesL_ (some 20) rfl rfl Try.func8 (by kernel_rfl) rfl #[] rfl (by (try simp only [List.map_toArray, List.map_cons, List.map_nil]); first | done | rfl | (simp [Act.eval, *]; done)) ?_; (with_reducible refine (Wire.awake_calls _).mono ?_); rintro e w9 ⟨rfl, hb⟩; refine ⟨_, rfl, ?_⟩; have n0_ := Aside0.mk (below_step HB.out hb); clear HB; have HB := n0_; clear n0_; clear hb)
  | ((with_reducible refine gate_callee (f := 9) rfl ?_); refine goesL_ (some 30) rfl rfl Try.func9 (by kernel_rfl) rfl #[.int .i64 (dn : Int)] rfl (by (try simp only [List.map_toArray, List.map_cons, List.map_nil]); first | done | rfl | (simp [Act.eval, *]; done)) ?_; (with_reducible refine (Wire.new_bare dn hdn _).mono ?_); rintro e w1 ⟨g0, gl0, rfl, _, _, _, hb⟩; refine ⟨_, rfl, ?_⟩; have n0_ := Aside0.mk (below_step HB.out hb); clear HB; have HB := n0_; clear n0_; clear hb)
  | ((with_reducible refine gate_callee (f := 9) rfl ?_); refine goesL_ (some 50) rfl rfl Try.func9 (by kernel_rfl) rfl #[.int .i64 3] rfl (by (try simp only [List.map_toArray, List.map_cons, List.map_nil]); first | done | rfl | (simp [Act.eval, *]; done)) ?_; (with_reducible refine (Wire.new_bare3 _).mono ?_); rintro e w2 ⟨g, gl, rfl, hg, hgl, hI, hb⟩; refine ⟨_, rfl, ?_⟩; have HG := Aside0.mk (Nat.le_trans HB.out.size hg); have HL := Aside0.mk (Nat.le_trans HB.out.size hgl); have HI := Aside0.mk (hI.isq (Wire.Own w.heap.size g gl) (fun k hk => Wire.Own.apart hk)); have n0_ := Aside0.mk (below_step HB.out hb); clear HB; have HB := n0_; clear n0_; clear hg hgl hI hb)
  | ((with_reducible refine gate_callee (f := 15) rfl ?_); refine goesL_ (some 55) rfl rfl Try.func15 (by kernel_rfl) rfl #[.pointer (some ⟨g, 0, none⟩), .int .i64 a1] rfl (by (try simp only [List.map_toArray, List.map_cons, List.map_nil]); first | done | rfl | (simp [Act.eval, *]; done)) ?_; (with_reducible refine (Wire.break_hi ⟨g, 0, none⟩ a1 hn _).mono ?_); rintro e w3 ⟨rfl, rfl⟩; refine ⟨_, rfl, ?_⟩)
  | ((with_reducible refine gate_callee (f := 15) rfl ?_); refine goesL_ (some 67) rfl rfl Try.func15 (by kernel_rfl) rfl #[.pointer (some ⟨g, 0, none⟩), .int .i64 65536] rfl (by (try simp only [List.map_toArray, List.map_cons, List.map_nil]); first | done | rfl | (simp [Act.eval, *]; done)) ?_; (with_reducible refine (Wire.break_mostq HI.out).mono ?_); rintro e w4 ⟨rfl, hI, ho⟩; refine ⟨_, rfl, ?_⟩; have n0_ := Aside0.mk (ho.below (B := w.heap.size) (fun k hk => hk ▸ HG.out) HB.out HB.out.size); have n1_ := Aside0.mk (hI); clear HB HI; have HB := n0_; have HI := n1_; clear n0_ n1_; clear hI ho)
  | ((with_reducible refine gate_callee (f := 14) rfl ?_); refine goesL_ (some 70) rfl rfl Try.func14 (by kernel_rfl) rfl #[.pointer (some ⟨g, 0, none⟩), .slice (some ⟨w4.heap.size, 0, none⟩) q q] rfl (by (try simp only [List.map_toArray, List.map_cons, List.map_nil]); first | done | rfl | (simp [Act.eval, *]; done)) ?_; (with_reducible refine (Wire.bend_madeq (w := w4) q hq.out HI.out (Wire.Own.fresh HB.out HI.out)).mono ?_); rintro e w5 ⟨rfl, hI, ho⟩; refine ⟨_, rfl, ?_⟩; have n0_ := Aside0.mk (ho.below (B := w.heap.size) (fun k hk => hk.elim (fun e => e ▸ HG.out) Wire.Own.low) (below_alloc HB.out _) (below_alloc HB.out _).size); have n1_ := Aside0.mk (hI); clear HB HI; have HB := n0_; have HI := n1_; clear n0_ n1_; clear hI ho)
  | ((with_reducible refine gate_callee (f := 10) rfl ?_); refine goesL_ (some 73) rfl rfl Try.func10 (by kernel_rfl) rfl #[.slice A l.length c] rfl (by (try simp only [List.map_toArray, List.map_cons, List.map_nil]); first | done | rfl | (simp [Act.eval, *]; done)) ?_; (with_reducible refine (signalmanref01_Bits.calls k A c l t _ (Kd.C_below HR.out HB.out) HC.out HH.out).mono ?_); rintro e w6 ⟨v, rfl, ho, hb⟩; refine ⟨_, rfl, ?_⟩; obtain ⟨At, ct, rfl, hct, hrt, hft⟩ := Wire.fresh_reads ho; have HT := Aside0.mk hrt; have n0_ := Aside0.mk (Wire.Isq.below HI.out hb); have n1_ := Aside0.mk (below_step HB.out hb); clear HI HB; have HI := n0_; have HB := n1_; clear n0_ n1_; clear ho hb hct hrt hft)
  | ((with_reducible refine gate_callee (f := 14) rfl ?_); refine goesL_ (some 74) rfl rfl Try.func14 (by kernel_rfl) rfl #[.pointer (some ⟨g, 0, none⟩), .slice At t.length ct] rfl (by (try simp only [List.map_toArray, List.map_cons, List.map_nil]); first | done | rfl | (simp [Act.eval, *]; done)) ?_; (with_reducible refine (Wire.bend_fullq HI.out At t.length ct (by have := HTL.out; have := hq2.out; rw [List.length_replicate]; omega) (by have := hq2.out; rw [List.length_replicate]; omega) (by have := HTL.out; omega)).mono ?_); rintro e w7 ⟨rfl, rfl⟩; refine ⟨_, rfl, ?_⟩)
  | ((with_reducible refine gate_callee (f := 11) rfl ?_); (try (refine gate_guard (by rfl) ?_; dsimp only)); refine goesL_ (some 102) rfl rfl Try.func11 (by kernel_rfl) rfl #[.pointer none, .bool on] rfl (by (try simp only [List.map_toArray, List.map_cons, List.map_nil]); first | done | rfl | (simp [Act.eval, *]; done)) ?_; (with_reducible refine (Wire.pass_nil on _).mono ?_); rintro e wz ⟨rfl, rfl⟩; refine ⟨_, rfl, ?_⟩)
  | ((with_reducible refine gate_callee (f := 14) rfl ?_); (try (refine gate_guard (by rfl) ?_; dsimp only)); refine goesL_ (some 108) rfl rfl Try.func14 (by kernel_rfl) rfl #[.pointer none, .slice none 0 0] rfl (by (try simp only [List.map_toArray, List.map_cons, List.map_nil]); first | done | rfl | (simp [Act.eval, *]; done)) ?_; (with_reducible refine (Wire.bend_nil (.slice none 0 0) _).mono ?_); rintro e wz ⟨rfl, rfl⟩; refine ⟨_, rfl, ?_⟩)
  | ((with_reducible refine gate_callee (f := 15) rfl ?_); (try (refine gate_guard (by rfl) ?_; dsimp only)); refine goesL_ (some 113) rfl rfl Try.func15 (by kernel_rfl) rfl #[.pointer none, .int .i64 9] rfl (by (try simp only [List.map_toArray, List.map_cons, List.map_nil]); first | done | rfl | (simp [Act.eval, *]; done)) ?_; (with_reducible refine (Wire.break_nil 9 _).mono ?_); rintro e wz ⟨rfl, rfl⟩; refine ⟨_, rfl, ?_⟩)
  | ((with_reducible refine gate_callee (f := 17) rfl ?_); (try (refine gate_guard (by rfl) ?_; dsimp only)); refine goesL_ (some 118) rfl rfl Try.func17 (by kernel_rfl) rfl #[.pointer none] rfl (by (try simp only [List.map_toArray, List.map_cons, List.map_nil]); first | done | rfl | (simp [Act.eval, *]; done)) ?_; (with_reducible refine (Wire.delay_nil _).mono ?_); rintro e wz ⟨rfl, rfl⟩; refine ⟨_, rfl, ?_⟩)
  | ((with_reducible refine gate_callee (f := 16) rfl ?_); (try (refine gate_guard (by rfl) ?_; dsimp only)); refine goesL_ (some 120) rfl rfl Try.func16 (by kernel_rfl) rfl #[.pointer none] rfl (by (try simp only [List.map_toArray, List.map_cons, List.map_nil]); first | done | rfl | (simp [Act.eval, *]; done)) ?_; (with_reducible refine (Wire.masked_nil _).mono ?_); rintro e wz ⟨rfl, rfl⟩; refine ⟨_, rfl, ?_⟩)
  | ((with_reducible refine gate_callee (f := 13) rfl ?_); (try (refine gate_guard (by rfl) ?_; dsimp only)); refine goesL_ (some 123) rfl rfl Try.func13 (by kernel_rfl) rfl #[.pointer none] rfl (by (try simp only [List.map_toArray, List.map_cons, List.map_nil]); first | done | rfl | (simp [Act.eval, *]; done)) ?_; (with_reducible refine (Wire.bent_nil _).mono ?_); rintro e wz ⟨rfl, rfl⟩; refine ⟨_, rfl, ?_⟩))
  go_ret
  exact ⟨rfl, HB.out⟩
set_option maxHeartbeats 8000000 in
set_option maxRecDepth 100000 in
theorem signalmanlaw20_WireBounds.w_lo_ok_no (k : Nat) (a0 : Int) (hd : a0 < 0) (nn : Nat) (hn1 : 7 ≤ nn) (hn2 : nn ≤ 65536) (A : Option Addr) (c : Nat) (l : List Int) (t : List Bool) (on : Bool) (w : World) (hr : Kd.C (Kd.int .u8) w A l.length l) (hc : l.length ≤ c) (hl : l.length ≤ 100) (hE : l.length < 1) (h : signalmanref01_Bits.f k l = some t) (ht : t.length = 8 * l.length) :
    Calls Try.prog 7 #[.int .i64 a0, .int .i64 (nn : Int), .slice A l.length c, .bool on] w fun e w' => e = .returned (.bool true) ∧ Below w.heap.size w w' := by
  have HB := Aside0.mk (Below.refl w.heap.size w)
  have HR := Aside0.mk hr
  have HC := Aside0.mk hc
  have HH := Aside0.mk h
  have HTL := Aside0.mk ht
  obtain ⟨q, hq0⟩ : ∃ q : Nat, q = 65530 := ⟨_, rfl⟩
  have hq := Aside0.mk (show q ≤ 65536 by omega)
  have hq2 := Aside0.mk hq0
  have hm : ∀ W : World, (Instr.makeSlice 41 (.int .i64 65530) (.int .i64 65530)).run Try.prog W = .ok (.slice (some ⟨W.heap.size, 0, none⟩) q q) (W.alloc (.cells (madeCells #[.bool false] q) 4)) := by
    have h_ := print_make_of (P := Try.prog) 41 4 (.bool false) 1 Try.underlying41 info4 rfl (by decide) q (by omega)
    have e_ : (q : Int) = 65530 := by omega
    rw [e_] at h_
    exact h_
  have d0 : decide ((100 : Int) < (l.length : Int)) = false := decide_eq_false (by omega)
  have d1 : decide (100 < l.length) = false := decide_eq_false (by omega)
  have d2 : decide ((0 : Int) ≤ a0) = false := decide_eq_false (by omega)
  have d3 : decide ((7 : Int) ≤ (nn : Int)) = true := decide_eq_true (by omega)
  have d4 : decide (7 ≤ nn) = true := decide_eq_true (by omega)
  have d5 : decide ((nn : Int) ≤ 65536) = true := decide_eq_true (by omega)
  have d6 : decide (nn ≤ 65536) = true := decide_eq_true (by omega)
  have d7 : decide (8 * (l.length : Int) ≤ 6) = true := decide_eq_true (by omega)
  have d8 : decide (8 * l.length ≤ 6) = true := decide_eq_true (by omega)
  clear hr hc h ht hq0
  go_enter Try.func7, Try.ntmps7
  go_wp2_with (first
  | ((with_reducible refine gate_callee (f := 8) rfl ?_); refine goesL_ (some 20) rfl rfl Try.func8 (by kernel_rfl) rfl #[] rfl (by (try simp only [List.map_toArray, List.map_cons, List.map_nil]); first | done | rfl | (simp [Act.eval, *]; done)) ?_; (with_reducible refine (Wire.awake_calls _).mono ?_); rintro e w9 ⟨rfl, hb⟩; refine ⟨_, rfl, ?_⟩; have n0_ := Aside0.mk (below_step HB.out hb); clear HB; have HB := n0_; clear n0_; clear hb)
  | ((with_reducible refine gate_callee (f := 9) rfl ?_); refine goesL_ (some 30) rfl rfl Try.func9 (by kernel_rfl) rfl #[.int .i64 a0] rfl (by (try simp only [List.map_toArray, List.map_cons, List.map_nil]); first | done | rfl | (simp [Act.eval, *]; done)) ?_; (with_reducible refine (Wire.new_lo a0 hd _).mono ?_); rintro e w1 ⟨rfl, rfl⟩; refine ⟨_, rfl, ?_⟩)
  | ((with_reducible refine gate_callee (f := 9) rfl ?_); refine goesL_ (some 50) rfl rfl Try.func9 (by kernel_rfl) rfl #[.int .i64 3] rfl (by (try simp only [List.map_toArray, List.map_cons, List.map_nil]); first | done | rfl | (simp [Act.eval, *]; done)) ?_; (with_reducible refine (Wire.new_bare3 _).mono ?_); rintro e w2 ⟨g, gl, rfl, hg, hgl, hI, hb⟩; refine ⟨_, rfl, ?_⟩; have HG := Aside0.mk (Nat.le_trans HB.out.size hg); have HL := Aside0.mk (Nat.le_trans HB.out.size hgl); have HI := Aside0.mk (hI.isq (Wire.Own w.heap.size g gl) (fun k hk => Wire.Own.apart hk)); have n0_ := Aside0.mk (below_step HB.out hb); clear HB; have HB := n0_; clear n0_; clear hg hgl hI hb)
  | ((with_reducible refine gate_callee (f := 15) rfl ?_); refine goesL_ (some 55) rfl rfl Try.func15 (by kernel_rfl) rfl #[.pointer (some ⟨g, 0, none⟩), .int .i64 (nn : Int)] rfl (by (try simp only [List.map_toArray, List.map_cons, List.map_nil]); first | done | rfl | (simp [Act.eval, *]; done)) ?_; (with_reducible refine (Wire.breakq HI.out hn1 (by omega)).mono ?_); rintro e w3 ⟨rfl, hI, ho⟩; refine ⟨_, rfl, ?_⟩; have n0_ := Aside0.mk (ho.below (B := w.heap.size) (fun k hk => hk ▸ HG.out) HB.out HB.out.size); have n1_ := Aside0.mk (hI); clear HB HI; have HB := n0_; have HI := n1_; clear n0_ n1_; clear hI ho)
  | ((with_reducible refine gate_callee (f := 15) rfl ?_); refine goesL_ (some 67) rfl rfl Try.func15 (by kernel_rfl) rfl #[.pointer (some ⟨g, 0, none⟩), .int .i64 65536] rfl (by (try simp only [List.map_toArray, List.map_cons, List.map_nil]); first | done | rfl | (simp [Act.eval, *]; done)) ?_; (with_reducible refine (Wire.break_fullq HI.out (by omega) (by omega)).mono ?_); rintro e w4 ⟨rfl, rfl⟩; refine ⟨_, rfl, ?_⟩)
  | ((with_reducible refine gate_callee (f := 14) rfl ?_); refine goesL_ (some 70) rfl rfl Try.func14 (by kernel_rfl) rfl #[.pointer (some ⟨g, 0, none⟩), .slice (some ⟨w4.heap.size, 0, none⟩) q q] rfl (by (try simp only [List.map_toArray, List.map_cons, List.map_nil]); first | done | rfl | (simp [Act.eval, *]; done)) ?_; (with_reducible refine (Wire.bend_madeq (w := w4) q hq.out HI.out (Wire.Own.fresh HB.out HI.out)).mono ?_); rintro e w5 ⟨rfl, hI, ho⟩; refine ⟨_, rfl, ?_⟩; have n0_ := Aside0.mk (ho.below (B := w.heap.size) (fun k hk => hk.elim (fun e => e ▸ HG.out) Wire.Own.low) (below_alloc HB.out _) (below_alloc HB.out _).size); have n1_ := Aside0.mk (hI); clear HB HI; have HB := n0_; have HI := n1_; clear n0_ n1_; clear hI ho)
  | ((with_reducible refine gate_callee (f := 10) rfl ?_); refine goesL_ (some 73) rfl rfl Try.func10 (by kernel_rfl) rfl #[.slice A l.length c] rfl (by (try simp only [List.map_toArray, List.map_cons, List.map_nil]); first | done | rfl | (simp [Act.eval, *]; done)) ?_; (with_reducible refine (signalmanref01_Bits.calls k A c l t _ (Kd.C_below HR.out HB.out) HC.out HH.out).mono ?_); rintro e w6 ⟨v, rfl, ho, hb⟩; refine ⟨_, rfl, ?_⟩; obtain ⟨At, ct, rfl, hct, hrt, hft⟩ := Wire.fresh_reads ho; have HT := Aside0.mk hrt; have n0_ := Aside0.mk (Wire.Isq.below HI.out hb); have n1_ := Aside0.mk (below_step HB.out hb); clear HI HB; have HI := n0_; have HB := n1_; clear n0_ n1_; clear ho hb hct hrt hft)
  | ((with_reducible refine gate_callee (f := 14) rfl ?_); refine goesL_ (some 74) rfl rfl Try.func14 (by kernel_rfl) rfl #[.pointer (some ⟨g, 0, none⟩), .slice At t.length ct] rfl (by (try simp only [List.map_toArray, List.map_cons, List.map_nil]); first | done | rfl | (simp [Act.eval, *]; done)) ?_; (with_reducible refine (Wire.bendq HI.out t At ct HT.out (by have := HTL.out; have := hq2.out; rw [List.length_replicate]; omega) (Wire.Own.fresh HB.out HI.out)).mono ?_); rintro e w7 ⟨rfl, hI, ho⟩; refine ⟨_, rfl, ?_⟩; have n0_ := Aside0.mk (ho.below (B := w.heap.size) (fun k hk => hk.elim (fun e => e ▸ HG.out) Wire.Own.low) HB.out HB.out.size); clear HB; have HB := n0_; clear n0_; clear hI ho)
  | ((with_reducible refine gate_callee (f := 11) rfl ?_); (try (refine gate_guard (by rfl) ?_; dsimp only)); refine goesL_ (some 102) rfl rfl Try.func11 (by kernel_rfl) rfl #[.pointer none, .bool on] rfl (by (try simp only [List.map_toArray, List.map_cons, List.map_nil]); first | done | rfl | (simp [Act.eval, *]; done)) ?_; (with_reducible refine (Wire.pass_nil on _).mono ?_); rintro e wz ⟨rfl, rfl⟩; refine ⟨_, rfl, ?_⟩)
  | ((with_reducible refine gate_callee (f := 14) rfl ?_); (try (refine gate_guard (by rfl) ?_; dsimp only)); refine goesL_ (some 108) rfl rfl Try.func14 (by kernel_rfl) rfl #[.pointer none, .slice none 0 0] rfl (by (try simp only [List.map_toArray, List.map_cons, List.map_nil]); first | done | rfl | (simp [Act.eval, *]; done)) ?_; (with_reducible refine (Wire.bend_nil (.slice none 0 0) _).mono ?_); rintro e wz ⟨rfl, rfl⟩; refine ⟨_, rfl, ?_⟩)
  | ((with_reducible refine gate_callee (f := 15) rfl ?_); (try (refine gate_guard (by rfl) ?_; dsimp only)); refine goesL_ (some 113) rfl rfl Try.func15 (by kernel_rfl) rfl #[.pointer none, .int .i64 9] rfl (by (try simp only [List.map_toArray, List.map_cons, List.map_nil]); first | done | rfl | (simp [Act.eval, *]; done)) ?_; (with_reducible refine (Wire.break_nil 9 _).mono ?_); rintro e wz ⟨rfl, rfl⟩; refine ⟨_, rfl, ?_⟩)
  | ((with_reducible refine gate_callee (f := 17) rfl ?_); (try (refine gate_guard (by rfl) ?_; dsimp only)); refine goesL_ (some 118) rfl rfl Try.func17 (by kernel_rfl) rfl #[.pointer none] rfl (by (try simp only [List.map_toArray, List.map_cons, List.map_nil]); first | done | rfl | (simp [Act.eval, *]; done)) ?_; (with_reducible refine (Wire.delay_nil _).mono ?_); rintro e wz ⟨rfl, rfl⟩; refine ⟨_, rfl, ?_⟩)
  | ((with_reducible refine gate_callee (f := 16) rfl ?_); (try (refine gate_guard (by rfl) ?_; dsimp only)); refine goesL_ (some 120) rfl rfl Try.func16 (by kernel_rfl) rfl #[.pointer none] rfl (by (try simp only [List.map_toArray, List.map_cons, List.map_nil]); first | done | rfl | (simp [Act.eval, *]; done)) ?_; (with_reducible refine (Wire.masked_nil _).mono ?_); rintro e wz ⟨rfl, rfl⟩; refine ⟨_, rfl, ?_⟩)
  | ((with_reducible refine gate_callee (f := 13) rfl ?_); (try (refine gate_guard (by rfl) ?_; dsimp only)); refine goesL_ (some 123) rfl rfl Try.func13 (by kernel_rfl) rfl #[.pointer none] rfl (by (try simp only [List.map_toArray, List.map_cons, List.map_nil]); first | done | rfl | (simp [Act.eval, *]; done)) ?_; (with_reducible refine (Wire.bent_nil _).mono ?_); rintro e wz ⟨rfl, rfl⟩; refine ⟨_, rfl, ?_⟩))
  go_ret
  exact ⟨rfl, HB.out⟩
set_option maxHeartbeats 8000000 in
set_option maxRecDepth 100000 in
theorem signalmanlaw20_WireBounds.w_lo_ok_yes (k : Nat) (a0 : Int) (hd : a0 < 0) (nn : Nat) (hn1 : 7 ≤ nn) (hn2 : nn ≤ 65536) (A : Option Addr) (c : Nat) (l : List Int) (t : List Bool) (on : Bool) (w : World) (hr : Kd.C (Kd.int .u8) w A l.length l) (hc : l.length ≤ c) (hl : l.length ≤ 100) (hE : 0 < l.length) (h : signalmanref01_Bits.f k l = some t) (ht : t.length = 8 * l.length) :
    Calls Try.prog 7 #[.int .i64 a0, .int .i64 (nn : Int), .slice A l.length c, .bool on] w fun e w' => e = .returned (.bool true) ∧ Below w.heap.size w w' := by
  have HB := Aside0.mk (Below.refl w.heap.size w)
  have HR := Aside0.mk hr
  have HC := Aside0.mk hc
  have HH := Aside0.mk h
  have HTL := Aside0.mk ht
  obtain ⟨q, hq0⟩ : ∃ q : Nat, q = 65530 := ⟨_, rfl⟩
  have hq := Aside0.mk (show q ≤ 65536 by omega)
  have hq2 := Aside0.mk hq0
  have hm : ∀ W : World, (Instr.makeSlice 41 (.int .i64 65530) (.int .i64 65530)).run Try.prog W = .ok (.slice (some ⟨W.heap.size, 0, none⟩) q q) (W.alloc (.cells (madeCells #[.bool false] q) 4)) := by
    have h_ := print_make_of (P := Try.prog) 41 4 (.bool false) 1 Try.underlying41 info4 rfl (by decide) q (by omega)
    have e_ : (q : Int) = 65530 := by omega
    rw [e_] at h_
    exact h_
  have d0 : decide ((100 : Int) < (l.length : Int)) = false := decide_eq_false (by omega)
  have d1 : decide (100 < l.length) = false := decide_eq_false (by omega)
  have d2 : decide ((0 : Int) ≤ a0) = false := decide_eq_false (by omega)
  have d3 : decide ((7 : Int) ≤ (nn : Int)) = true := decide_eq_true (by omega)
  have d4 : decide (7 ≤ nn) = true := decide_eq_true (by omega)
  have d5 : decide ((nn : Int) ≤ 65536) = true := decide_eq_true (by omega)
  have d6 : decide (nn ≤ 65536) = true := decide_eq_true (by omega)
  have d7 : decide (8 * (l.length : Int) ≤ 6) = false := decide_eq_false (by omega)
  have d8 : decide (8 * l.length ≤ 6) = false := decide_eq_false (by omega)
  clear hr hc h ht hq0
  go_enter Try.func7, Try.ntmps7
  go_wp2_with (first
  | ((with_reducible refine gate_callee (f := 8) rfl ?_); refine goesL_ (some 20) rfl rfl Try.func8 (by kernel_rfl) rfl #[] rfl (by (try simp only [List.map_toArray, List.map_cons, List.map_nil]); first | done | rfl | (simp [Act.eval, *]; done)) ?_; (with_reducible refine (Wire.awake_calls _).mono ?_); rintro e w9 ⟨rfl, hb⟩; refine ⟨_, rfl, ?_⟩; have n0_ := Aside0.mk (below_step HB.out hb); clear HB; have HB := n0_; clear n0_; clear hb)
  | ((with_reducible refine gate_callee (f := 9) rfl ?_); refine goesL_ (some 30) rfl rfl Try.func9 (by kernel_rfl) rfl #[.int .i64 a0] rfl (by (try simp only [List.map_toArray, List.map_cons, List.map_nil]); first | done | rfl | (simp [Act.eval, *]; done)) ?_; (with_reducible refine (Wire.new_lo a0 hd _).mono ?_); rintro e w1 ⟨rfl, rfl⟩; refine ⟨_, rfl, ?_⟩)
  | ((with_reducible refine gate_callee (f := 9) rfl ?_); refine goesL_ (some 50) rfl rfl Try.func9 (by kernel_rfl) rfl #[.int .i64 3] rfl (by (try simp only [List.map_toArray, List.map_cons, List.map_nil]); first | done | rfl | (simp [Act.eval, *]; done)) ?_; (with_reducible refine (Wire.new_bare3 _).mono ?_); rintro e w2 ⟨g, gl, rfl, hg, hgl, hI, hb⟩; refine ⟨_, rfl, ?_⟩; have HG := Aside0.mk (Nat.le_trans HB.out.size hg); have HL := Aside0.mk (Nat.le_trans HB.out.size hgl); have HI := Aside0.mk (hI.isq (Wire.Own w.heap.size g gl) (fun k hk => Wire.Own.apart hk)); have n0_ := Aside0.mk (below_step HB.out hb); clear HB; have HB := n0_; clear n0_; clear hg hgl hI hb)
  | ((with_reducible refine gate_callee (f := 15) rfl ?_); refine goesL_ (some 55) rfl rfl Try.func15 (by kernel_rfl) rfl #[.pointer (some ⟨g, 0, none⟩), .int .i64 (nn : Int)] rfl (by (try simp only [List.map_toArray, List.map_cons, List.map_nil]); first | done | rfl | (simp [Act.eval, *]; done)) ?_; (with_reducible refine (Wire.breakq HI.out hn1 (by omega)).mono ?_); rintro e w3 ⟨rfl, hI, ho⟩; refine ⟨_, rfl, ?_⟩; have n0_ := Aside0.mk (ho.below (B := w.heap.size) (fun k hk => hk ▸ HG.out) HB.out HB.out.size); have n1_ := Aside0.mk (hI); clear HB HI; have HB := n0_; have HI := n1_; clear n0_ n1_; clear hI ho)
  | ((with_reducible refine gate_callee (f := 15) rfl ?_); refine goesL_ (some 67) rfl rfl Try.func15 (by kernel_rfl) rfl #[.pointer (some ⟨g, 0, none⟩), .int .i64 65536] rfl (by (try simp only [List.map_toArray, List.map_cons, List.map_nil]); first | done | rfl | (simp [Act.eval, *]; done)) ?_; (with_reducible refine (Wire.break_fullq HI.out (by omega) (by omega)).mono ?_); rintro e w4 ⟨rfl, rfl⟩; refine ⟨_, rfl, ?_⟩)
  | ((with_reducible refine gate_callee (f := 14) rfl ?_); refine goesL_ (some 70) rfl rfl Try.func14 (by kernel_rfl) rfl #[.pointer (some ⟨g, 0, none⟩), .slice (some ⟨w4.heap.size, 0, none⟩) q q] rfl (by (try simp only [List.map_toArray, List.map_cons, List.map_nil]); first | done | rfl | (simp [Act.eval, *]; done)) ?_; (with_reducible refine (Wire.bend_madeq (w := w4) q hq.out HI.out (Wire.Own.fresh HB.out HI.out)).mono ?_); rintro e w5 ⟨rfl, hI, ho⟩; refine ⟨_, rfl, ?_⟩; have n0_ := Aside0.mk (ho.below (B := w.heap.size) (fun k hk => hk.elim (fun e => e ▸ HG.out) Wire.Own.low) (below_alloc HB.out _) (below_alloc HB.out _).size); have n1_ := Aside0.mk (hI); clear HB HI; have HB := n0_; have HI := n1_; clear n0_ n1_; clear hI ho)
  | ((with_reducible refine gate_callee (f := 10) rfl ?_); refine goesL_ (some 73) rfl rfl Try.func10 (by kernel_rfl) rfl #[.slice A l.length c] rfl (by (try simp only [List.map_toArray, List.map_cons, List.map_nil]); first | done | rfl | (simp [Act.eval, *]; done)) ?_; (with_reducible refine (signalmanref01_Bits.calls k A c l t _ (Kd.C_below HR.out HB.out) HC.out HH.out).mono ?_); rintro e w6 ⟨v, rfl, ho, hb⟩; refine ⟨_, rfl, ?_⟩; obtain ⟨At, ct, rfl, hct, hrt, hft⟩ := Wire.fresh_reads ho; have HT := Aside0.mk hrt; have n0_ := Aside0.mk (Wire.Isq.below HI.out hb); have n1_ := Aside0.mk (below_step HB.out hb); clear HI HB; have HI := n0_; have HB := n1_; clear n0_ n1_; clear ho hb hct hrt hft)
  | ((with_reducible refine gate_callee (f := 14) rfl ?_); refine goesL_ (some 74) rfl rfl Try.func14 (by kernel_rfl) rfl #[.pointer (some ⟨g, 0, none⟩), .slice At t.length ct] rfl (by (try simp only [List.map_toArray, List.map_cons, List.map_nil]); first | done | rfl | (simp [Act.eval, *]; done)) ?_; (with_reducible refine (Wire.bend_fullq HI.out At t.length ct (by have := HTL.out; have := hq2.out; rw [List.length_replicate]; omega) (by have := hq2.out; rw [List.length_replicate]; omega) (by have := HTL.out; omega)).mono ?_); rintro e w7 ⟨rfl, rfl⟩; refine ⟨_, rfl, ?_⟩)
  | ((with_reducible refine gate_callee (f := 11) rfl ?_); (try (refine gate_guard (by rfl) ?_; dsimp only)); refine goesL_ (some 102) rfl rfl Try.func11 (by kernel_rfl) rfl #[.pointer none, .bool on] rfl (by (try simp only [List.map_toArray, List.map_cons, List.map_nil]); first | done | rfl | (simp [Act.eval, *]; done)) ?_; (with_reducible refine (Wire.pass_nil on _).mono ?_); rintro e wz ⟨rfl, rfl⟩; refine ⟨_, rfl, ?_⟩)
  | ((with_reducible refine gate_callee (f := 14) rfl ?_); (try (refine gate_guard (by rfl) ?_; dsimp only)); refine goesL_ (some 108) rfl rfl Try.func14 (by kernel_rfl) rfl #[.pointer none, .slice none 0 0] rfl (by (try simp only [List.map_toArray, List.map_cons, List.map_nil]); first | done | rfl | (simp [Act.eval, *]; done)) ?_; (with_reducible refine (Wire.bend_nil (.slice none 0 0) _).mono ?_); rintro e wz ⟨rfl, rfl⟩; refine ⟨_, rfl, ?_⟩)
  | ((with_reducible refine gate_callee (f := 15) rfl ?_); (try (refine gate_guard (by rfl) ?_; dsimp only)); refine goesL_ (some 113) rfl rfl Try.func15 (by kernel_rfl) rfl #[.pointer none, .int .i64 9] rfl (by (try simp only [List.map_toArray, List.map_cons, List.map_nil]); first | done | rfl | (simp [Act.eval, *]; done)) ?_; (with_reducible refine (Wire.break_nil 9 _).mono ?_); rintro e wz ⟨rfl, rfl⟩; refine ⟨_, rfl, ?_⟩)
  | ((with_reducible refine gate_callee (f := 17) rfl ?_); (try (refine gate_guard (by rfl) ?_; dsimp only)); refine goesL_ (some 118) rfl rfl Try.func17 (by kernel_rfl) rfl #[.pointer none] rfl (by (try simp only [List.map_toArray, List.map_cons, List.map_nil]); first | done | rfl | (simp [Act.eval, *]; done)) ?_; (with_reducible refine (Wire.delay_nil _).mono ?_); rintro e wz ⟨rfl, rfl⟩; refine ⟨_, rfl, ?_⟩)
  | ((with_reducible refine gate_callee (f := 16) rfl ?_); (try (refine gate_guard (by rfl) ?_; dsimp only)); refine goesL_ (some 120) rfl rfl Try.func16 (by kernel_rfl) rfl #[.pointer none] rfl (by (try simp only [List.map_toArray, List.map_cons, List.map_nil]); first | done | rfl | (simp [Act.eval, *]; done)) ?_; (with_reducible refine (Wire.masked_nil _).mono ?_); rintro e wz ⟨rfl, rfl⟩; refine ⟨_, rfl, ?_⟩)
  | ((with_reducible refine gate_callee (f := 13) rfl ?_); (try (refine gate_guard (by rfl) ?_; dsimp only)); refine goesL_ (some 123) rfl rfl Try.func13 (by kernel_rfl) rfl #[.pointer none] rfl (by (try simp only [List.map_toArray, List.map_cons, List.map_nil]); first | done | rfl | (simp [Act.eval, *]; done)) ?_; (with_reducible refine (Wire.bent_nil _).mono ?_); rintro e wz ⟨rfl, rfl⟩; refine ⟨_, rfl, ?_⟩))
  go_ret
  exact ⟨rfl, HB.out⟩
set_option maxHeartbeats 8000000 in
set_option maxRecDepth 100000 in
theorem signalmanlaw20_WireBounds.w_lo_lo_no (k : Nat) (a0 : Int) (hd : a0 < 0) (a1 : Int) (hn : a1 < 7) (A : Option Addr) (c : Nat) (l : List Int) (t : List Bool) (on : Bool) (w : World) (hr : Kd.C (Kd.int .u8) w A l.length l) (hc : l.length ≤ c) (hl : l.length ≤ 100) (hE : l.length < 1) (h : signalmanref01_Bits.f k l = some t) (ht : t.length = 8 * l.length) :
    Calls Try.prog 7 #[.int .i64 a0, .int .i64 a1, .slice A l.length c, .bool on] w fun e w' => e = .returned (.bool true) ∧ Below w.heap.size w w' := by
  have HB := Aside0.mk (Below.refl w.heap.size w)
  have HR := Aside0.mk hr
  have HC := Aside0.mk hc
  have HH := Aside0.mk h
  have HTL := Aside0.mk ht
  obtain ⟨q, hq0⟩ : ∃ q : Nat, q = 65530 := ⟨_, rfl⟩
  have hq := Aside0.mk (show q ≤ 65536 by omega)
  have hq2 := Aside0.mk hq0
  have hm : ∀ W : World, (Instr.makeSlice 41 (.int .i64 65530) (.int .i64 65530)).run Try.prog W = .ok (.slice (some ⟨W.heap.size, 0, none⟩) q q) (W.alloc (.cells (madeCells #[.bool false] q) 4)) := by
    have h_ := print_make_of (P := Try.prog) 41 4 (.bool false) 1 Try.underlying41 info4 rfl (by decide) q (by omega)
    have e_ : (q : Int) = 65530 := by omega
    rw [e_] at h_
    exact h_
  have d0 : decide ((100 : Int) < (l.length : Int)) = false := decide_eq_false (by omega)
  have d1 : decide (100 < l.length) = false := decide_eq_false (by omega)
  have d2 : decide ((0 : Int) ≤ a0) = false := decide_eq_false (by omega)
  have d3 : decide ((7 : Int) ≤ a1) = false := decide_eq_false (by omega)
  have d4 : decide (8 * (l.length : Int) ≤ 6) = true := decide_eq_true (by omega)
  have d5 : decide (8 * l.length ≤ 6) = true := decide_eq_true (by omega)
  clear hr hc h ht hq0
  go_enter Try.func7, Try.ntmps7
  go_wp2_with (first
  | ((with_reducible refine gate_callee (f := 8) rfl ?_); refine goesL_ (some 20) rfl rfl Try.func8 (by kernel_rfl) rfl #[] rfl (by (try simp only [List.map_toArray, List.map_cons, List.map_nil]); first | done | rfl | (simp [Act.eval, *]; done)) ?_; (with_reducible refine (Wire.awake_calls _).mono ?_); rintro e w9 ⟨rfl, hb⟩; refine ⟨_, rfl, ?_⟩; have n0_ := Aside0.mk (below_step HB.out hb); clear HB; have HB := n0_; clear n0_; clear hb)
  | ((with_reducible refine gate_callee (f := 9) rfl ?_); refine goesL_ (some 30) rfl rfl Try.func9 (by kernel_rfl) rfl #[.int .i64 a0] rfl (by (try simp only [List.map_toArray, List.map_cons, List.map_nil]); first | done | rfl | (simp [Act.eval, *]; done)) ?_; (with_reducible refine (Wire.new_lo a0 hd _).mono ?_); rintro e w1 ⟨rfl, rfl⟩; refine ⟨_, rfl, ?_⟩)
  | ((with_reducible refine gate_callee (f := 9) rfl ?_); refine goesL_ (some 50) rfl rfl Try.func9 (by kernel_rfl) rfl #[.int .i64 3] rfl (by (try simp only [List.map_toArray, List.map_cons, List.map_nil]); first | done | rfl | (simp [Act.eval, *]; done)) ?_; (with_reducible refine (Wire.new_bare3 _).mono ?_); rintro e w2 ⟨g, gl, rfl, hg, hgl, hI, hb⟩; refine ⟨_, rfl, ?_⟩; have HG := Aside0.mk (Nat.le_trans HB.out.size hg); have HL := Aside0.mk (Nat.le_trans HB.out.size hgl); have HI := Aside0.mk (hI.isq (Wire.Own w.heap.size g gl) (fun k hk => Wire.Own.apart hk)); have n0_ := Aside0.mk (below_step HB.out hb); clear HB; have HB := n0_; clear n0_; clear hg hgl hI hb)
  | ((with_reducible refine gate_callee (f := 15) rfl ?_); refine goesL_ (some 55) rfl rfl Try.func15 (by kernel_rfl) rfl #[.pointer (some ⟨g, 0, none⟩), .int .i64 a1] rfl (by (try simp only [List.map_toArray, List.map_cons, List.map_nil]); first | done | rfl | (simp [Act.eval, *]; done)) ?_; (with_reducible refine (Wire.break_lo ⟨g, 0, none⟩ a1 hn _).mono ?_); rintro e w3 ⟨rfl, rfl⟩; refine ⟨_, rfl, ?_⟩)
  | ((with_reducible refine gate_callee (f := 15) rfl ?_); refine goesL_ (some 67) rfl rfl Try.func15 (by kernel_rfl) rfl #[.pointer (some ⟨g, 0, none⟩), .int .i64 65536] rfl (by (try simp only [List.map_toArray, List.map_cons, List.map_nil]); first | done | rfl | (simp [Act.eval, *]; done)) ?_; (with_reducible refine (Wire.break_mostq HI.out).mono ?_); rintro e w4 ⟨rfl, hI, ho⟩; refine ⟨_, rfl, ?_⟩; have n0_ := Aside0.mk (ho.below (B := w.heap.size) (fun k hk => hk ▸ HG.out) HB.out HB.out.size); have n1_ := Aside0.mk (hI); clear HB HI; have HB := n0_; have HI := n1_; clear n0_ n1_; clear hI ho)
  | ((with_reducible refine gate_callee (f := 14) rfl ?_); refine goesL_ (some 70) rfl rfl Try.func14 (by kernel_rfl) rfl #[.pointer (some ⟨g, 0, none⟩), .slice (some ⟨w4.heap.size, 0, none⟩) q q] rfl (by (try simp only [List.map_toArray, List.map_cons, List.map_nil]); first | done | rfl | (simp [Act.eval, *]; done)) ?_; (with_reducible refine (Wire.bend_madeq (w := w4) q hq.out HI.out (Wire.Own.fresh HB.out HI.out)).mono ?_); rintro e w5 ⟨rfl, hI, ho⟩; refine ⟨_, rfl, ?_⟩; have n0_ := Aside0.mk (ho.below (B := w.heap.size) (fun k hk => hk.elim (fun e => e ▸ HG.out) Wire.Own.low) (below_alloc HB.out _) (below_alloc HB.out _).size); have n1_ := Aside0.mk (hI); clear HB HI; have HB := n0_; have HI := n1_; clear n0_ n1_; clear hI ho)
  | ((with_reducible refine gate_callee (f := 10) rfl ?_); refine goesL_ (some 73) rfl rfl Try.func10 (by kernel_rfl) rfl #[.slice A l.length c] rfl (by (try simp only [List.map_toArray, List.map_cons, List.map_nil]); first | done | rfl | (simp [Act.eval, *]; done)) ?_; (with_reducible refine (signalmanref01_Bits.calls k A c l t _ (Kd.C_below HR.out HB.out) HC.out HH.out).mono ?_); rintro e w6 ⟨v, rfl, ho, hb⟩; refine ⟨_, rfl, ?_⟩; obtain ⟨At, ct, rfl, hct, hrt, hft⟩ := Wire.fresh_reads ho; have HT := Aside0.mk hrt; have n0_ := Aside0.mk (Wire.Isq.below HI.out hb); have n1_ := Aside0.mk (below_step HB.out hb); clear HI HB; have HI := n0_; have HB := n1_; clear n0_ n1_; clear ho hb hct hrt hft)
  | ((with_reducible refine gate_callee (f := 14) rfl ?_); refine goesL_ (some 74) rfl rfl Try.func14 (by kernel_rfl) rfl #[.pointer (some ⟨g, 0, none⟩), .slice At t.length ct] rfl (by (try simp only [List.map_toArray, List.map_cons, List.map_nil]); first | done | rfl | (simp [Act.eval, *]; done)) ?_; (with_reducible refine (Wire.bendq HI.out t At ct HT.out (by have := HTL.out; have := hq2.out; rw [List.length_replicate]; omega) (Wire.Own.fresh HB.out HI.out)).mono ?_); rintro e w7 ⟨rfl, hI, ho⟩; refine ⟨_, rfl, ?_⟩; have n0_ := Aside0.mk (ho.below (B := w.heap.size) (fun k hk => hk.elim (fun e => e ▸ HG.out) Wire.Own.low) HB.out HB.out.size); clear HB; have HB := n0_; clear n0_; clear hI ho)
  | ((with_reducible refine gate_callee (f := 11) rfl ?_); (try (refine gate_guard (by rfl) ?_; dsimp only)); refine goesL_ (some 102) rfl rfl Try.func11 (by kernel_rfl) rfl #[.pointer none, .bool on] rfl (by (try simp only [List.map_toArray, List.map_cons, List.map_nil]); first | done | rfl | (simp [Act.eval, *]; done)) ?_; (with_reducible refine (Wire.pass_nil on _).mono ?_); rintro e wz ⟨rfl, rfl⟩; refine ⟨_, rfl, ?_⟩)
  | ((with_reducible refine gate_callee (f := 14) rfl ?_); (try (refine gate_guard (by rfl) ?_; dsimp only)); refine goesL_ (some 108) rfl rfl Try.func14 (by kernel_rfl) rfl #[.pointer none, .slice none 0 0] rfl (by (try simp only [List.map_toArray, List.map_cons, List.map_nil]); first | done | rfl | (simp [Act.eval, *]; done)) ?_; (with_reducible refine (Wire.bend_nil (.slice none 0 0) _).mono ?_); rintro e wz ⟨rfl, rfl⟩; refine ⟨_, rfl, ?_⟩)
  | ((with_reducible refine gate_callee (f := 15) rfl ?_); (try (refine gate_guard (by rfl) ?_; dsimp only)); refine goesL_ (some 113) rfl rfl Try.func15 (by kernel_rfl) rfl #[.pointer none, .int .i64 9] rfl (by (try simp only [List.map_toArray, List.map_cons, List.map_nil]); first | done | rfl | (simp [Act.eval, *]; done)) ?_; (with_reducible refine (Wire.break_nil 9 _).mono ?_); rintro e wz ⟨rfl, rfl⟩; refine ⟨_, rfl, ?_⟩)
  | ((with_reducible refine gate_callee (f := 17) rfl ?_); (try (refine gate_guard (by rfl) ?_; dsimp only)); refine goesL_ (some 118) rfl rfl Try.func17 (by kernel_rfl) rfl #[.pointer none] rfl (by (try simp only [List.map_toArray, List.map_cons, List.map_nil]); first | done | rfl | (simp [Act.eval, *]; done)) ?_; (with_reducible refine (Wire.delay_nil _).mono ?_); rintro e wz ⟨rfl, rfl⟩; refine ⟨_, rfl, ?_⟩)
  | ((with_reducible refine gate_callee (f := 16) rfl ?_); (try (refine gate_guard (by rfl) ?_; dsimp only)); refine goesL_ (some 120) rfl rfl Try.func16 (by kernel_rfl) rfl #[.pointer none] rfl (by (try simp only [List.map_toArray, List.map_cons, List.map_nil]); first | done | rfl | (simp [Act.eval, *]; done)) ?_; (with_reducible refine (Wire.masked_nil _).mono ?_); rintro e wz ⟨rfl, rfl⟩; refine ⟨_, rfl, ?_⟩)
  | ((with_reducible refine gate_callee (f := 13) rfl ?_); (try (refine gate_guard (by rfl) ?_; dsimp only)); refine goesL_ (some 123) rfl rfl Try.func13 (by kernel_rfl) rfl #[.pointer none] rfl (by (try simp only [List.map_toArray, List.map_cons, List.map_nil]); first | done | rfl | (simp [Act.eval, *]; done)) ?_; (with_reducible refine (Wire.bent_nil _).mono ?_); rintro e wz ⟨rfl, rfl⟩; refine ⟨_, rfl, ?_⟩))
  go_ret
  exact ⟨rfl, HB.out⟩
set_option maxHeartbeats 8000000 in
set_option maxRecDepth 100000 in
theorem signalmanlaw20_WireBounds.w_lo_lo_yes (k : Nat) (a0 : Int) (hd : a0 < 0) (a1 : Int) (hn : a1 < 7) (A : Option Addr) (c : Nat) (l : List Int) (t : List Bool) (on : Bool) (w : World) (hr : Kd.C (Kd.int .u8) w A l.length l) (hc : l.length ≤ c) (hl : l.length ≤ 100) (hE : 0 < l.length) (h : signalmanref01_Bits.f k l = some t) (ht : t.length = 8 * l.length) :
    Calls Try.prog 7 #[.int .i64 a0, .int .i64 a1, .slice A l.length c, .bool on] w fun e w' => e = .returned (.bool true) ∧ Below w.heap.size w w' := by
  have HB := Aside0.mk (Below.refl w.heap.size w)
  have HR := Aside0.mk hr
  have HC := Aside0.mk hc
  have HH := Aside0.mk h
  have HTL := Aside0.mk ht
  obtain ⟨q, hq0⟩ : ∃ q : Nat, q = 65530 := ⟨_, rfl⟩
  have hq := Aside0.mk (show q ≤ 65536 by omega)
  have hq2 := Aside0.mk hq0
  have hm : ∀ W : World, (Instr.makeSlice 41 (.int .i64 65530) (.int .i64 65530)).run Try.prog W = .ok (.slice (some ⟨W.heap.size, 0, none⟩) q q) (W.alloc (.cells (madeCells #[.bool false] q) 4)) := by
    have h_ := print_make_of (P := Try.prog) 41 4 (.bool false) 1 Try.underlying41 info4 rfl (by decide) q (by omega)
    have e_ : (q : Int) = 65530 := by omega
    rw [e_] at h_
    exact h_
  have d0 : decide ((100 : Int) < (l.length : Int)) = false := decide_eq_false (by omega)
  have d1 : decide (100 < l.length) = false := decide_eq_false (by omega)
  have d2 : decide ((0 : Int) ≤ a0) = false := decide_eq_false (by omega)
  have d3 : decide ((7 : Int) ≤ a1) = false := decide_eq_false (by omega)
  have d4 : decide (8 * (l.length : Int) ≤ 6) = false := decide_eq_false (by omega)
  have d5 : decide (8 * l.length ≤ 6) = false := decide_eq_false (by omega)
  clear hr hc h ht hq0
  go_enter Try.func7, Try.ntmps7
  go_wp2_with (first
  | ((with_reducible refine gate_callee (f := 8) rfl ?_); refine goesL_ (some 20) rfl rfl Try.func8 (by kernel_rfl) rfl #[] rfl (by (try simp only [List.map_toArray, List.map_cons, List.map_nil]); first | done | rfl | (simp [Act.eval, *]; done)) ?_; (with_reducible refine (Wire.awake_calls _).mono ?_); rintro e w9 ⟨rfl, hb⟩; refine ⟨_, rfl, ?_⟩; have n0_ := Aside0.mk (below_step HB.out hb); clear HB; have HB := n0_; clear n0_; clear hb)
  | ((with_reducible refine gate_callee (f := 9) rfl ?_); refine goesL_ (some 30) rfl rfl Try.func9 (by kernel_rfl) rfl #[.int .i64 a0] rfl (by (try simp only [List.map_toArray, List.map_cons, List.map_nil]); first | done | rfl | (simp [Act.eval, *]; done)) ?_; (with_reducible refine (Wire.new_lo a0 hd _).mono ?_); rintro e w1 ⟨rfl, rfl⟩; refine ⟨_, rfl, ?_⟩)
  | ((with_reducible refine gate_callee (f := 9) rfl ?_); refine goesL_ (some 50) rfl rfl Try.func9 (by kernel_rfl) rfl #[.int .i64 3] rfl (by (try simp only [List.map_toArray, List.map_cons, List.map_nil]); first | done | rfl | (simp [Act.eval, *]; done)) ?_; (with_reducible refine (Wire.new_bare3 _).mono ?_); rintro e w2 ⟨g, gl, rfl, hg, hgl, hI, hb⟩; refine ⟨_, rfl, ?_⟩; have HG := Aside0.mk (Nat.le_trans HB.out.size hg); have HL := Aside0.mk (Nat.le_trans HB.out.size hgl); have HI := Aside0.mk (hI.isq (Wire.Own w.heap.size g gl) (fun k hk => Wire.Own.apart hk)); have n0_ := Aside0.mk (below_step HB.out hb); clear HB; have HB := n0_; clear n0_; clear hg hgl hI hb)
  | ((with_reducible refine gate_callee (f := 15) rfl ?_); refine goesL_ (some 55) rfl rfl Try.func15 (by kernel_rfl) rfl #[.pointer (some ⟨g, 0, none⟩), .int .i64 a1] rfl (by (try simp only [List.map_toArray, List.map_cons, List.map_nil]); first | done | rfl | (simp [Act.eval, *]; done)) ?_; (with_reducible refine (Wire.break_lo ⟨g, 0, none⟩ a1 hn _).mono ?_); rintro e w3 ⟨rfl, rfl⟩; refine ⟨_, rfl, ?_⟩)
  | ((with_reducible refine gate_callee (f := 15) rfl ?_); refine goesL_ (some 67) rfl rfl Try.func15 (by kernel_rfl) rfl #[.pointer (some ⟨g, 0, none⟩), .int .i64 65536] rfl (by (try simp only [List.map_toArray, List.map_cons, List.map_nil]); first | done | rfl | (simp [Act.eval, *]; done)) ?_; (with_reducible refine (Wire.break_mostq HI.out).mono ?_); rintro e w4 ⟨rfl, hI, ho⟩; refine ⟨_, rfl, ?_⟩; have n0_ := Aside0.mk (ho.below (B := w.heap.size) (fun k hk => hk ▸ HG.out) HB.out HB.out.size); have n1_ := Aside0.mk (hI); clear HB HI; have HB := n0_; have HI := n1_; clear n0_ n1_; clear hI ho)
  | ((with_reducible refine gate_callee (f := 14) rfl ?_); refine goesL_ (some 70) rfl rfl Try.func14 (by kernel_rfl) rfl #[.pointer (some ⟨g, 0, none⟩), .slice (some ⟨w4.heap.size, 0, none⟩) q q] rfl (by (try simp only [List.map_toArray, List.map_cons, List.map_nil]); first | done | rfl | (simp [Act.eval, *]; done)) ?_; (with_reducible refine (Wire.bend_madeq (w := w4) q hq.out HI.out (Wire.Own.fresh HB.out HI.out)).mono ?_); rintro e w5 ⟨rfl, hI, ho⟩; refine ⟨_, rfl, ?_⟩; have n0_ := Aside0.mk (ho.below (B := w.heap.size) (fun k hk => hk.elim (fun e => e ▸ HG.out) Wire.Own.low) (below_alloc HB.out _) (below_alloc HB.out _).size); have n1_ := Aside0.mk (hI); clear HB HI; have HB := n0_; have HI := n1_; clear n0_ n1_; clear hI ho)
  | ((with_reducible refine gate_callee (f := 10) rfl ?_); refine goesL_ (some 73) rfl rfl Try.func10 (by kernel_rfl) rfl #[.slice A l.length c] rfl (by (try simp only [List.map_toArray, List.map_cons, List.map_nil]); first | done | rfl | (simp [Act.eval, *]; done)) ?_; (with_reducible refine (signalmanref01_Bits.calls k A c l t _ (Kd.C_below HR.out HB.out) HC.out HH.out).mono ?_); rintro e w6 ⟨v, rfl, ho, hb⟩; refine ⟨_, rfl, ?_⟩; obtain ⟨At, ct, rfl, hct, hrt, hft⟩ := Wire.fresh_reads ho; have HT := Aside0.mk hrt; have n0_ := Aside0.mk (Wire.Isq.below HI.out hb); have n1_ := Aside0.mk (below_step HB.out hb); clear HI HB; have HI := n0_; have HB := n1_; clear n0_ n1_; clear ho hb hct hrt hft)
  | ((with_reducible refine gate_callee (f := 14) rfl ?_); refine goesL_ (some 74) rfl rfl Try.func14 (by kernel_rfl) rfl #[.pointer (some ⟨g, 0, none⟩), .slice At t.length ct] rfl (by (try simp only [List.map_toArray, List.map_cons, List.map_nil]); first | done | rfl | (simp [Act.eval, *]; done)) ?_; (with_reducible refine (Wire.bend_fullq HI.out At t.length ct (by have := HTL.out; have := hq2.out; rw [List.length_replicate]; omega) (by have := hq2.out; rw [List.length_replicate]; omega) (by have := HTL.out; omega)).mono ?_); rintro e w7 ⟨rfl, rfl⟩; refine ⟨_, rfl, ?_⟩)
  | ((with_reducible refine gate_callee (f := 11) rfl ?_); (try (refine gate_guard (by rfl) ?_; dsimp only)); refine goesL_ (some 102) rfl rfl Try.func11 (by kernel_rfl) rfl #[.pointer none, .bool on] rfl (by (try simp only [List.map_toArray, List.map_cons, List.map_nil]); first | done | rfl | (simp [Act.eval, *]; done)) ?_; (with_reducible refine (Wire.pass_nil on _).mono ?_); rintro e wz ⟨rfl, rfl⟩; refine ⟨_, rfl, ?_⟩)
  | ((with_reducible refine gate_callee (f := 14) rfl ?_); (try (refine gate_guard (by rfl) ?_; dsimp only)); refine goesL_ (some 108) rfl rfl Try.func14 (by kernel_rfl) rfl #[.pointer none, .slice none 0 0] rfl (by (try simp only [List.map_toArray, List.map_cons, List.map_nil]); first | done | rfl | (simp [Act.eval, *]; done)) ?_; (with_reducible refine (Wire.bend_nil (.slice none 0 0) _).mono ?_); rintro e wz ⟨rfl, rfl⟩; refine ⟨_, rfl, ?_⟩)
  | ((with_reducible refine gate_callee (f := 15) rfl ?_); (try (refine gate_guard (by rfl) ?_; dsimp only)); refine goesL_ (some 113) rfl rfl Try.func15 (by kernel_rfl) rfl #[.pointer none, .int .i64 9] rfl (by (try simp only [List.map_toArray, List.map_cons, List.map_nil]); first | done | rfl | (simp [Act.eval, *]; done)) ?_; (with_reducible refine (Wire.break_nil 9 _).mono ?_); rintro e wz ⟨rfl, rfl⟩; refine ⟨_, rfl, ?_⟩)
  | ((with_reducible refine gate_callee (f := 17) rfl ?_); (try (refine gate_guard (by rfl) ?_; dsimp only)); refine goesL_ (some 118) rfl rfl Try.func17 (by kernel_rfl) rfl #[.pointer none] rfl (by (try simp only [List.map_toArray, List.map_cons, List.map_nil]); first | done | rfl | (simp [Act.eval, *]; done)) ?_; (with_reducible refine (Wire.delay_nil _).mono ?_); rintro e wz ⟨rfl, rfl⟩; refine ⟨_, rfl, ?_⟩)
  | ((with_reducible refine gate_callee (f := 16) rfl ?_); (try (refine gate_guard (by rfl) ?_; dsimp only)); refine goesL_ (some 120) rfl rfl Try.func16 (by kernel_rfl) rfl #[.pointer none] rfl (by (try simp only [List.map_toArray, List.map_cons, List.map_nil]); first | done | rfl | (simp [Act.eval, *]; done)) ?_; (with_reducible refine (Wire.masked_nil _).mono ?_); rintro e wz ⟨rfl, rfl⟩; refine ⟨_, rfl, ?_⟩)
  | ((with_reducible refine gate_callee (f := 13) rfl ?_); (try (refine gate_guard (by rfl) ?_; dsimp only)); refine goesL_ (some 123) rfl rfl Try.func13 (by kernel_rfl) rfl #[.pointer none] rfl (by (try simp only [List.map_toArray, List.map_cons, List.map_nil]); first | done | rfl | (simp [Act.eval, *]; done)) ?_; (with_reducible refine (Wire.bent_nil _).mono ?_); rintro e wz ⟨rfl, rfl⟩; refine ⟨_, rfl, ?_⟩))
  go_ret
  exact ⟨rfl, HB.out⟩
set_option maxHeartbeats 8000000 in
set_option maxRecDepth 100000 in
theorem signalmanlaw20_WireBounds.w_lo_hi_no (k : Nat) (a0 : Int) (hd : a0 < 0) (a1 : Int) (hn : 65536 < a1) (A : Option Addr) (c : Nat) (l : List Int) (t : List Bool) (on : Bool) (w : World) (hr : Kd.C (Kd.int .u8) w A l.length l) (hc : l.length ≤ c) (hl : l.length ≤ 100) (hE : l.length < 1) (h : signalmanref01_Bits.f k l = some t) (ht : t.length = 8 * l.length) :
    Calls Try.prog 7 #[.int .i64 a0, .int .i64 a1, .slice A l.length c, .bool on] w fun e w' => e = .returned (.bool true) ∧ Below w.heap.size w w' := by
  have HB := Aside0.mk (Below.refl w.heap.size w)
  have HR := Aside0.mk hr
  have HC := Aside0.mk hc
  have HH := Aside0.mk h
  have HTL := Aside0.mk ht
  obtain ⟨q, hq0⟩ : ∃ q : Nat, q = 65530 := ⟨_, rfl⟩
  have hq := Aside0.mk (show q ≤ 65536 by omega)
  have hq2 := Aside0.mk hq0
  have hm : ∀ W : World, (Instr.makeSlice 41 (.int .i64 65530) (.int .i64 65530)).run Try.prog W = .ok (.slice (some ⟨W.heap.size, 0, none⟩) q q) (W.alloc (.cells (madeCells #[.bool false] q) 4)) := by
    have h_ := print_make_of (P := Try.prog) 41 4 (.bool false) 1 Try.underlying41 info4 rfl (by decide) q (by omega)
    have e_ : (q : Int) = 65530 := by omega
    rw [e_] at h_
    exact h_
  have d0 : decide ((100 : Int) < (l.length : Int)) = false := decide_eq_false (by omega)
  have d1 : decide (100 < l.length) = false := decide_eq_false (by omega)
  have d2 : decide ((0 : Int) ≤ a0) = false := decide_eq_false (by omega)
  have d3 : decide ((7 : Int) ≤ a1) = true := decide_eq_true (by omega)
  have d4 : decide (a1 ≤ 65536) = false := decide_eq_false (by omega)
  have d5 : decide (8 * (l.length : Int) ≤ 6) = true := decide_eq_true (by omega)
  have d6 : decide (8 * l.length ≤ 6) = true := decide_eq_true (by omega)
  clear hr hc h ht hq0
  go_enter Try.func7, Try.ntmps7
  go_wp2_with (first
  | ((with_reducible refine gate_callee (f := 8) rfl ?_); refine goesL_ (some 20) rfl rfl Try.func8 (by kernel_rfl) rfl #[] rfl (by (try simp only [List.map_toArray, List.map_cons, List.map_nil]); first | done | rfl | (simp [Act.eval, *]; done)) ?_; (with_reducible refine (Wire.awake_calls _).mono ?_); rintro e w9 ⟨rfl, hb⟩; refine ⟨_, rfl, ?_⟩; have n0_ := Aside0.mk (below_step HB.out hb); clear HB; have HB := n0_; clear n0_; clear hb)
  | ((with_reducible refine gate_callee (f := 9) rfl ?_); refine goesL_ (some 30) rfl rfl Try.func9 (by kernel_rfl) rfl #[.int .i64 a0] rfl (by (try simp only [List.map_toArray, List.map_cons, List.map_nil]); first | done | rfl | (simp [Act.eval, *]; done)) ?_; (with_reducible refine (Wire.new_lo a0 hd _).mono ?_); rintro e w1 ⟨rfl, rfl⟩; refine ⟨_, rfl, ?_⟩)
  | ((with_reducible refine gate_callee (f := 9) rfl ?_); refine goesL_ (some 50) rfl rfl Try.func9 (by kernel_rfl) rfl #[.int .i64 3] rfl (by (try simp only [List.map_toArray, List.map_cons, List.map_nil]); first | done | rfl | (simp [Act.eval, *]; done)) ?_; (with_reducible refine (Wire.new_bare3 _).mono ?_); rintro e w2 ⟨g, gl, rfl, hg, hgl, hI, hb⟩; refine ⟨_, rfl, ?_⟩; have HG := Aside0.mk (Nat.le_trans HB.out.size hg); have HL := Aside0.mk (Nat.le_trans HB.out.size hgl); have HI := Aside0.mk (hI.isq (Wire.Own w.heap.size g gl) (fun k hk => Wire.Own.apart hk)); have n0_ := Aside0.mk (below_step HB.out hb); clear HB; have HB := n0_; clear n0_; clear hg hgl hI hb)
  | ((with_reducible refine gate_callee (f := 15) rfl ?_); refine goesL_ (some 55) rfl rfl Try.func15 (by kernel_rfl) rfl #[.pointer (some ⟨g, 0, none⟩), .int .i64 a1] rfl (by (try simp only [List.map_toArray, List.map_cons, List.map_nil]); first | done | rfl | (simp [Act.eval, *]; done)) ?_; (with_reducible refine (Wire.break_hi ⟨g, 0, none⟩ a1 hn _).mono ?_); rintro e w3 ⟨rfl, rfl⟩; refine ⟨_, rfl, ?_⟩)
  | ((with_reducible refine gate_callee (f := 15) rfl ?_); refine goesL_ (some 67) rfl rfl Try.func15 (by kernel_rfl) rfl #[.pointer (some ⟨g, 0, none⟩), .int .i64 65536] rfl (by (try simp only [List.map_toArray, List.map_cons, List.map_nil]); first | done | rfl | (simp [Act.eval, *]; done)) ?_; (with_reducible refine (Wire.break_mostq HI.out).mono ?_); rintro e w4 ⟨rfl, hI, ho⟩; refine ⟨_, rfl, ?_⟩; have n0_ := Aside0.mk (ho.below (B := w.heap.size) (fun k hk => hk ▸ HG.out) HB.out HB.out.size); have n1_ := Aside0.mk (hI); clear HB HI; have HB := n0_; have HI := n1_; clear n0_ n1_; clear hI ho)
  | ((with_reducible refine gate_callee (f := 14) rfl ?_); refine goesL_ (some 70) rfl rfl Try.func14 (by kernel_rfl) rfl #[.pointer (some ⟨g, 0, none⟩), .slice (some ⟨w4.heap.size, 0, none⟩) q q] rfl (by (try simp only [List.map_toArray, List.map_cons, List.map_nil]); first | done | rfl | (simp [Act.eval, *]; done)) ?_; (with_reducible refine (Wire.bend_madeq (w := w4) q hq.out HI.out (Wire.Own.fresh HB.out HI.out)).mono ?_); rintro e w5 ⟨rfl, hI, ho⟩; refine ⟨_, rfl, ?_⟩; have n0_ := Aside0.mk (ho.below (B := w.heap.size) (fun k hk => hk.elim (fun e => e ▸ HG.out) Wire.Own.low) (below_alloc HB.out _) (below_alloc HB.out _).size); have n1_ := Aside0.mk (hI); clear HB HI; have HB := n0_; have HI := n1_; clear n0_ n1_; clear hI ho)
  | ((with_reducible refine gate_callee (f := 10) rfl ?_); refine goesL_ (some 73) rfl rfl Try.func10 (by kernel_rfl) rfl #[.slice A l.length c] rfl (by (try simp only [List.map_toArray, List.map_cons, List.map_nil]); first | done | rfl | (simp [Act.eval, *]; done)) ?_; (with_reducible refine (signalmanref01_Bits.calls k A c l t _ (Kd.C_below HR.out HB.out) HC.out HH.out).mono ?_); rintro e w6 ⟨v, rfl, ho, hb⟩; refine ⟨_, rfl, ?_⟩; obtain ⟨At, ct, rfl, hct, hrt, hft⟩ := Wire.fresh_reads ho; have HT := Aside0.mk hrt; have n0_ := Aside0.mk (Wire.Isq.below HI.out hb); have n1_ := Aside0.mk (below_step HB.out hb); clear HI HB; have HI := n0_; have HB := n1_; clear n0_ n1_; clear ho hb hct hrt hft)
  | ((with_reducible refine gate_callee (f := 14) rfl ?_); refine goesL_ (some 74) rfl rfl Try.func14 (by kernel_rfl) rfl #[.pointer (some ⟨g, 0, none⟩), .slice At t.length ct] rfl (by (try simp only [List.map_toArray, List.map_cons, List.map_nil]); first | done | rfl | (simp [Act.eval, *]; done)) ?_; (with_reducible refine (Wire.bendq HI.out t At ct HT.out (by have := HTL.out; have := hq2.out; rw [List.length_replicate]; omega) (Wire.Own.fresh HB.out HI.out)).mono ?_); rintro e w7 ⟨rfl, hI, ho⟩; refine ⟨_, rfl, ?_⟩; have n0_ := Aside0.mk (ho.below (B := w.heap.size) (fun k hk => hk.elim (fun e => e ▸ HG.out) Wire.Own.low) HB.out HB.out.size); clear HB; have HB := n0_; clear n0_; clear hI ho)
  | ((with_reducible refine gate_callee (f := 11) rfl ?_); (try (refine gate_guard (by rfl) ?_; dsimp only)); refine goesL_ (some 102) rfl rfl Try.func11 (by kernel_rfl) rfl #[.pointer none, .bool on] rfl (by (try simp only [List.map_toArray, List.map_cons, List.map_nil]); first | done | rfl | (simp [Act.eval, *]; done)) ?_; (with_reducible refine (Wire.pass_nil on _).mono ?_); rintro e wz ⟨rfl, rfl⟩; refine ⟨_, rfl, ?_⟩)
  | ((with_reducible refine gate_callee (f := 14) rfl ?_); (try (refine gate_guard (by rfl) ?_; dsimp only)); refine goesL_ (some 108) rfl rfl Try.func14 (by kernel_rfl) rfl #[.pointer none, .slice none 0 0] rfl (by (try simp only [List.map_toArray, List.map_cons, List.map_nil]); first | done | rfl | (simp [Act.eval, *]; done)) ?_; (with_reducible refine (Wire.bend_nil (.slice none 0 0) _).mono ?_); rintro e wz ⟨rfl, rfl⟩; refine ⟨_, rfl, ?_⟩)
  | ((with_reducible refine gate_callee (f := 15) rfl ?_); (try (refine gate_guard (by rfl) ?_; dsimp only)); refine goesL_ (some 113) rfl rfl Try.func15 (by kernel_rfl) rfl #[.pointer none, .int .i64 9] rfl (by (try simp only [List.map_toArray, List.map_cons, List.map_nil]); first | done | rfl | (simp [Act.eval, *]; done)) ?_; (with_reducible refine (Wire.break_nil 9 _).mono ?_); rintro e wz ⟨rfl, rfl⟩; refine ⟨_, rfl, ?_⟩)
  | ((with_reducible refine gate_callee (f := 17) rfl ?_); (try (refine gate_guard (by rfl) ?_; dsimp only)); refine goesL_ (some 118) rfl rfl Try.func17 (by kernel_rfl) rfl #[.pointer none] rfl (by (try simp only [List.map_toArray, List.map_cons, List.map_nil]); first | done | rfl | (simp [Act.eval, *]; done)) ?_; (with_reducible refine (Wire.delay_nil _).mono ?_); rintro e wz ⟨rfl, rfl⟩; refine ⟨_, rfl, ?_⟩)
  | ((with_reducible refine gate_callee (f := 16) rfl ?_); (try (refine gate_guard (by rfl) ?_; dsimp only)); refine goesL_ (some 120) rfl rfl Try.func16 (by kernel_rfl) rfl #[.pointer none] rfl (by (try simp only [List.map_toArray, List.map_cons, List.map_nil]); first | done | rfl | (simp [Act.eval, *]; done)) ?_; (with_reducible refine (Wire.masked_nil _).mono ?_); rintro e wz ⟨rfl, rfl⟩; refine ⟨_, rfl, ?_⟩)
  | ((with_reducible refine gate_callee (f := 13) rfl ?_); (try (refine gate_guard (by rfl) ?_; dsimp only)); refine goesL_ (some 123) rfl rfl Try.func13 (by kernel_rfl) rfl #[.pointer none] rfl (by (try simp only [List.map_toArray, List.map_cons, List.map_nil]); first | done | rfl | (simp [Act.eval, *]; done)) ?_; (with_reducible refine (Wire.bent_nil _).mono ?_); rintro e wz ⟨rfl, rfl⟩; refine ⟨_, rfl, ?_⟩))
  go_ret
  exact ⟨rfl, HB.out⟩
set_option maxHeartbeats 8000000 in
set_option maxRecDepth 100000 in
theorem signalmanlaw20_WireBounds.w_lo_hi_yes (k : Nat) (a0 : Int) (hd : a0 < 0) (a1 : Int) (hn : 65536 < a1) (A : Option Addr) (c : Nat) (l : List Int) (t : List Bool) (on : Bool) (w : World) (hr : Kd.C (Kd.int .u8) w A l.length l) (hc : l.length ≤ c) (hl : l.length ≤ 100) (hE : 0 < l.length) (h : signalmanref01_Bits.f k l = some t) (ht : t.length = 8 * l.length) :
    Calls Try.prog 7 #[.int .i64 a0, .int .i64 a1, .slice A l.length c, .bool on] w fun e w' => e = .returned (.bool true) ∧ Below w.heap.size w w' := by
  have HB := Aside0.mk (Below.refl w.heap.size w)
  have HR := Aside0.mk hr
  have HC := Aside0.mk hc
  have HH := Aside0.mk h
  have HTL := Aside0.mk ht
  obtain ⟨q, hq0⟩ : ∃ q : Nat, q = 65530 := ⟨_, rfl⟩
  have hq := Aside0.mk (show q ≤ 65536 by omega)
  have hq2 := Aside0.mk hq0
  have hm : ∀ W : World, (Instr.makeSlice 41 (.int .i64 65530) (.int .i64 65530)).run Try.prog W = .ok (.slice (some ⟨W.heap.size, 0, none⟩) q q) (W.alloc (.cells (madeCells #[.bool false] q) 4)) := by
    have h_ := print_make_of (P := Try.prog) 41 4 (.bool false) 1 Try.underlying41 info4 rfl (by decide) q (by omega)
    have e_ : (q : Int) = 65530 := by omega
    rw [e_] at h_
    exact h_
  have d0 : decide ((100 : Int) < (l.length : Int)) = false := decide_eq_false (by omega)
  have d1 : decide (100 < l.length) = false := decide_eq_false (by omega)
  have d2 : decide ((0 : Int) ≤ a0) = false := decide_eq_false (by omega)
  have d3 : decide ((7 : Int) ≤ a1) = true := decide_eq_true (by omega)
  have d4 : decide (a1 ≤ 65536) = false := decide_eq_false (by omega)
  have d5 : decide (8 * (l.length : Int) ≤ 6) = false := decide_eq_false (by omega)
  have d6 : decide (8 * l.length ≤ 6) = false := decide_eq_false (by omega)
  clear hr hc h ht hq0
  go_enter Try.func7, Try.ntmps7
  go_wp2_with (first
  | ((with_reducible refine gate_callee (f := 8) rfl ?_); refine goesL_ (some 20) rfl rfl Try.func8 (by kernel_rfl) rfl #[] rfl (by (try simp only [List.map_toArray, List.map_cons, List.map_nil]); first | done | rfl | (simp [Act.eval, *]; done)) ?_; (with_reducible refine (Wire.awake_calls _).mono ?_); rintro e w9 ⟨rfl, hb⟩; refine ⟨_, rfl, ?_⟩; have n0_ := Aside0.mk (below_step HB.out hb); clear HB; have HB := n0_; clear n0_; clear hb)
  | ((with_reducible refine gate_callee (f := 9) rfl ?_); refine goesL_ (some 30) rfl rfl Try.func9 (by kernel_rfl) rfl #[.int .i64 a0] rfl (by (try simp only [List.map_toArray, List.map_cons, List.map_nil]); first | done | rfl | (simp [Act.eval, *]; done)) ?_; (with_reducible refine (Wire.new_lo a0 hd _).mono ?_); rintro e w1 ⟨rfl, rfl⟩; refine ⟨_, rfl, ?_⟩)
  | ((with_reducible refine gate_callee (f := 9) rfl ?_); refine goesL_ (some 50) rfl rfl Try.func9 (by kernel_rfl) rfl #[.int .i64 3] rfl (by (try simp only [List.map_toArray, List.map_cons, List.map_nil]); first | done | rfl | (simp [Act.eval, *]; done)) ?_; (with_reducible refine (Wire.new_bare3 _).mono ?_); rintro e w2 ⟨g, gl, rfl, hg, hgl, hI, hb⟩; refine ⟨_, rfl, ?_⟩; have HG := Aside0.mk (Nat.le_trans HB.out.size hg); have HL := Aside0.mk (Nat.le_trans HB.out.size hgl); have HI := Aside0.mk (hI.isq (Wire.Own w.heap.size g gl) (fun k hk => Wire.Own.apart hk)); have n0_ := Aside0.mk (below_step HB.out hb); clear HB; have HB := n0_; clear n0_; clear hg hgl hI hb)
  | ((with_reducible refine gate_callee (f := 15) rfl ?_); refine goesL_ (some 55) rfl rfl Try.func15 (by kernel_rfl) rfl #[.pointer (some ⟨g, 0, none⟩), .int .i64 a1] rfl (by (try simp only [List.map_toArray, List.map_cons, List.map_nil]); first | done | rfl | (simp [Act.eval, *]; done)) ?_; (with_reducible refine (Wire.break_hi ⟨g, 0, none⟩ a1 hn _).mono ?_); rintro e w3 ⟨rfl, rfl⟩; refine ⟨_, rfl, ?_⟩)
  | ((with_reducible refine gate_callee (f := 15) rfl ?_); refine goesL_ (some 67) rfl rfl Try.func15 (by kernel_rfl) rfl #[.pointer (some ⟨g, 0, none⟩), .int .i64 65536] rfl (by (try simp only [List.map_toArray, List.map_cons, List.map_nil]); first | done | rfl | (simp [Act.eval, *]; done)) ?_; (with_reducible refine (Wire.break_mostq HI.out).mono ?_); rintro e w4 ⟨rfl, hI, ho⟩; refine ⟨_, rfl, ?_⟩; have n0_ := Aside0.mk (ho.below (B := w.heap.size) (fun k hk => hk ▸ HG.out) HB.out HB.out.size); have n1_ := Aside0.mk (hI); clear HB HI; have HB := n0_; have HI := n1_; clear n0_ n1_; clear hI ho)
  | ((with_reducible refine gate_callee (f := 14) rfl ?_); refine goesL_ (some 70) rfl rfl Try.func14 (by kernel_rfl) rfl #[.pointer (some ⟨g, 0, none⟩), .slice (some ⟨w4.heap.size, 0, none⟩) q q] rfl (by (try simp only [List.map_toArray, List.map_cons, List.map_nil]); first | done | rfl | (simp [Act.eval, *]; done)) ?_; (with_reducible refine (Wire.bend_madeq (w := w4) q hq.out HI.out (Wire.Own.fresh HB.out HI.out)).mono ?_); rintro e w5 ⟨rfl, hI, ho⟩; refine ⟨_, rfl, ?_⟩; have n0_ := Aside0.mk (ho.below (B := w.heap.size) (fun k hk => hk.elim (fun e => e ▸ HG.out) Wire.Own.low) (below_alloc HB.out _) (below_alloc HB.out _).size); have n1_ := Aside0.mk (hI); clear HB HI; have HB := n0_; have HI := n1_; clear n0_ n1_; clear hI ho)
  | ((with_reducible refine gate_callee (f := 10) rfl ?_); refine goesL_ (some 73) rfl rfl Try.func10 (by kernel_rfl) rfl #[.slice A l.length c] rfl (by (try simp only [List.map_toArray, List.map_cons, List.map_nil]); first | done | rfl | (simp [Act.eval, *]; done)) ?_; (with_reducible refine (signalmanref01_Bits.calls k A c l t _ (Kd.C_below HR.out HB.out) HC.out HH.out).mono ?_); rintro e w6 ⟨v, rfl, ho, hb⟩; refine ⟨_, rfl, ?_⟩; obtain ⟨At, ct, rfl, hct, hrt, hft⟩ := Wire.fresh_reads ho; have HT := Aside0.mk hrt; have n0_ := Aside0.mk (Wire.Isq.below HI.out hb); have n1_ := Aside0.mk (below_step HB.out hb); clear HI HB; have HI := n0_; have HB := n1_; clear n0_ n1_; clear ho hb hct hrt hft)
  | ((with_reducible refine gate_callee (f := 14) rfl ?_); refine goesL_ (some 74) rfl rfl Try.func14 (by kernel_rfl) rfl #[.pointer (some ⟨g, 0, none⟩), .slice At t.length ct] rfl (by (try simp only [List.map_toArray, List.map_cons, List.map_nil]); first | done | rfl | (simp [Act.eval, *]; done)) ?_; (with_reducible refine (Wire.bend_fullq HI.out At t.length ct (by have := HTL.out; have := hq2.out; rw [List.length_replicate]; omega) (by have := hq2.out; rw [List.length_replicate]; omega) (by have := HTL.out; omega)).mono ?_); rintro e w7 ⟨rfl, rfl⟩; refine ⟨_, rfl, ?_⟩)
  | ((with_reducible refine gate_callee (f := 11) rfl ?_); (try (refine gate_guard (by rfl) ?_; dsimp only)); refine goesL_ (some 102) rfl rfl Try.func11 (by kernel_rfl) rfl #[.pointer none, .bool on] rfl (by (try simp only [List.map_toArray, List.map_cons, List.map_nil]); first | done | rfl | (simp [Act.eval, *]; done)) ?_; (with_reducible refine (Wire.pass_nil on _).mono ?_); rintro e wz ⟨rfl, rfl⟩; refine ⟨_, rfl, ?_⟩)
  | ((with_reducible refine gate_callee (f := 14) rfl ?_); (try (refine gate_guard (by rfl) ?_; dsimp only)); refine goesL_ (some 108) rfl rfl Try.func14 (by kernel_rfl) rfl #[.pointer none, .slice none 0 0] rfl (by (try simp only [List.map_toArray, List.map_cons, List.map_nil]); first | done | rfl | (simp [Act.eval, *]; done)) ?_; (with_reducible refine (Wire.bend_nil (.slice none 0 0) _).mono ?_); rintro e wz ⟨rfl, rfl⟩; refine ⟨_, rfl, ?_⟩)
  | ((with_reducible refine gate_callee (f := 15) rfl ?_); (try (refine gate_guard (by rfl) ?_; dsimp only)); refine goesL_ (some 113) rfl rfl Try.func15 (by kernel_rfl) rfl #[.pointer none, .int .i64 9] rfl (by (try simp only [List.map_toArray, List.map_cons, List.map_nil]); first | done | rfl | (simp [Act.eval, *]; done)) ?_; (with_reducible refine (Wire.break_nil 9 _).mono ?_); rintro e wz ⟨rfl, rfl⟩; refine ⟨_, rfl, ?_⟩)
  | ((with_reducible refine gate_callee (f := 17) rfl ?_); (try (refine gate_guard (by rfl) ?_; dsimp only)); refine goesL_ (some 118) rfl rfl Try.func17 (by kernel_rfl) rfl #[.pointer none] rfl (by (try simp only [List.map_toArray, List.map_cons, List.map_nil]); first | done | rfl | (simp [Act.eval, *]; done)) ?_; (with_reducible refine (Wire.delay_nil _).mono ?_); rintro e wz ⟨rfl, rfl⟩; refine ⟨_, rfl, ?_⟩)
  | ((with_reducible refine gate_callee (f := 16) rfl ?_); (try (refine gate_guard (by rfl) ?_; dsimp only)); refine goesL_ (some 120) rfl rfl Try.func16 (by kernel_rfl) rfl #[.pointer none] rfl (by (try simp only [List.map_toArray, List.map_cons, List.map_nil]); first | done | rfl | (simp [Act.eval, *]; done)) ?_; (with_reducible refine (Wire.masked_nil _).mono ?_); rintro e wz ⟨rfl, rfl⟩; refine ⟨_, rfl, ?_⟩)
  | ((with_reducible refine gate_callee (f := 13) rfl ?_); (try (refine gate_guard (by rfl) ?_; dsimp only)); refine goesL_ (some 123) rfl rfl Try.func13 (by kernel_rfl) rfl #[.pointer none] rfl (by (try simp only [List.map_toArray, List.map_cons, List.map_nil]); first | done | rfl | (simp [Act.eval, *]; done)) ?_; (with_reducible refine (Wire.bent_nil _).mono ?_); rintro e wz ⟨rfl, rfl⟩; refine ⟨_, rfl, ?_⟩))
  go_ret
  exact ⟨rfl, HB.out⟩
set_option maxHeartbeats 8000000 in
set_option maxRecDepth 100000 in
theorem signalmanlaw20_WireBounds.w_hi_ok_no (k : Nat) (a0 : Int) (hd : 65536 < a0) (nn : Nat) (hn1 : 7 ≤ nn) (hn2 : nn ≤ 65536) (A : Option Addr) (c : Nat) (l : List Int) (t : List Bool) (on : Bool) (w : World) (hr : Kd.C (Kd.int .u8) w A l.length l) (hc : l.length ≤ c) (hl : l.length ≤ 100) (hE : l.length < 1) (h : signalmanref01_Bits.f k l = some t) (ht : t.length = 8 * l.length) :
    Calls Try.prog 7 #[.int .i64 a0, .int .i64 (nn : Int), .slice A l.length c, .bool on] w fun e w' => e = .returned (.bool true) ∧ Below w.heap.size w w' := by
  have HB := Aside0.mk (Below.refl w.heap.size w)
  have HR := Aside0.mk hr
  have HC := Aside0.mk hc
  have HH := Aside0.mk h
  have HTL := Aside0.mk ht
  obtain ⟨q, hq0⟩ : ∃ q : Nat, q = 65530 := ⟨_, rfl⟩
  have hq := Aside0.mk (show q ≤ 65536 by omega)
  have hq2 := Aside0.mk hq0
  have hm : ∀ W : World, (Instr.makeSlice 41 (.int .i64 65530) (.int .i64 65530)).run Try.prog W = .ok (.slice (some ⟨W.heap.size, 0, none⟩) q q) (W.alloc (.cells (madeCells #[.bool false] q) 4)) := by
    have h_ := print_make_of (P := Try.prog) 41 4 (.bool false) 1 Try.underlying41 info4 rfl (by decide) q (by omega)
    have e_ : (q : Int) = 65530 := by omega
    rw [e_] at h_
    exact h_
  have d0 : decide ((100 : Int) < (l.length : Int)) = false := decide_eq_false (by omega)
  have d1 : decide (100 < l.length) = false := decide_eq_false (by omega)
  have d2 : decide ((0 : Int) ≤ a0) = true := decide_eq_true (by omega)
  have d3 : decide (a0 ≤ 65536) = false := decide_eq_false (by omega)
  have d4 : decide ((7 : Int) ≤ (nn : Int)) = true := decide_eq_true (by omega)
  have d5 : decide (7 ≤ nn) = true := decide_eq_true (by omega)
  have d6 : decide ((nn : Int) ≤ 65536) = true := decide_eq_true (by omega)
  have d7 : decide (nn ≤ 65536) = true := decide_eq_true (by omega)
  have d8 : decide (8 * (l.length : Int) ≤ 6) = true := decide_eq_true (by omega)
  have d9 : decide (8 * l.length ≤ 6) = true := decide_eq_true (by omega)
  clear hr hc h ht hq0
  go_enter Try.func7, Try.ntmps7
  go_wp2_with (first
  | ((with_reducible refine gate_callee (f := 8) rfl ?_); refine goesL_ (some 20) rfl rfl Try.func8 (by kernel_rfl) rfl #[] rfl (by (try simp only [List.map_toArray, List.map_cons, List.map_nil]); first | done | rfl | (simp [Act.eval, *]; done)) ?_; (with_reducible refine (Wire.awake_calls _).mono ?_); rintro e w9 ⟨rfl, hb⟩; refine ⟨_, rfl, ?_⟩; have n0_ := Aside0.mk (below_step HB.out hb); clear HB; have HB := n0_; clear n0_; clear hb)
  | ((with_reducible refine gate_callee (f := 9) rfl ?_); refine goesL_ (some 30) rfl rfl Try.func9 (by kernel_rfl) rfl #[.int .i64 a0] rfl (by (try simp only [List.map_toArray, List.map_cons, List.map_nil]); first | done | rfl | (simp [Act.eval, *]; done)) ?_; (with_reducible refine (Wire.new_hi a0 hd _).mono ?_); rintro e w1 ⟨rfl, rfl⟩; refine ⟨_, rfl, ?_⟩)
  | ((with_reducible refine gate_callee (f := 9) rfl ?_); refine goesL_ (some 50) rfl rfl Try.func9 (by kernel_rfl) rfl #[.int .i64 3] rfl (by (try simp only [List.map_toArray, List.map_cons, List.map_nil]); first | done | rfl | (simp [Act.eval, *]; done)) ?_; (with_reducible refine (Wire.new_bare3 _).mono ?_); rintro e w2 ⟨g, gl, rfl, hg, hgl, hI, hb⟩; refine ⟨_, rfl, ?_⟩; have HG := Aside0.mk (Nat.le_trans HB.out.size hg); have HL := Aside0.mk (Nat.le_trans HB.out.size hgl); have HI := Aside0.mk (hI.isq (Wire.Own w.heap.size g gl) (fun k hk => Wire.Own.apart hk)); have n0_ := Aside0.mk (below_step HB.out hb); clear HB; have HB := n0_; clear n0_; clear hg hgl hI hb)
  | ((with_reducible refine gate_callee (f := 15) rfl ?_); refine goesL_ (some 55) rfl rfl Try.func15 (by kernel_rfl) rfl #[.pointer (some ⟨g, 0, none⟩), .int .i64 (nn : Int)] rfl (by (try simp only [List.map_toArray, List.map_cons, List.map_nil]); first | done | rfl | (simp [Act.eval, *]; done)) ?_; (with_reducible refine (Wire.breakq HI.out hn1 (by omega)).mono ?_); rintro e w3 ⟨rfl, hI, ho⟩; refine ⟨_, rfl, ?_⟩; have n0_ := Aside0.mk (ho.below (B := w.heap.size) (fun k hk => hk ▸ HG.out) HB.out HB.out.size); have n1_ := Aside0.mk (hI); clear HB HI; have HB := n0_; have HI := n1_; clear n0_ n1_; clear hI ho)
  | ((with_reducible refine gate_callee (f := 15) rfl ?_); refine goesL_ (some 67) rfl rfl Try.func15 (by kernel_rfl) rfl #[.pointer (some ⟨g, 0, none⟩), .int .i64 65536] rfl (by (try simp only [List.map_toArray, List.map_cons, List.map_nil]); first | done | rfl | (simp [Act.eval, *]; done)) ?_; (with_reducible refine (Wire.break_fullq HI.out (by omega) (by omega)).mono ?_); rintro e w4 ⟨rfl, rfl⟩; refine ⟨_, rfl, ?_⟩)
  | ((with_reducible refine gate_callee (f := 14) rfl ?_); refine goesL_ (some 70) rfl rfl Try.func14 (by kernel_rfl) rfl #[.pointer (some ⟨g, 0, none⟩), .slice (some ⟨w4.heap.size, 0, none⟩) q q] rfl (by (try simp only [List.map_toArray, List.map_cons, List.map_nil]); first | done | rfl | (simp [Act.eval, *]; done)) ?_; (with_reducible refine (Wire.bend_madeq (w := w4) q hq.out HI.out (Wire.Own.fresh HB.out HI.out)).mono ?_); rintro e w5 ⟨rfl, hI, ho⟩; refine ⟨_, rfl, ?_⟩; have n0_ := Aside0.mk (ho.below (B := w.heap.size) (fun k hk => hk.elim (fun e => e ▸ HG.out) Wire.Own.low) (below_alloc HB.out _) (below_alloc HB.out _).size); have n1_ := Aside0.mk (hI); clear HB HI; have HB := n0_; have HI := n1_; clear n0_ n1_; clear hI ho)
  | ((with_reducible refine gate_callee (f := 10) rfl ?_); refine goesL_ (some 73) rfl rfl Try.func10 (by kernel_rfl) rfl #[.slice A l.length c] rfl (by (try simp only [List.map_toArray, List.map_cons, List.map_nil]); first | done | rfl | (simp [Act.eval, *]; done)) ?_; (with_reducible refine (signalmanref01_Bits.calls k A c l t _ (Kd.C_below HR.out HB.out) HC.out HH.out).mono ?_); rintro e w6 ⟨v, rfl, ho, hb⟩; refine ⟨_, rfl, ?_⟩; obtain ⟨At, ct, rfl, hct, hrt, hft⟩ := Wire.fresh_reads ho; have HT := Aside0.mk hrt; have n0_ := Aside0.mk (Wire.Isq.below HI.out hb); have n1_ := Aside0.mk (below_step HB.out hb); clear HI HB; have HI := n0_; have HB := n1_; clear n0_ n1_; clear ho hb hct hrt hft)
  | ((with_reducible refine gate_callee (f := 14) rfl ?_); refine goesL_ (some 74) rfl rfl Try.func14 (by kernel_rfl) rfl #[.pointer (some ⟨g, 0, none⟩), .slice At t.length ct] rfl (by (try simp only [List.map_toArray, List.map_cons, List.map_nil]); first | done | rfl | (simp [Act.eval, *]; done)) ?_; (with_reducible refine (Wire.bendq HI.out t At ct HT.out (by have := HTL.out; have := hq2.out; rw [List.length_replicate]; omega) (Wire.Own.fresh HB.out HI.out)).mono ?_); rintro e w7 ⟨rfl, hI, ho⟩; refine ⟨_, rfl, ?_⟩; have n0_ := Aside0.mk (ho.below (B := w.heap.size) (fun k hk => hk.elim (fun e => e ▸ HG.out) Wire.Own.low) HB.out HB.out.size); clear HB; have HB := n0_; clear n0_; clear hI ho)
  | ((with_reducible refine gate_callee (f := 11) rfl ?_); (try (refine gate_guard (by rfl) ?_; dsimp only)); refine goesL_ (some 102) rfl rfl Try.func11 (by kernel_rfl) rfl #[.pointer none, .bool on] rfl (by (try simp only [List.map_toArray, List.map_cons, List.map_nil]); first | done | rfl | (simp [Act.eval, *]; done)) ?_; (with_reducible refine (Wire.pass_nil on _).mono ?_); rintro e wz ⟨rfl, rfl⟩; refine ⟨_, rfl, ?_⟩)
  | ((with_reducible refine gate_callee (f := 14) rfl ?_); (try (refine gate_guard (by rfl) ?_; dsimp only)); refine goesL_ (some 108) rfl rfl Try.func14 (by kernel_rfl) rfl #[.pointer none, .slice none 0 0] rfl (by (try simp only [List.map_toArray, List.map_cons, List.map_nil]); first | done | rfl | (simp [Act.eval, *]; done)) ?_; (with_reducible refine (Wire.bend_nil (.slice none 0 0) _).mono ?_); rintro e wz ⟨rfl, rfl⟩; refine ⟨_, rfl, ?_⟩)
  | ((with_reducible refine gate_callee (f := 15) rfl ?_); (try (refine gate_guard (by rfl) ?_; dsimp only)); refine goesL_ (some 113) rfl rfl Try.func15 (by kernel_rfl) rfl #[.pointer none, .int .i64 9] rfl (by (try simp only [List.map_toArray, List.map_cons, List.map_nil]); first | done | rfl | (simp [Act.eval, *]; done)) ?_; (with_reducible refine (Wire.break_nil 9 _).mono ?_); rintro e wz ⟨rfl, rfl⟩; refine ⟨_, rfl, ?_⟩)
  | ((with_reducible refine gate_callee (f := 17) rfl ?_); (try (refine gate_guard (by rfl) ?_; dsimp only)); refine goesL_ (some 118) rfl rfl Try.func17 (by kernel_rfl) rfl #[.pointer none] rfl (by (try simp only [List.map_toArray, List.map_cons, List.map_nil]); first | done | rfl | (simp [Act.eval, *]; done)) ?_; (with_reducible refine (Wire.delay_nil _).mono ?_); rintro e wz ⟨rfl, rfl⟩; refine ⟨_, rfl, ?_⟩)
  | ((with_reducible refine gate_callee (f := 16) rfl ?_); (try (refine gate_guard (by rfl) ?_; dsimp only)); refine goesL_ (some 120) rfl rfl Try.func16 (by kernel_rfl) rfl #[.pointer none] rfl (by (try simp only [List.map_toArray, List.map_cons, List.map_nil]); first | done | rfl | (simp [Act.eval, *]; done)) ?_; (with_reducible refine (Wire.masked_nil _).mono ?_); rintro e wz ⟨rfl, rfl⟩; refine ⟨_, rfl, ?_⟩)
  | ((with_reducible refine gate_callee (f := 13) rfl ?_); (try (refine gate_guard (by rfl) ?_; dsimp only)); refine goesL_ (some 123) rfl rfl Try.func13 (by kernel_rfl) rfl #[.pointer none] rfl (by (try simp only [List.map_toArray, List.map_cons, List.map_nil]); first | done | rfl | (simp [Act.eval, *]; done)) ?_; (with_reducible refine (Wire.bent_nil _).mono ?_); rintro e wz ⟨rfl, rfl⟩; refine ⟨_, rfl, ?_⟩))
  go_ret
  exact ⟨rfl, HB.out⟩
set_option maxHeartbeats 8000000 in
set_option maxRecDepth 100000 in
theorem signalmanlaw20_WireBounds.w_hi_ok_yes (k : Nat) (a0 : Int) (hd : 65536 < a0) (nn : Nat) (hn1 : 7 ≤ nn) (hn2 : nn ≤ 65536) (A : Option Addr) (c : Nat) (l : List Int) (t : List Bool) (on : Bool) (w : World) (hr : Kd.C (Kd.int .u8) w A l.length l) (hc : l.length ≤ c) (hl : l.length ≤ 100) (hE : 0 < l.length) (h : signalmanref01_Bits.f k l = some t) (ht : t.length = 8 * l.length) :
    Calls Try.prog 7 #[.int .i64 a0, .int .i64 (nn : Int), .slice A l.length c, .bool on] w fun e w' => e = .returned (.bool true) ∧ Below w.heap.size w w' := by
  have HB := Aside0.mk (Below.refl w.heap.size w)
  have HR := Aside0.mk hr
  have HC := Aside0.mk hc
  have HH := Aside0.mk h
  have HTL := Aside0.mk ht
  obtain ⟨q, hq0⟩ : ∃ q : Nat, q = 65530 := ⟨_, rfl⟩
  have hq := Aside0.mk (show q ≤ 65536 by omega)
  have hq2 := Aside0.mk hq0
  have hm : ∀ W : World, (Instr.makeSlice 41 (.int .i64 65530) (.int .i64 65530)).run Try.prog W = .ok (.slice (some ⟨W.heap.size, 0, none⟩) q q) (W.alloc (.cells (madeCells #[.bool false] q) 4)) := by
    have h_ := print_make_of (P := Try.prog) 41 4 (.bool false) 1 Try.underlying41 info4 rfl (by decide) q (by omega)
    have e_ : (q : Int) = 65530 := by omega
    rw [e_] at h_
    exact h_
  have d0 : decide ((100 : Int) < (l.length : Int)) = false := decide_eq_false (by omega)
  have d1 : decide (100 < l.length) = false := decide_eq_false (by omega)
  have d2 : decide ((0 : Int) ≤ a0) = true := decide_eq_true (by omega)
  have d3 : decide (a0 ≤ 65536) = false := decide_eq_false (by omega)
  have d4 : decide ((7 : Int) ≤ (nn : Int)) = true := decide_eq_true (by omega)
  have d5 : decide (7 ≤ nn) = true := decide_eq_true (by omega)
  have d6 : decide ((nn : Int) ≤ 65536) = true := decide_eq_true (by omega)
  have d7 : decide (nn ≤ 65536) = true := decide_eq_true (by omega)
  have d8 : decide (8 * (l.length : Int) ≤ 6) = false := decide_eq_false (by omega)
  have d9 : decide (8 * l.length ≤ 6) = false := decide_eq_false (by omega)
  clear hr hc h ht hq0
  go_enter Try.func7, Try.ntmps7
  go_wp2_with (first
  | ((with_reducible refine gate_callee (f := 8) rfl ?_); refine goesL_ (some 20) rfl rfl Try.func8 (by kernel_rfl) rfl #[] rfl (by (try simp only [List.map_toArray, List.map_cons, List.map_nil]); first | done | rfl | (simp [Act.eval, *]; done)) ?_; (with_reducible refine (Wire.awake_calls _).mono ?_); rintro e w9 ⟨rfl, hb⟩; refine ⟨_, rfl, ?_⟩; have n0_ := Aside0.mk (below_step HB.out hb); clear HB; have HB := n0_; clear n0_; clear hb)
  | ((with_reducible refine gate_callee (f := 9) rfl ?_); refine goesL_ (some 30) rfl rfl Try.func9 (by kernel_rfl) rfl #[.int .i64 a0] rfl (by (try simp only [List.map_toArray, List.map_cons, List.map_nil]); first | done | rfl | (simp [Act.eval, *]; done)) ?_; (with_reducible refine (Wire.new_hi a0 hd _).mono ?_); rintro e w1 ⟨rfl, rfl⟩; refine ⟨_, rfl, ?_⟩)
  | ((with_reducible refine gate_callee (f := 9) rfl ?_); refine goesL_ (some 50) rfl rfl Try.func9 (by kernel_rfl) rfl #[.int .i64 3] rfl (by (try simp only [List.map_toArray, List.map_cons, List.map_nil]); first | done | rfl | (simp [Act.eval, *]; done)) ?_; (with_reducible refine (Wire.new_bare3 _).mono ?_); rintro e w2 ⟨g, gl, rfl, hg, hgl, hI, hb⟩; refine ⟨_, rfl, ?_⟩; have HG := Aside0.mk (Nat.le_trans HB.out.size hg); have HL := Aside0.mk (Nat.le_trans HB.out.size hgl); have HI := Aside0.mk (hI.isq (Wire.Own w.heap.size g gl) (fun k hk => Wire.Own.apart hk)); have n0_ := Aside0.mk (below_step HB.out hb); clear HB; have HB := n0_; clear n0_; clear hg hgl hI hb)
  | ((with_reducible refine gate_callee (f := 15) rfl ?_); refine goesL_ (some 55) rfl rfl Try.func15 (by kernel_rfl) rfl #[.pointer (some ⟨g, 0, none⟩), .int .i64 (nn : Int)] rfl (by (try simp only [List.map_toArray, List.map_cons, List.map_nil]); first | done | rfl | (simp [Act.eval, *]; done)) ?_; (with_reducible refine (Wire.breakq HI.out hn1 (by omega)).mono ?_); rintro e w3 ⟨rfl, hI, ho⟩; refine ⟨_, rfl, ?_⟩; have n0_ := Aside0.mk (ho.below (B := w.heap.size) (fun k hk => hk ▸ HG.out) HB.out HB.out.size); have n1_ := Aside0.mk (hI); clear HB HI; have HB := n0_; have HI := n1_; clear n0_ n1_; clear hI ho)
  | ((with_reducible refine gate_callee (f := 15) rfl ?_); refine goesL_ (some 67) rfl rfl Try.func15 (by kernel_rfl) rfl #[.pointer (some ⟨g, 0, none⟩), .int .i64 65536] rfl (by (try simp only [List.map_toArray, List.map_cons, List.map_nil]); first | done | rfl | (simp [Act.eval, *]; done)) ?_; (with_reducible refine (Wire.break_fullq HI.out (by omega) (by omega)).mono ?_); rintro e w4 ⟨rfl, rfl⟩; refine ⟨_, rfl, ?_⟩)
  | ((with_reducible refine gate_callee (f := 14) rfl ?_); refine goesL_ (some 70) rfl rfl Try.func14 (by kernel_rfl) rfl #[.pointer (some ⟨g, 0, none⟩), .slice (some ⟨w4.heap.size, 0, none⟩) q q] rfl (by (try simp only [List.map_toArray, List.map_cons, List.map_nil]); first | done | rfl | (simp [Act.eval, *]; done)) ?_; (with_reducible refine (Wire.bend_madeq (w := w4) q hq.out HI.out (Wire.Own.fresh HB.out HI.out)).mono ?_); rintro e w5 ⟨rfl, hI, ho⟩; refine ⟨_, rfl, ?_⟩; have n0_ := Aside0.mk (ho.below (B := w.heap.size) (fun k hk => hk.elim (fun e => e ▸ HG.out) Wire.Own.low) (below_alloc HB.out _) (below_alloc HB.out _).size); have n1_ := Aside0.mk (hI); clear HB HI; have HB := n0_; have HI := n1_; clear n0_ n1_; clear hI ho)
  | ((with_reducible refine gate_callee (f := 10) rfl ?_); refine goesL_ (some 73) rfl rfl Try.func10 (by kernel_rfl) rfl #[.slice A l.length c] rfl (by (try simp only [List.map_toArray, List.map_cons, List.map_nil]); first | done | rfl | (simp [Act.eval, *]; done)) ?_; (with_reducible refine (signalmanref01_Bits.calls k A c l t _ (Kd.C_below HR.out HB.out) HC.out HH.out).mono ?_); rintro e w6 ⟨v, rfl, ho, hb⟩; refine ⟨_, rfl, ?_⟩; obtain ⟨At, ct, rfl, hct, hrt, hft⟩ := Wire.fresh_reads ho; have HT := Aside0.mk hrt; have n0_ := Aside0.mk (Wire.Isq.below HI.out hb); have n1_ := Aside0.mk (below_step HB.out hb); clear HI HB; have HI := n0_; have HB := n1_; clear n0_ n1_; clear ho hb hct hrt hft)
  | ((with_reducible refine gate_callee (f := 14) rfl ?_); refine goesL_ (some 74) rfl rfl Try.func14 (by kernel_rfl) rfl #[.pointer (some ⟨g, 0, none⟩), .slice At t.length ct] rfl (by (try simp only [List.map_toArray, List.map_cons, List.map_nil]); first | done | rfl | (simp [Act.eval, *]; done)) ?_; (with_reducible refine (Wire.bend_fullq HI.out At t.length ct (by have := HTL.out; have := hq2.out; rw [List.length_replicate]; omega) (by have := hq2.out; rw [List.length_replicate]; omega) (by have := HTL.out; omega)).mono ?_); rintro e w7 ⟨rfl, rfl⟩; refine ⟨_, rfl, ?_⟩)
  | ((with_reducible refine gate_callee (f := 11) rfl ?_); (try (refine gate_guard (by rfl) ?_; dsimp only)); refine goesL_ (some 102) rfl rfl Try.func11 (by kernel_rfl) rfl #[.pointer none, .bool on] rfl (by (try simp only [List.map_toArray, List.map_cons, List.map_nil]); first | done | rfl | (simp [Act.eval, *]; done)) ?_; (with_reducible refine (Wire.pass_nil on _).mono ?_); rintro e wz ⟨rfl, rfl⟩; refine ⟨_, rfl, ?_⟩)
  | ((with_reducible refine gate_callee (f := 14) rfl ?_); (try (refine gate_guard (by rfl) ?_; dsimp only)); refine goesL_ (some 108) rfl rfl Try.func14 (by kernel_rfl) rfl #[.pointer none, .slice none 0 0] rfl (by (try simp only [List.map_toArray, List.map_cons, List.map_nil]); first | done | rfl | (simp [Act.eval, *]; done)) ?_; (with_reducible refine (Wire.bend_nil (.slice none 0 0) _).mono ?_); rintro e wz ⟨rfl, rfl⟩; refine ⟨_, rfl, ?_⟩)
  | ((with_reducible refine gate_callee (f := 15) rfl ?_); (try (refine gate_guard (by rfl) ?_; dsimp only)); refine goesL_ (some 113) rfl rfl Try.func15 (by kernel_rfl) rfl #[.pointer none, .int .i64 9] rfl (by (try simp only [List.map_toArray, List.map_cons, List.map_nil]); first | done | rfl | (simp [Act.eval, *]; done)) ?_; (with_reducible refine (Wire.break_nil 9 _).mono ?_); rintro e wz ⟨rfl, rfl⟩; refine ⟨_, rfl, ?_⟩)
  | ((with_reducible refine gate_callee (f := 17) rfl ?_); (try (refine gate_guard (by rfl) ?_; dsimp only)); refine goesL_ (some 118) rfl rfl Try.func17 (by kernel_rfl) rfl #[.pointer none] rfl (by (try simp only [List.map_toArray, List.map_cons, List.map_nil]); first | done | rfl | (simp [Act.eval, *]; done)) ?_; (with_reducible refine (Wire.delay_nil _).mono ?_); rintro e wz ⟨rfl, rfl⟩; refine ⟨_, rfl, ?_⟩)
  | ((with_reducible refine gate_callee (f := 16) rfl ?_); (try (refine gate_guard (by rfl) ?_; dsimp only)); refine goesL_ (some 120) rfl rfl Try.func16 (by kernel_rfl) rfl #[.pointer none] rfl (by (try simp only [List.map_toArray, List.map_cons, List.map_nil]); first | done | rfl | (simp [Act.eval, *]; done)) ?_; (with_reducible refine (Wire.masked_nil _).mono ?_); rintro e wz ⟨rfl, rfl⟩; refine ⟨_, rfl, ?_⟩)
  | ((with_reducible refine gate_callee (f := 13) rfl ?_); (try (refine gate_guard (by rfl) ?_; dsimp only)); refine goesL_ (some 123) rfl rfl Try.func13 (by kernel_rfl) rfl #[.pointer none] rfl (by (try simp only [List.map_toArray, List.map_cons, List.map_nil]); first | done | rfl | (simp [Act.eval, *]; done)) ?_; (with_reducible refine (Wire.bent_nil _).mono ?_); rintro e wz ⟨rfl, rfl⟩; refine ⟨_, rfl, ?_⟩))
  go_ret
  exact ⟨rfl, HB.out⟩
set_option maxHeartbeats 8000000 in
set_option maxRecDepth 100000 in
theorem signalmanlaw20_WireBounds.w_hi_lo_no (k : Nat) (a0 : Int) (hd : 65536 < a0) (a1 : Int) (hn : a1 < 7) (A : Option Addr) (c : Nat) (l : List Int) (t : List Bool) (on : Bool) (w : World) (hr : Kd.C (Kd.int .u8) w A l.length l) (hc : l.length ≤ c) (hl : l.length ≤ 100) (hE : l.length < 1) (h : signalmanref01_Bits.f k l = some t) (ht : t.length = 8 * l.length) :
    Calls Try.prog 7 #[.int .i64 a0, .int .i64 a1, .slice A l.length c, .bool on] w fun e w' => e = .returned (.bool true) ∧ Below w.heap.size w w' := by
  have HB := Aside0.mk (Below.refl w.heap.size w)
  have HR := Aside0.mk hr
  have HC := Aside0.mk hc
  have HH := Aside0.mk h
  have HTL := Aside0.mk ht
  obtain ⟨q, hq0⟩ : ∃ q : Nat, q = 65530 := ⟨_, rfl⟩
  have hq := Aside0.mk (show q ≤ 65536 by omega)
  have hq2 := Aside0.mk hq0
  have hm : ∀ W : World, (Instr.makeSlice 41 (.int .i64 65530) (.int .i64 65530)).run Try.prog W = .ok (.slice (some ⟨W.heap.size, 0, none⟩) q q) (W.alloc (.cells (madeCells #[.bool false] q) 4)) := by
    have h_ := print_make_of (P := Try.prog) 41 4 (.bool false) 1 Try.underlying41 info4 rfl (by decide) q (by omega)
    have e_ : (q : Int) = 65530 := by omega
    rw [e_] at h_
    exact h_
  have d0 : decide ((100 : Int) < (l.length : Int)) = false := decide_eq_false (by omega)
  have d1 : decide (100 < l.length) = false := decide_eq_false (by omega)
  have d2 : decide ((0 : Int) ≤ a0) = true := decide_eq_true (by omega)
  have d3 : decide (a0 ≤ 65536) = false := decide_eq_false (by omega)
  have d4 : decide ((7 : Int) ≤ a1) = false := decide_eq_false (by omega)
  have d5 : decide (8 * (l.length : Int) ≤ 6) = true := decide_eq_true (by omega)
  have d6 : decide (8 * l.length ≤ 6) = true := decide_eq_true (by omega)
  clear hr hc h ht hq0
  go_enter Try.func7, Try.ntmps7
  go_wp2_with (first
  | ((with_reducible refine gate_callee (f := 8) rfl ?_); refine goesL_ (some 20) rfl rfl Try.func8 (by kernel_rfl) rfl #[] rfl (by (try simp only [List.map_toArray, List.map_cons, List.map_nil]); first | done | rfl | (simp [Act.eval, *]; done)) ?_; (with_reducible refine (Wire.awake_calls _).mono ?_); rintro e w9 ⟨rfl, hb⟩; refine ⟨_, rfl, ?_⟩; have n0_ := Aside0.mk (below_step HB.out hb); clear HB; have HB := n0_; clear n0_; clear hb)
  | ((with_reducible refine gate_callee (f := 9) rfl ?_); refine goesL_ (some 30) rfl rfl Try.func9 (by kernel_rfl) rfl #[.int .i64 a0] rfl (by (try simp only [List.map_toArray, List.map_cons, List.map_nil]); first | done | rfl | (simp [Act.eval, *]; done)) ?_; (with_reducible refine (Wire.new_hi a0 hd _).mono ?_); rintro e w1 ⟨rfl, rfl⟩; refine ⟨_, rfl, ?_⟩)
  | ((with_reducible refine gate_callee (f := 9) rfl ?_); refine goesL_ (some 50) rfl rfl Try.func9 (by kernel_rfl) rfl #[.int .i64 3] rfl (by (try simp only [List.map_toArray, List.map_cons, List.map_nil]); first | done | rfl | (simp [Act.eval, *]; done)) ?_; (with_reducible refine (Wire.new_bare3 _).mono ?_); rintro e w2 ⟨g, gl, rfl, hg, hgl, hI, hb⟩; refine ⟨_, rfl, ?_⟩; have HG := Aside0.mk (Nat.le_trans HB.out.size hg); have HL := Aside0.mk (Nat.le_trans HB.out.size hgl); have HI := Aside0.mk (hI.isq (Wire.Own w.heap.size g gl) (fun k hk => Wire.Own.apart hk)); have n0_ := Aside0.mk (below_step HB.out hb); clear HB; have HB := n0_; clear n0_; clear hg hgl hI hb)
  | ((with_reducible refine gate_callee (f := 15) rfl ?_); refine goesL_ (some 55) rfl rfl Try.func15 (by kernel_rfl) rfl #[.pointer (some ⟨g, 0, none⟩), .int .i64 a1] rfl (by (try simp only [List.map_toArray, List.map_cons, List.map_nil]); first | done | rfl | (simp [Act.eval, *]; done)) ?_; (with_reducible refine (Wire.break_lo ⟨g, 0, none⟩ a1 hn _).mono ?_); rintro e w3 ⟨rfl, rfl⟩; refine ⟨_, rfl, ?_⟩)
  | ((with_reducible refine gate_callee (f := 15) rfl ?_); refine goesL_ (some 67) rfl rfl Try.func15 (by kernel_rfl) rfl #[.pointer (some ⟨g, 0, none⟩), .int .i64 65536] rfl (by (try simp only [List.map_toArray, List.map_cons, List.map_nil]); first | done | rfl | (simp [Act.eval, *]; done)) ?_; (with_reducible refine (Wire.break_mostq HI.out).mono ?_); rintro e w4 ⟨rfl, hI, ho⟩; refine ⟨_, rfl, ?_⟩; have n0_ := Aside0.mk (ho.below (B := w.heap.size) (fun k hk => hk ▸ HG.out) HB.out HB.out.size); have n1_ := Aside0.mk (hI); clear HB HI; have HB := n0_; have HI := n1_; clear n0_ n1_; clear hI ho)
  | ((with_reducible refine gate_callee (f := 14) rfl ?_); refine goesL_ (some 70) rfl rfl Try.func14 (by kernel_rfl) rfl #[.pointer (some ⟨g, 0, none⟩), .slice (some ⟨w4.heap.size, 0, none⟩) q q] rfl (by (try simp only [List.map_toArray, List.map_cons, List.map_nil]); first | done | rfl | (simp [Act.eval, *]; done)) ?_; (with_reducible refine (Wire.bend_madeq (w := w4) q hq.out HI.out (Wire.Own.fresh HB.out HI.out)).mono ?_); rintro e w5 ⟨rfl, hI, ho⟩; refine ⟨_, rfl, ?_⟩; have n0_ := Aside0.mk (ho.below (B := w.heap.size) (fun k hk => hk.elim (fun e => e ▸ HG.out) Wire.Own.low) (below_alloc HB.out _) (below_alloc HB.out _).size); have n1_ := Aside0.mk (hI); clear HB HI; have HB := n0_; have HI := n1_; clear n0_ n1_; clear hI ho)
  | ((with_reducible refine gate_callee (f := 10) rfl ?_); refine goesL_ (some 73) rfl rfl Try.func10 (by kernel_rfl) rfl #[.slice A l.length c] rfl (by (try simp only [List.map_toArray, List.map_cons, List.map_nil]); first | done | rfl | (simp [Act.eval, *]; done)) ?_; (with_reducible refine (signalmanref01_Bits.calls k A c l t _ (Kd.C_below HR.out HB.out) HC.out HH.out).mono ?_); rintro e w6 ⟨v, rfl, ho, hb⟩; refine ⟨_, rfl, ?_⟩; obtain ⟨At, ct, rfl, hct, hrt, hft⟩ := Wire.fresh_reads ho; have HT := Aside0.mk hrt; have n0_ := Aside0.mk (Wire.Isq.below HI.out hb); have n1_ := Aside0.mk (below_step HB.out hb); clear HI HB; have HI := n0_; have HB := n1_; clear n0_ n1_; clear ho hb hct hrt hft)
  | ((with_reducible refine gate_callee (f := 14) rfl ?_); refine goesL_ (some 74) rfl rfl Try.func14 (by kernel_rfl) rfl #[.pointer (some ⟨g, 0, none⟩), .slice At t.length ct] rfl (by (try simp only [List.map_toArray, List.map_cons, List.map_nil]); first | done | rfl | (simp [Act.eval, *]; done)) ?_; (with_reducible refine (Wire.bendq HI.out t At ct HT.out (by have := HTL.out; have := hq2.out; rw [List.length_replicate]; omega) (Wire.Own.fresh HB.out HI.out)).mono ?_); rintro e w7 ⟨rfl, hI, ho⟩; refine ⟨_, rfl, ?_⟩; have n0_ := Aside0.mk (ho.below (B := w.heap.size) (fun k hk => hk.elim (fun e => e ▸ HG.out) Wire.Own.low) HB.out HB.out.size); clear HB; have HB := n0_; clear n0_; clear hI ho)
  | ((with_reducible refine gate_callee (f := 11) rfl ?_); (try (refine gate_guard (by rfl) ?_; dsimp only)); refine goesL_ (some 102) rfl rfl Try.func11 (by kernel_rfl) rfl #[.pointer none, .bool on] rfl (by (try simp only [List.map_toArray, List.map_cons, List.map_nil]); first | done | rfl | (simp [Act.eval, *]; done)) ?_; (with_reducible refine (Wire.pass_nil on _).mono ?_); rintro e wz ⟨rfl, rfl⟩; refine ⟨_, rfl, ?_⟩)
  | ((with_reducible refine gate_callee (f := 14) rfl ?_); (try (refine gate_guard (by rfl) ?_; dsimp only)); refine goesL_ (some 108) rfl rfl Try.func14 (by kernel_rfl) rfl #[.pointer none, .slice none 0 0] rfl (by (try simp only [List.map_toArray, List.map_cons, List.map_nil]); first | done | rfl | (simp [Act.eval, *]; done)) ?_; (with_reducible refine (Wire.bend_nil (.slice none 0 0) _).mono ?_); rintro e wz ⟨rfl, rfl⟩; refine ⟨_, rfl, ?_⟩)
  | ((with_reducible refine gate_callee (f := 15) rfl ?_); (try (refine gate_guard (by rfl) ?_; dsimp only)); refine goesL_ (some 113) rfl rfl Try.func15 (by kernel_rfl) rfl #[.pointer none, .int .i64 9] rfl (by (try simp only [List.map_toArray, List.map_cons, List.map_nil]); first | done | rfl | (simp [Act.eval, *]; done)) ?_; (with_reducible refine (Wire.break_nil 9 _).mono ?_); rintro e wz ⟨rfl, rfl⟩; refine ⟨_, rfl, ?_⟩)
  | ((with_reducible refine gate_callee (f := 17) rfl ?_); (try (refine gate_guard (by rfl) ?_; dsimp only)); refine goesL_ (some 118) rfl rfl Try.func17 (by kernel_rfl) rfl #[.pointer none] rfl (by (try simp only [List.map_toArray, List.map_cons, List.map_nil]); first | done | rfl | (simp [Act.eval, *]; done)) ?_; (with_reducible refine (Wire.delay_nil _).mono ?_); rintro e wz ⟨rfl, rfl⟩; refine ⟨_, rfl, ?_⟩)
  | ((with_reducible refine gate_callee (f := 16) rfl ?_); (try (refine gate_guard (by rfl) ?_; dsimp only)); refine goesL_ (some 120) rfl rfl Try.func16 (by kernel_rfl) rfl #[.pointer none] rfl (by (try simp only [List.map_toArray, List.map_cons, List.map_nil]); first | done | rfl | (simp [Act.eval, *]; done)) ?_; (with_reducible refine (Wire.masked_nil _).mono ?_); rintro e wz ⟨rfl, rfl⟩; refine ⟨_, rfl, ?_⟩)
  | ((with_reducible refine gate_callee (f := 13) rfl ?_); (try (refine gate_guard (by rfl) ?_; dsimp only)); refine goesL_ (some 123) rfl rfl Try.func13 (by kernel_rfl) rfl #[.pointer none] rfl (by (try simp only [List.map_toArray, List.map_cons, List.map_nil]); first | done | rfl | (simp [Act.eval, *]; done)) ?_; (with_reducible refine (Wire.bent_nil _).mono ?_); rintro e wz ⟨rfl, rfl⟩; refine ⟨_, rfl, ?_⟩))
  go_ret
  exact ⟨rfl, HB.out⟩
set_option maxHeartbeats 8000000 in
set_option maxRecDepth 100000 in
theorem signalmanlaw20_WireBounds.w_hi_lo_yes (k : Nat) (a0 : Int) (hd : 65536 < a0) (a1 : Int) (hn : a1 < 7) (A : Option Addr) (c : Nat) (l : List Int) (t : List Bool) (on : Bool) (w : World) (hr : Kd.C (Kd.int .u8) w A l.length l) (hc : l.length ≤ c) (hl : l.length ≤ 100) (hE : 0 < l.length) (h : signalmanref01_Bits.f k l = some t) (ht : t.length = 8 * l.length) :
    Calls Try.prog 7 #[.int .i64 a0, .int .i64 a1, .slice A l.length c, .bool on] w fun e w' => e = .returned (.bool true) ∧ Below w.heap.size w w' := by
  have HB := Aside0.mk (Below.refl w.heap.size w)
  have HR := Aside0.mk hr
  have HC := Aside0.mk hc
  have HH := Aside0.mk h
  have HTL := Aside0.mk ht
  obtain ⟨q, hq0⟩ : ∃ q : Nat, q = 65530 := ⟨_, rfl⟩
  have hq := Aside0.mk (show q ≤ 65536 by omega)
  have hq2 := Aside0.mk hq0
  have hm : ∀ W : World, (Instr.makeSlice 41 (.int .i64 65530) (.int .i64 65530)).run Try.prog W = .ok (.slice (some ⟨W.heap.size, 0, none⟩) q q) (W.alloc (.cells (madeCells #[.bool false] q) 4)) := by
    have h_ := print_make_of (P := Try.prog) 41 4 (.bool false) 1 Try.underlying41 info4 rfl (by decide) q (by omega)
    have e_ : (q : Int) = 65530 := by omega
    rw [e_] at h_
    exact h_
  have d0 : decide ((100 : Int) < (l.length : Int)) = false := decide_eq_false (by omega)
  have d1 : decide (100 < l.length) = false := decide_eq_false (by omega)
  have d2 : decide ((0 : Int) ≤ a0) = true := decide_eq_true (by omega)
  have d3 : decide (a0 ≤ 65536) = false := decide_eq_false (by omega)
  have d4 : decide ((7 : Int) ≤ a1) = false := decide_eq_false (by omega)
  have d5 : decide (8 * (l.length : Int) ≤ 6) = false := decide_eq_false (by omega)
  have d6 : decide (8 * l.length ≤ 6) = false := decide_eq_false (by omega)
  clear hr hc h ht hq0
  go_enter Try.func7, Try.ntmps7
  go_wp2_with (first
  | ((with_reducible refine gate_callee (f := 8) rfl ?_); refine goesL_ (some 20) rfl rfl Try.func8 (by kernel_rfl) rfl #[] rfl (by (try simp only [List.map_toArray, List.map_cons, List.map_nil]); first | done | rfl | (simp [Act.eval, *]; done)) ?_; (with_reducible refine (Wire.awake_calls _).mono ?_); rintro e w9 ⟨rfl, hb⟩; refine ⟨_, rfl, ?_⟩; have n0_ := Aside0.mk (below_step HB.out hb); clear HB; have HB := n0_; clear n0_; clear hb)
  | ((with_reducible refine gate_callee (f := 9) rfl ?_); refine goesL_ (some 30) rfl rfl Try.func9 (by kernel_rfl) rfl #[.int .i64 a0] rfl (by (try simp only [List.map_toArray, List.map_cons, List.map_nil]); first | done | rfl | (simp [Act.eval, *]; done)) ?_; (with_reducible refine (Wire.new_hi a0 hd _).mono ?_); rintro e w1 ⟨rfl, rfl⟩; refine ⟨_, rfl, ?_⟩)
  | ((with_reducible refine gate_callee (f := 9) rfl ?_); refine goesL_ (some 50) rfl rfl Try.func9 (by kernel_rfl) rfl #[.int .i64 3] rfl (by (try simp only [List.map_toArray, List.map_cons, List.map_nil]); first | done | rfl | (simp [Act.eval, *]; done)) ?_; (with_reducible refine (Wire.new_bare3 _).mono ?_); rintro e w2 ⟨g, gl, rfl, hg, hgl, hI, hb⟩; refine ⟨_, rfl, ?_⟩; have HG := Aside0.mk (Nat.le_trans HB.out.size hg); have HL := Aside0.mk (Nat.le_trans HB.out.size hgl); have HI := Aside0.mk (hI.isq (Wire.Own w.heap.size g gl) (fun k hk => Wire.Own.apart hk)); have n0_ := Aside0.mk (below_step HB.out hb); clear HB; have HB := n0_; clear n0_; clear hg hgl hI hb)
  | ((with_reducible refine gate_callee (f := 15) rfl ?_); refine goesL_ (some 55) rfl rfl Try.func15 (by kernel_rfl) rfl #[.pointer (some ⟨g, 0, none⟩), .int .i64 a1] rfl (by (try simp only [List.map_toArray, List.map_cons, List.map_nil]); first | done | rfl | (simp [Act.eval, *]; done)) ?_; (with_reducible refine (Wire.break_lo ⟨g, 0, none⟩ a1 hn _).mono ?_); rintro e w3 ⟨rfl, rfl⟩; refine ⟨_, rfl, ?_⟩)
  | ((with_reducible refine gate_callee (f := 15) rfl ?_); refine goesL_ (some 67) rfl rfl Try.func15 (by kernel_rfl) rfl #[.pointer (some ⟨g, 0, none⟩), .int .i64 65536] rfl (by (try simp only [List.map_toArray, List.map_cons, List.map_nil]); first | done | rfl | (simp [Act.eval, *]; done)) ?_; (with_reducible refine (Wire.break_mostq HI.out).mono ?_); rintro e w4 ⟨rfl, hI, ho⟩; refine ⟨_, rfl, ?_⟩; have n0_ := Aside0.mk (ho.below (B := w.heap.size) (fun k hk => hk ▸ HG.out) HB.out HB.out.size); have n1_ := Aside0.mk (hI); clear HB HI; have HB := n0_; have HI := n1_; clear n0_ n1_; clear hI ho)
  | ((with_reducible refine gate_callee (f := 14) rfl ?_); refine goesL_ (some 70) rfl rfl Try.func14 (by kernel_rfl) rfl #[.pointer (some ⟨g, 0, none⟩), .slice (some ⟨w4.heap.size, 0, none⟩) q q] rfl (by (try simp only [List.map_toArray, List.map_cons, List.map_nil]); first | done | rfl | (simp [Act.eval, *]; done)) ?_; (with_reducible refine (Wire.bend_madeq (w := w4) q hq.out HI.out (Wire.Own.fresh HB.out HI.out)).mono ?_); rintro e w5 ⟨rfl, hI, ho⟩; refine ⟨_, rfl, ?_⟩; have n0_ := Aside0.mk (ho.below (B := w.heap.size) (fun k hk => hk.elim (fun e => e ▸ HG.out) Wire.Own.low) (below_alloc HB.out _) (below_alloc HB.out _).size); have n1_ := Aside0.mk (hI); clear HB HI; have HB := n0_; have HI := n1_; clear n0_ n1_; clear hI ho)
  | ((with_reducible refine gate_callee (f := 10) rfl ?_); refine goesL_ (some 73) rfl rfl Try.func10 (by kernel_rfl) rfl #[.slice A l.length c] rfl (by (try simp only [List.map_toArray, List.map_cons, List.map_nil]); first | done | rfl | (simp [Act.eval, *]; done)) ?_; (with_reducible refine (signalmanref01_Bits.calls k A c l t _ (Kd.C_below HR.out HB.out) HC.out HH.out).mono ?_); rintro e w6 ⟨v, rfl, ho, hb⟩; refine ⟨_, rfl, ?_⟩; obtain ⟨At, ct, rfl, hct, hrt, hft⟩ := Wire.fresh_reads ho; have HT := Aside0.mk hrt; have n0_ := Aside0.mk (Wire.Isq.below HI.out hb); have n1_ := Aside0.mk (below_step HB.out hb); clear HI HB; have HI := n0_; have HB := n1_; clear n0_ n1_; clear ho hb hct hrt hft)
  | ((with_reducible refine gate_callee (f := 14) rfl ?_); refine goesL_ (some 74) rfl rfl Try.func14 (by kernel_rfl) rfl #[.pointer (some ⟨g, 0, none⟩), .slice At t.length ct] rfl (by (try simp only [List.map_toArray, List.map_cons, List.map_nil]); first | done | rfl | (simp [Act.eval, *]; done)) ?_; (with_reducible refine (Wire.bend_fullq HI.out At t.length ct (by have := HTL.out; have := hq2.out; rw [List.length_replicate]; omega) (by have := hq2.out; rw [List.length_replicate]; omega) (by have := HTL.out; omega)).mono ?_); rintro e w7 ⟨rfl, rfl⟩; refine ⟨_, rfl, ?_⟩)
  | ((with_reducible refine gate_callee (f := 11) rfl ?_); (try (refine gate_guard (by rfl) ?_; dsimp only)); refine goesL_ (some 102) rfl rfl Try.func11 (by kernel_rfl) rfl #[.pointer none, .bool on] rfl (by (try simp only [List.map_toArray, List.map_cons, List.map_nil]); first | done | rfl | (simp [Act.eval, *]; done)) ?_; (with_reducible refine (Wire.pass_nil on _).mono ?_); rintro e wz ⟨rfl, rfl⟩; refine ⟨_, rfl, ?_⟩)
  | ((with_reducible refine gate_callee (f := 14) rfl ?_); (try (refine gate_guard (by rfl) ?_; dsimp only)); refine goesL_ (some 108) rfl rfl Try.func14 (by kernel_rfl) rfl #[.pointer none, .slice none 0 0] rfl (by (try simp only [List.map_toArray, List.map_cons, List.map_nil]); first | done | rfl | (simp [Act.eval, *]; done)) ?_; (with_reducible refine (Wire.bend_nil (.slice none 0 0) _).mono ?_); rintro e wz ⟨rfl, rfl⟩; refine ⟨_, rfl, ?_⟩)
  | ((with_reducible refine gate_callee (f := 15) rfl ?_); (try (refine gate_guard (by rfl) ?_; dsimp only)); refine goesL_ (some 113) rfl rfl Try.func15 (by kernel_rfl) rfl #[.pointer none, .int .i64 9] rfl (by (try simp only [List.map_toArray, List.map_cons, List.map_nil]); first | done | rfl | (simp [Act.eval, *]; done)) ?_; (with_reducible refine (Wire.break_nil 9 _).mono ?_); rintro e wz ⟨rfl, rfl⟩; refine ⟨_, rfl, ?_⟩)
  | ((with_reducible refine gate_callee (f := 17) rfl ?_); (try (refine gate_guard (by rfl) ?_; dsimp only)); refine goesL_ (some 118) rfl rfl Try.func17 (by kernel_rfl) rfl #[.pointer none] rfl (by (try simp only [List.map_toArray, List.map_cons, List.map_nil]); first | done | rfl | (simp [Act.eval, *]; done)) ?_; (with_reducible refine (Wire.delay_nil _).mono ?_); rintro e wz ⟨rfl, rfl⟩; refine ⟨_, rfl, ?_⟩)
  | ((with_reducible refine gate_callee (f := 16) rfl ?_); (try (refine gate_guard (by rfl) ?_; dsimp only)); refine goesL_ (some 120) rfl rfl Try.func16 (by kernel_rfl) rfl #[.pointer none] rfl (by (try simp only [List.map_toArray, List.map_cons, List.map_nil]); first | done | rfl | (simp [Act.eval, *]; done)) ?_; (with_reducible refine (Wire.masked_nil _).mono ?_); rintro e wz ⟨rfl, rfl⟩; refine ⟨_, rfl, ?_⟩)
  | ((with_reducible refine gate_callee (f := 13) rfl ?_); (try (refine gate_guard (by rfl) ?_; dsimp only)); refine goesL_ (some 123) rfl rfl Try.func13 (by kernel_rfl) rfl #[.pointer none] rfl (by (try simp only [List.map_toArray, List.map_cons, List.map_nil]); first | done | rfl | (simp [Act.eval, *]; done)) ?_; (with_reducible refine (Wire.bent_nil _).mono ?_); rintro e wz ⟨rfl, rfl⟩; refine ⟨_, rfl, ?_⟩))
  go_ret
  exact ⟨rfl, HB.out⟩
set_option maxHeartbeats 8000000 in
set_option maxRecDepth 100000 in
theorem signalmanlaw20_WireBounds.w_hi_hi_no (k : Nat) (a0 : Int) (hd : 65536 < a0) (a1 : Int) (hn : 65536 < a1) (A : Option Addr) (c : Nat) (l : List Int) (t : List Bool) (on : Bool) (w : World) (hr : Kd.C (Kd.int .u8) w A l.length l) (hc : l.length ≤ c) (hl : l.length ≤ 100) (hE : l.length < 1) (h : signalmanref01_Bits.f k l = some t) (ht : t.length = 8 * l.length) :
    Calls Try.prog 7 #[.int .i64 a0, .int .i64 a1, .slice A l.length c, .bool on] w fun e w' => e = .returned (.bool true) ∧ Below w.heap.size w w' := by
  have HB := Aside0.mk (Below.refl w.heap.size w)
  have HR := Aside0.mk hr
  have HC := Aside0.mk hc
  have HH := Aside0.mk h
  have HTL := Aside0.mk ht
  obtain ⟨q, hq0⟩ : ∃ q : Nat, q = 65530 := ⟨_, rfl⟩
  have hq := Aside0.mk (show q ≤ 65536 by omega)
  have hq2 := Aside0.mk hq0
  have hm : ∀ W : World, (Instr.makeSlice 41 (.int .i64 65530) (.int .i64 65530)).run Try.prog W = .ok (.slice (some ⟨W.heap.size, 0, none⟩) q q) (W.alloc (.cells (madeCells #[.bool false] q) 4)) := by
    have h_ := print_make_of (P := Try.prog) 41 4 (.bool false) 1 Try.underlying41 info4 rfl (by decide) q (by omega)
    have e_ : (q : Int) = 65530 := by omega
    rw [e_] at h_
    exact h_
  have d0 : decide ((100 : Int) < (l.length : Int)) = false := decide_eq_false (by omega)
  have d1 : decide (100 < l.length) = false := decide_eq_false (by omega)
  have d2 : decide ((0 : Int) ≤ a0) = true := decide_eq_true (by omega)
  have d3 : decide (a0 ≤ 65536) = false := decide_eq_false (by omega)
  have d4 : decide ((7 : Int) ≤ a1) = true := decide_eq_true (by omega)
  have d5 : decide (a1 ≤ 65536) = false := decide_eq_false (by omega)
  have d6 : decide (8 * (l.length : Int) ≤ 6) = true := decide_eq_true (by omega)
  have d7 : decide (8 * l.length ≤ 6) = true := decide_eq_true (by omega)
  clear hr hc h ht hq0
  go_enter Try.func7, Try.ntmps7
  go_wp2_with (first
  | ((with_reducible refine gate_callee (f := 8) rfl ?_); refine goesL_ (some 20) rfl rfl Try.func8 (by kernel_rfl) rfl #[] rfl (by (try simp only [List.map_toArray, List.map_cons, List.map_nil]); first | done | rfl | (simp [Act.eval, *]; done)) ?_; (with_reducible refine (Wire.awake_calls _).mono ?_); rintro e w9 ⟨rfl, hb⟩; refine ⟨_, rfl, ?_⟩; have n0_ := Aside0.mk (below_step HB.out hb); clear HB; have HB := n0_; clear n0_; clear hb)
  | ((with_reducible refine gate_callee (f := 9) rfl ?_); refine goesL_ (some 30) rfl rfl Try.func9 (by kernel_rfl) rfl #[.int .i64 a0] rfl (by (try simp only [List.map_toArray, List.map_cons, List.map_nil]); first | done | rfl | (simp [Act.eval, *]; done)) ?_; (with_reducible refine (Wire.new_hi a0 hd _).mono ?_); rintro e w1 ⟨rfl, rfl⟩; refine ⟨_, rfl, ?_⟩)
  | ((with_reducible refine gate_callee (f := 9) rfl ?_); refine goesL_ (some 50) rfl rfl Try.func9 (by kernel_rfl) rfl #[.int .i64 3] rfl (by (try simp only [List.map_toArray, List.map_cons, List.map_nil]); first | done | rfl | (simp [Act.eval, *]; done)) ?_; (with_reducible refine (Wire.new_bare3 _).mono ?_); rintro e w2 ⟨g, gl, rfl, hg, hgl, hI, hb⟩; refine ⟨_, rfl, ?_⟩; have HG := Aside0.mk (Nat.le_trans HB.out.size hg); have HL := Aside0.mk (Nat.le_trans HB.out.size hgl); have HI := Aside0.mk (hI.isq (Wire.Own w.heap.size g gl) (fun k hk => Wire.Own.apart hk)); have n0_ := Aside0.mk (below_step HB.out hb); clear HB; have HB := n0_; clear n0_; clear hg hgl hI hb)
  | ((with_reducible refine gate_callee (f := 15) rfl ?_); refine goesL_ (some 55) rfl rfl Try.func15 (by kernel_rfl) rfl #[.pointer (some ⟨g, 0, none⟩), .int .i64 a1] rfl (by (try simp only [List.map_toArray, List.map_cons, List.map_nil]); first | done | rfl | (simp [Act.eval, *]; done)) ?_; (with_reducible refine (Wire.break_hi ⟨g, 0, none⟩ a1 hn _).mono ?_); rintro e w3 ⟨rfl, rfl⟩; refine ⟨_, rfl, ?_⟩)
  | ((with_reducible refine gate_callee (f := 15) rfl ?_); refine goesL_ (some 67) rfl rfl Try.func15 (by kernel_rfl) rfl #[.pointer (some ⟨g, 0, none⟩), .int .i64 65536] rfl (by (try simp only [List.map_toArray, List.map_cons, List.map_nil]); first | done | rfl | (simp [Act.eval, *]; done)) ?_; (with_reducible refine (Wire.break_mostq HI.out).mono ?_); rintro e w4 ⟨rfl, hI, ho⟩; refine ⟨_, rfl, ?_⟩; have n0_ := Aside0.mk (ho.below (B := w.heap.size) (fun k hk => hk ▸ HG.out) HB.out HB.out.size); have n1_ := Aside0.mk (hI); clear HB HI; have HB := n0_; have HI := n1_; clear n0_ n1_; clear hI ho)
  | ((with_reducible refine gate_callee (f := 14) rfl ?_); refine goesL_ (some 70) rfl rfl Try.func14 (by kernel_rfl) rfl #[.pointer (some ⟨g, 0, none⟩), .slice (some ⟨w4.heap.size, 0, none⟩) q q] rfl (by (try simp only [List.map_toArray, List.map_cons, List.map_nil]); first | done | rfl | (simp [Act.eval, *]; done)) ?_; (with_reducible refine (Wire.bend_madeq (w := w4) q hq.out HI.out (Wire.Own.fresh HB.out HI.out)).mono ?_); rintro e w5 ⟨rfl, hI, ho⟩; refine ⟨_, rfl, ?_⟩; have n0_ := Aside0.mk (ho.below (B := w.heap.size) (fun k hk => hk.elim (fun e => e ▸ HG.out) Wire.Own.low) (below_alloc HB.out _) (below_alloc HB.out _).size); have n1_ := Aside0.mk (hI); clear HB HI; have HB := n0_; have HI := n1_; clear n0_ n1_; clear hI ho)
  | ((with_reducible refine gate_callee (f := 10) rfl ?_); refine goesL_ (some 73) rfl rfl Try.func10 (by kernel_rfl) rfl #[.slice A l.length c] rfl (by (try simp only [List.map_toArray, List.map_cons, List.map_nil]); first | done | rfl | (simp [Act.eval, *]; done)) ?_; (with_reducible refine (signalmanref01_Bits.calls k A c l t _ (Kd.C_below HR.out HB.out) HC.out HH.out).mono ?_); rintro e w6 ⟨v, rfl, ho, hb⟩; refine ⟨_, rfl, ?_⟩; obtain ⟨At, ct, rfl, hct, hrt, hft⟩ := Wire.fresh_reads ho; have HT := Aside0.mk hrt; have n0_ := Aside0.mk (Wire.Isq.below HI.out hb); have n1_ := Aside0.mk (below_step HB.out hb); clear HI HB; have HI := n0_; have HB := n1_; clear n0_ n1_; clear ho hb hct hrt hft)
  | ((with_reducible refine gate_callee (f := 14) rfl ?_); refine goesL_ (some 74) rfl rfl Try.func14 (by kernel_rfl) rfl #[.pointer (some ⟨g, 0, none⟩), .slice At t.length ct] rfl (by (try simp only [List.map_toArray, List.map_cons, List.map_nil]); first | done | rfl | (simp [Act.eval, *]; done)) ?_; (with_reducible refine (Wire.bendq HI.out t At ct HT.out (by have := HTL.out; have := hq2.out; rw [List.length_replicate]; omega) (Wire.Own.fresh HB.out HI.out)).mono ?_); rintro e w7 ⟨rfl, hI, ho⟩; refine ⟨_, rfl, ?_⟩; have n0_ := Aside0.mk (ho.below (B := w.heap.size) (fun k hk => hk.elim (fun e => e ▸ HG.out) Wire.Own.low) HB.out HB.out.size); clear HB; have HB := n0_; clear n0_; clear hI ho)
  | ((with_reducible refine gate_callee (f := 11) rfl ?_); (try (refine gate_guard (by rfl) ?_; dsimp only)); refine goesL_ (some 102) rfl rfl Try.func11 (by kernel_rfl) rfl #[.pointer none, .bool on] rfl (by (try simp only [List.map_toArray, List.map_cons, List.map_nil]); first | done | rfl | (simp [Act.eval, *]; done)) ?_; (with_reducible refine (Wire.pass_nil on _).mono ?_); rintro e wz ⟨rfl, rfl⟩; refine ⟨_, rfl, ?_⟩)
  | ((with_reducible refine gate_callee (f := 14) rfl ?_); (try (refine gate_guard (by rfl) ?_; dsimp only)); refine goesL_ (some 108) rfl rfl Try.func14 (by kernel_rfl) rfl #[.pointer none, .slice none 0 0] rfl (by (try simp only [List.map_toArray, List.map_cons, List.map_nil]); first | done | rfl | (simp [Act.eval, *]; done)) ?_; (with_reducible refine (Wire.bend_nil (.slice none 0 0) _).mono ?_); rintro e wz ⟨rfl, rfl⟩; refine ⟨_, rfl, ?_⟩)
  | ((with_reducible refine gate_callee (f := 15) rfl ?_); (try (refine gate_guard (by rfl) ?_; dsimp only)); refine goesL_ (some 113) rfl rfl Try.func15 (by kernel_rfl) rfl #[.pointer none, .int .i64 9] rfl (by (try simp only [List.map_toArray, List.map_cons, List.map_nil]); first | done | rfl | (simp [Act.eval, *]; done)) ?_; (with_reducible refine (Wire.break_nil 9 _).mono ?_); rintro e wz ⟨rfl, rfl⟩; refine ⟨_, rfl, ?_⟩)
  | ((with_reducible refine gate_callee (f := 17) rfl ?_); (try (refine gate_guard (by rfl) ?_; dsimp only)); refine goesL_ (some 118) rfl rfl Try.func17 (by kernel_rfl) rfl #[.pointer none] rfl (by (try simp only [List.map_toArray, List.map_cons, List.map_nil]); first | done | rfl | (simp [Act.eval, *]; done)) ?_; (with_reducible refine (Wire.delay_nil _).mono ?_); rintro e wz ⟨rfl, rfl⟩; refine ⟨_, rfl, ?_⟩)
  | ((with_reducible refine gate_callee (f := 16) rfl ?_); (try (refine gate_guard (by rfl) ?_; dsimp only)); refine goesL_ (some 120) rfl rfl Try.func16 (by kernel_rfl) rfl #[.pointer none] rfl (by (try simp only [List.map_toArray, List.map_cons, List.map_nil]); first | done | rfl | (simp [Act.eval, *]; done)) ?_; (with_reducible refine (Wire.masked_nil _).mono ?_); rintro e wz ⟨rfl, rfl⟩; refine ⟨_, rfl, ?_⟩)
  | ((with_reducible refine gate_callee (f := 13) rfl ?_); (try (refine gate_guard (by rfl) ?_; dsimp only)); refine goesL_ (some 123) rfl rfl Try.func13 (by kernel_rfl) rfl #[.pointer none] rfl (by (try simp only [List.map_toArray, List.map_cons, List.map_nil]); first | done | rfl | (simp [Act.eval, *]; done)) ?_; (with_reducible refine (Wire.bent_nil _).mono ?_); rintro e wz ⟨rfl, rfl⟩; refine ⟨_, rfl, ?_⟩))
  go_ret
  exact ⟨rfl, HB.out⟩
set_option maxHeartbeats 8000000 in
set_option maxRecDepth 100000 in
theorem signalmanlaw20_WireBounds.w_hi_hi_yes (k : Nat) (a0 : Int) (hd : 65536 < a0) (a1 : Int) (hn : 65536 < a1) (A : Option Addr) (c : Nat) (l : List Int) (t : List Bool) (on : Bool) (w : World) (hr : Kd.C (Kd.int .u8) w A l.length l) (hc : l.length ≤ c) (hl : l.length ≤ 100) (hE : 0 < l.length) (h : signalmanref01_Bits.f k l = some t) (ht : t.length = 8 * l.length) :
    Calls Try.prog 7 #[.int .i64 a0, .int .i64 a1, .slice A l.length c, .bool on] w fun e w' => e = .returned (.bool true) ∧ Below w.heap.size w w' := by
  have HB := Aside0.mk (Below.refl w.heap.size w)
  have HR := Aside0.mk hr
  have HC := Aside0.mk hc
  have HH := Aside0.mk h
  have HTL := Aside0.mk ht
  obtain ⟨q, hq0⟩ : ∃ q : Nat, q = 65530 := ⟨_, rfl⟩
  have hq := Aside0.mk (show q ≤ 65536 by omega)
  have hq2 := Aside0.mk hq0
  have hm : ∀ W : World, (Instr.makeSlice 41 (.int .i64 65530) (.int .i64 65530)).run Try.prog W = .ok (.slice (some ⟨W.heap.size, 0, none⟩) q q) (W.alloc (.cells (madeCells #[.bool false] q) 4)) := by
    have h_ := print_make_of (P := Try.prog) 41 4 (.bool false) 1 Try.underlying41 info4 rfl (by decide) q (by omega)
    have e_ : (q : Int) = 65530 := by omega
    rw [e_] at h_
    exact h_
  have d0 : decide ((100 : Int) < (l.length : Int)) = false := decide_eq_false (by omega)
  have d1 : decide (100 < l.length) = false := decide_eq_false (by omega)
  have d2 : decide ((0 : Int) ≤ a0) = true := decide_eq_true (by omega)
  have d3 : decide (a0 ≤ 65536) = false := decide_eq_false (by omega)
  have d4 : decide ((7 : Int) ≤ a1) = true := decide_eq_true (by omega)
  have d5 : decide (a1 ≤ 65536) = false := decide_eq_false (by omega)
  have d6 : decide (8 * (l.length : Int) ≤ 6) = false := decide_eq_false (by omega)
  have d7 : decide (8 * l.length ≤ 6) = false := decide_eq_false (by omega)
  clear hr hc h ht hq0
  go_enter Try.func7, Try.ntmps7
  go_wp2_with (first
  | ((with_reducible refine gate_callee (f := 8) rfl ?_); refine goesL_ (some 20) rfl rfl Try.func8 (by kernel_rfl) rfl #[] rfl (by (try simp only [List.map_toArray, List.map_cons, List.map_nil]); first | done | rfl | (simp [Act.eval, *]; done)) ?_; (with_reducible refine (Wire.awake_calls _).mono ?_); rintro e w9 ⟨rfl, hb⟩; refine ⟨_, rfl, ?_⟩; have n0_ := Aside0.mk (below_step HB.out hb); clear HB; have HB := n0_; clear n0_; clear hb)
  | ((with_reducible refine gate_callee (f := 9) rfl ?_); refine goesL_ (some 30) rfl rfl Try.func9 (by kernel_rfl) rfl #[.int .i64 a0] rfl (by (try simp only [List.map_toArray, List.map_cons, List.map_nil]); first | done | rfl | (simp [Act.eval, *]; done)) ?_; (with_reducible refine (Wire.new_hi a0 hd _).mono ?_); rintro e w1 ⟨rfl, rfl⟩; refine ⟨_, rfl, ?_⟩)
  | ((with_reducible refine gate_callee (f := 9) rfl ?_); refine goesL_ (some 50) rfl rfl Try.func9 (by kernel_rfl) rfl #[.int .i64 3] rfl (by (try simp only [List.map_toArray, List.map_cons, List.map_nil]); first | done | rfl | (simp [Act.eval, *]; done)) ?_; (with_reducible refine (Wire.new_bare3 _).mono ?_); rintro e w2 ⟨g, gl, rfl, hg, hgl, hI, hb⟩; refine ⟨_, rfl, ?_⟩; have HG := Aside0.mk (Nat.le_trans HB.out.size hg); have HL := Aside0.mk (Nat.le_trans HB.out.size hgl); have HI := Aside0.mk (hI.isq (Wire.Own w.heap.size g gl) (fun k hk => Wire.Own.apart hk)); have n0_ := Aside0.mk (below_step HB.out hb); clear HB; have HB := n0_; clear n0_; clear hg hgl hI hb)
  | ((with_reducible refine gate_callee (f := 15) rfl ?_); refine goesL_ (some 55) rfl rfl Try.func15 (by kernel_rfl) rfl #[.pointer (some ⟨g, 0, none⟩), .int .i64 a1] rfl (by (try simp only [List.map_toArray, List.map_cons, List.map_nil]); first | done | rfl | (simp [Act.eval, *]; done)) ?_; (with_reducible refine (Wire.break_hi ⟨g, 0, none⟩ a1 hn _).mono ?_); rintro e w3 ⟨rfl, rfl⟩; refine ⟨_, rfl, ?_⟩)
  | ((with_reducible refine gate_callee (f := 15) rfl ?_); refine goesL_ (some 67) rfl rfl Try.func15 (by kernel_rfl) rfl #[.pointer (some ⟨g, 0, none⟩), .int .i64 65536] rfl (by (try simp only [List.map_toArray, List.map_cons, List.map_nil]); first | done | rfl | (simp [Act.eval, *]; done)) ?_; (with_reducible refine (Wire.break_mostq HI.out).mono ?_); rintro e w4 ⟨rfl, hI, ho⟩; refine ⟨_, rfl, ?_⟩; have n0_ := Aside0.mk (ho.below (B := w.heap.size) (fun k hk => hk ▸ HG.out) HB.out HB.out.size); have n1_ := Aside0.mk (hI); clear HB HI; have HB := n0_; have HI := n1_; clear n0_ n1_; clear hI ho)
  | ((with_reducible refine gate_callee (f := 14) rfl ?_); refine goesL_ (some 70) rfl rfl Try.func14 (by kernel_rfl) rfl #[.pointer (some ⟨g, 0, none⟩), .slice (some ⟨w4.heap.size, 0, none⟩) q q] rfl (by (try simp only [List.map_toArray, List.map_cons, List.map_nil]); first | done | rfl | (simp [Act.eval, *]; done)) ?_; (with_reducible refine (Wire.bend_madeq (w := w4) q hq.out HI.out (Wire.Own.fresh HB.out HI.out)).mono ?_); rintro e w5 ⟨rfl, hI, ho⟩; refine ⟨_, rfl, ?_⟩; have n0_ := Aside0.mk (ho.below (B := w.heap.size) (fun k hk => hk.elim (fun e => e ▸ HG.out) Wire.Own.low) (below_alloc HB.out _) (below_alloc HB.out _).size); have n1_ := Aside0.mk (hI); clear HB HI; have HB := n0_; have HI := n1_; clear n0_ n1_; clear hI ho)
  | ((with_reducible refine gate_callee (f := 10) rfl ?_); refine goesL_ (some 73) rfl rfl Try.func10 (by kernel_rfl) rfl #[.slice A l.length c] rfl (by (try simp only [List.map_toArray, List.map_cons, List.map_nil]); first | done | rfl | (simp [Act.eval, *]; done)) ?_; (with_reducible refine (signalmanref01_Bits.calls k A c l t _ (Kd.C_below HR.out HB.out) HC.out HH.out).mono ?_); rintro e w6 ⟨v, rfl, ho, hb⟩; refine ⟨_, rfl, ?_⟩; obtain ⟨At, ct, rfl, hct, hrt, hft⟩ := Wire.fresh_reads ho; have HT := Aside0.mk hrt; have n0_ := Aside0.mk (Wire.Isq.below HI.out hb); have n1_ := Aside0.mk (below_step HB.out hb); clear HI HB; have HI := n0_; have HB := n1_; clear n0_ n1_; clear ho hb hct hrt hft)
  | ((with_reducible refine gate_callee (f := 14) rfl ?_); refine goesL_ (some 74) rfl rfl Try.func14 (by kernel_rfl) rfl #[.pointer (some ⟨g, 0, none⟩), .slice At t.length ct] rfl (by (try simp only [List.map_toArray, List.map_cons, List.map_nil]); first | done | rfl | (simp [Act.eval, *]; done)) ?_; (with_reducible refine (Wire.bend_fullq HI.out At t.length ct (by have := HTL.out; have := hq2.out; rw [List.length_replicate]; omega) (by have := hq2.out; rw [List.length_replicate]; omega) (by have := HTL.out; omega)).mono ?_); rintro e w7 ⟨rfl, rfl⟩; refine ⟨_, rfl, ?_⟩)
  | ((with_reducible refine gate_callee (f := 11) rfl ?_); (try (refine gate_guard (by rfl) ?_; dsimp only)); refine goesL_ (some 102) rfl rfl Try.func11 (by kernel_rfl) rfl #[.pointer none, .bool on] rfl (by (try simp only [List.map_toArray, List.map_cons, List.map_nil]); first | done | rfl | (simp [Act.eval, *]; done)) ?_; (with_reducible refine (Wire.pass_nil on _).mono ?_); rintro e wz ⟨rfl, rfl⟩; refine ⟨_, rfl, ?_⟩)
  | ((with_reducible refine gate_callee (f := 14) rfl ?_); (try (refine gate_guard (by rfl) ?_; dsimp only)); refine goesL_ (some 108) rfl rfl Try.func14 (by kernel_rfl) rfl #[.pointer none, .slice none 0 0] rfl (by (try simp only [List.map_toArray, List.map_cons, List.map_nil]); first | done | rfl | (simp [Act.eval, *]; done)) ?_; (with_reducible refine (Wire.bend_nil (.slice none 0 0) _).mono ?_); rintro e wz ⟨rfl, rfl⟩; refine ⟨_, rfl, ?_⟩)
  | ((with_reducible refine gate_callee (f := 15) rfl ?_); (try (refine gate_guard (by rfl) ?_; dsimp only)); refine goesL_ (some 113) rfl rfl Try.func15 (by kernel_rfl) rfl #[.pointer none, .int .i64 9] rfl (by (try simp only [List.map_toArray, List.map_cons, List.map_nil]); first | done | rfl | (simp [Act.eval, *]; done)) ?_; (with_reducible refine (Wire.break_nil 9 _).mono ?_); rintro e wz ⟨rfl, rfl⟩; refine ⟨_, rfl, ?_⟩)
  | ((with_reducible refine gate_callee (f := 17) rfl ?_); (try (refine gate_guard (by rfl) ?_; dsimp only)); refine goesL_ (some 118) rfl rfl Try.func17 (by kernel_rfl) rfl #[.pointer none] rfl (by (try simp only [List.map_toArray, List.map_cons, List.map_nil]); first | done | rfl | (simp [Act.eval, *]; done)) ?_; (with_reducible refine (Wire.delay_nil _).mono ?_); rintro e wz ⟨rfl, rfl⟩; refine ⟨_, rfl, ?_⟩)
  | ((with_reducible refine gate_callee (f := 16) rfl ?_); (try (refine gate_guard (by rfl) ?_; dsimp only)); refine goesL_ (some 120) rfl rfl Try.func16 (by kernel_rfl) rfl #[.pointer none] rfl (by (try simp only [List.map_toArray, List.map_cons, List.map_nil]); first | done | rfl | (simp [Act.eval, *]; done)) ?_; (with_reducible refine (Wire.masked_nil _).mono ?_); rintro e wz ⟨rfl, rfl⟩; refine ⟨_, rfl, ?_⟩)
  | ((with_reducible refine gate_callee (f := 13) rfl ?_); (try (refine gate_guard (by rfl) ?_; dsimp only)); refine goesL_ (some 123) rfl rfl Try.func13 (by kernel_rfl) rfl #[.pointer none] rfl (by (try simp only [List.map_toArray, List.map_cons, List.map_nil]); first | done | rfl | (simp [Act.eval, *]; done)) ?_; (with_reducible refine (Wire.bent_nil _).mono ?_); rintro e wz ⟨rfl, rfl⟩; refine ⟨_, rfl, ?_⟩))
  go_ret
  exact ⟨rfl, HB.out⟩
def signalmanlaw20_WireBounds.Pure : Prop := ∀ (l : List Int), l.length ≤ 100 → (∀ x ∈ l, (Lit.int .u8 x).wf = true) → ∃ k t, signalmanref01_Bits.f k l = some t ∧ t.length = 8 * l.length
theorem signalmanlaw20_WireBounds.walk (P : signalmanlaw20_WireBounds.Pure) (a0 a1 : Int) (a2 : Option Addr) (len2 cap2 : Nat) (z2 : List Int) (a3 : Bool) (w : World) (w0 : (Lit.int .i64 a0).wf = true) (w1 : (Lit.int .i64 a1).wf = true) (w2 : (a2 = none ∧ len2 = 0 ∧ cap2 = 0 ∧ z2 = []) ∨ ∃ x, a2 = some x ∧ len2 ≤ cap2 ∧ cap2 ≤ maxLen ∧ z2.length = cap2 ∧ (∀ i, i < z2.length → w.cell? (x.add i) = some (.int .u8 (z2.getD i 0))) ∧ ∀ n ∈ z2, (Lit.int .u8 n).wf = true) (y2 : len2 * 1 ≤ 140737488351232) :
    Calls Try.prog 7 #[.int .i64 a0, .int .i64 a1, .slice a2 len2 cap2, .bool a3] w fun e w' => e = .returned (.bool true) ∧ Below w.heap.size w w' := by
  obtain ⟨l2, rfl, hr2, hm2, hw2, hc2⟩ := ReadsInt.ofRowC w2
  have hC := Kd.C_of_reads (d := (0 : Int)) (h1 := fun _ => rfl) hr2
  by_cases hl : l2.length ≤ 100
  · obtain ⟨k, t, ht, htl⟩ := P l2 hl hw2
    by_cases hd : a0 < 0
    · skip
      by_cases hn : a1 < 7
      · skip
        by_cases hE : l2.length < 1
        · exact signalmanlaw20_WireBounds.w_lo_lo_no k a0 hd a1 hn _ _ l2 t a3 w hC hc2 hl hE ht htl
        · exact signalmanlaw20_WireBounds.w_lo_lo_yes k a0 hd a1 hn _ _ l2 t a3 w hC hc2 hl (by omega) ht htl
      · by_cases hn0 : a1 ≤ 65536
        · obtain ⟨n, rfl⟩ := Int.eq_ofNat_of_zero_le (show 0 ≤ a1 by omega)
          have hn1 : 7 ≤ n := by omega
          have hn2 : n ≤ 65536 := by omega
          by_cases hE : l2.length < 1
          · exact signalmanlaw20_WireBounds.w_lo_ok_no k a0 hd n hn1 hn2 _ _ l2 t a3 w hC hc2 hl hE ht htl
          · exact signalmanlaw20_WireBounds.w_lo_ok_yes k a0 hd n hn1 hn2 _ _ l2 t a3 w hC hc2 hl (by omega) ht htl
        · skip
          by_cases hE : l2.length < 1
          · exact signalmanlaw20_WireBounds.w_lo_hi_no k a0 hd a1 (by omega) _ _ l2 t a3 w hC hc2 hl hE ht htl
          · exact signalmanlaw20_WireBounds.w_lo_hi_yes k a0 hd a1 (by omega) _ _ l2 t a3 w hC hc2 hl (by omega) ht htl
    · by_cases hd0 : a0 ≤ 65536
      · obtain ⟨d, rfl⟩ := Int.eq_ofNat_of_zero_le (show 0 ≤ a0 by omega)
        have hd2 : d ≤ 65536 := by omega
        by_cases hn : a1 < 7
        · skip
          by_cases hE : l2.length < 1
          · exact signalmanlaw20_WireBounds.w_ok_lo_no k d hd2 a1 hn _ _ l2 t a3 w hC hc2 hl hE ht htl
          · exact signalmanlaw20_WireBounds.w_ok_lo_yes k d hd2 a1 hn _ _ l2 t a3 w hC hc2 hl (by omega) ht htl
        · by_cases hn0 : a1 ≤ 65536
          · obtain ⟨n, rfl⟩ := Int.eq_ofNat_of_zero_le (show 0 ≤ a1 by omega)
            have hn1 : 7 ≤ n := by omega
            have hn2 : n ≤ 65536 := by omega
            by_cases hE : l2.length < 1
            · exact signalmanlaw20_WireBounds.w_ok_ok_no k d hd2 n hn1 hn2 _ _ l2 t a3 w hC hc2 hl hE ht htl
            · exact signalmanlaw20_WireBounds.w_ok_ok_yes k d hd2 n hn1 hn2 _ _ l2 t a3 w hC hc2 hl (by omega) ht htl
          · skip
            by_cases hE : l2.length < 1
            · exact signalmanlaw20_WireBounds.w_ok_hi_no k d hd2 a1 (by omega) _ _ l2 t a3 w hC hc2 hl hE ht htl
            · exact signalmanlaw20_WireBounds.w_ok_hi_yes k d hd2 a1 (by omega) _ _ l2 t a3 w hC hc2 hl (by omega) ht htl
      · skip
        by_cases hn : a1 < 7
        · skip
          by_cases hE : l2.length < 1
          · exact signalmanlaw20_WireBounds.w_hi_lo_no k a0 (by omega) a1 hn _ _ l2 t a3 w hC hc2 hl hE ht htl
          · exact signalmanlaw20_WireBounds.w_hi_lo_yes k a0 (by omega) a1 hn _ _ l2 t a3 w hC hc2 hl (by omega) ht htl
        · by_cases hn0 : a1 ≤ 65536
          · obtain ⟨n, rfl⟩ := Int.eq_ofNat_of_zero_le (show 0 ≤ a1 by omega)
            have hn1 : 7 ≤ n := by omega
            have hn2 : n ≤ 65536 := by omega
            by_cases hE : l2.length < 1
            · exact signalmanlaw20_WireBounds.w_hi_ok_no k a0 (by omega) n hn1 hn2 _ _ l2 t a3 w hC hc2 hl hE ht htl
            · exact signalmanlaw20_WireBounds.w_hi_ok_yes k a0 (by omega) n hn1 hn2 _ _ l2 t a3 w hC hc2 hl (by omega) ht htl
          · skip
            by_cases hE : l2.length < 1
            · exact signalmanlaw20_WireBounds.w_hi_hi_no k a0 (by omega) a1 (by omega) _ _ l2 t a3 w hC hc2 hl hE ht htl
            · exact signalmanlaw20_WireBounds.w_hi_hi_yes k a0 (by omega) a1 (by omega) _ _ l2 t a3 w hC hc2 hl (by omega) ht htl
  · exact signalmanlaw20_WireBounds.early a0 a1 _ _ l2 a3 w (by omega)

end Go.Proofs.Ytaiallgcobpkaaa.MWireBounds
