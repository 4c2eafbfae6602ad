/- The wire's functions where they refuse, and at a nil wire. No condition. Written for this claim. -/
import Derived.Test.YtaiallgcobpkaaaWireBend
namespace Go.Proofs.Ytaiallgcobpkaaa.Wire
open Go Go.RowKit Go.Proofs.Ytaiallgcobpkaaa Go.Proofs.YtaiallgcobpkaaaW.PrintWords Go.Proofs.YtaiallgcobpkaaaW.PrintLast Go.Proofs.YtaiallgcobpkaaaW.PrintMore Go.Proofs.Ytaiallgcobpkaaa.Base
set_option linter.unusedVariables false
set_option linter.unusedSimpArgs false
set_option maxHeartbeats 8000000 in
set_option maxRecDepth 100000 in
theorem new_lo (x : Int) (h : x < 0) (w : World) : Calls Try.prog 9 #[.int .i64 x] w fun e w' => e = .returned (.tuple #[.pointer none, .int .i64 1]) ∧ w' = w := by
  have d1 : decide (x < 0) = true := decide_eq_true h
  go_enter Try.func9, Try.ntmps9
  go_wp2
  go_ret2
  exact ⟨rfl, rfl⟩
set_option maxHeartbeats 8000000 in
set_option maxRecDepth 100000 in
theorem new_hi (x : Int) (h : 65536 < x) (w : World) : Calls Try.prog 9 #[.int .i64 x] w fun e w' => e = .returned (.tuple #[.pointer none, .int .i64 1]) ∧ w' = w := by
  have d1 : decide (x < 0) = false := decide_eq_false (by omega)
  have d2 : decide (65536 < x) = true := decide_eq_true h
  go_enter Try.func9, Try.ntmps9
  go_wp2
  go_ret2
  exact ⟨rfl, rfl⟩
set_option maxHeartbeats 8000000 in
set_option maxRecDepth 100000 in
theorem break_lo (p : Addr) (x : Int) (h : x < 7) (w : World) : Calls Try.prog 15 #[.pointer (some p), .int .i64 x] w fun e w' => e = .returned (.int .i64 1) ∧ w' = w := by
  have d1 : decide (x < 7) = true := decide_eq_true h
  go_enter Try.func15, Try.ntmps15
  go_wp2
  go_ret
  exact ⟨rfl, rfl⟩
set_option maxHeartbeats 8000000 in
set_option maxRecDepth 100000 in
theorem break_hi (p : Addr) (x : Int) (h : 65536 < x) (w : World) : Calls Try.prog 15 #[.pointer (some p), .int .i64 x] w fun e w' => e = .returned (.int .i64 1) ∧ w' = w := by
  have d1 : decide (x < 7) = false := decide_eq_false (by omega)
  have d2 : decide (65536 < x) = true := decide_eq_true h
  go_enter Try.func15, Try.ntmps15
  go_wp2
  go_ret
  exact ⟨rfl, rfl⟩
set_option maxHeartbeats 8000000 in
set_option maxRecDepth 100000 in
theorem break_full (g : Nat) (vl vm : Value) (i bent : Int) (ones n : Nat) (w : World) (h : At w g vl vm i ones bent) (h1 : 7 ≤ n) (h0 : n ≤ 65536) (h2 : 65536 < ones + n) (h3 : ones ≤ 65536) :
    Calls Try.prog 15 #[.pointer (some ⟨g, 0, none⟩), .int .i64 n] w fun e w' => e = .returned (.int .i64 3) ∧ w' = w := by
  obtain ⟨c0, c1, c2, c3, c4⟩ := h.cells
  have d1 : decide ((n : Int) < 7) = false := decide_eq_false (by omega)
  have d2 : decide ((65536 : Int) < (n : Int)) = false := decide_eq_false (by omega)
  have d3 : decide (n < 7) = false := decide_eq_false (by omega)
  have d4 : decide (65536 < n) = false := decide_eq_false (by omega)
  have d5 : decide ((65536 : Int) < (ones : Int) + (n : Int)) = true := decide_eq_true (by omega)
  go_enter Try.func15, Try.ntmps15
  go_wp2
  go_ret
  exact ⟨rfl, rfl⟩
theorem break_fullq {P : Nat → Prop} {w : World} {g gl : Nat} {l : List Bool} {i : Nat} {mask : List Bool} {ones bent : Nat} (h : Isq P w g gl l i mask ones bent) (h1 : 7 ≤ ones) (h2 : ones ≤ 65536) :
    Calls Try.prog 15 #[.pointer (some ⟨g, 0, none⟩), .int .i64 65536] w fun e w' => e = .returned (.int .i64 3) ∧ w' = w := by
  obtain ⟨hne, hap, ⟨vm, hA, hS⟩, hrow, hidx⟩ := h
  exact break_full g _ _ _ _ ones 65536 w hA (by omega) (by omega) (by omega) h2
theorem break_mostq {P : Nat → Prop} {w : World} {g gl : Nat} {l : List Bool} {i : Nat} {mask : List Bool} {bent : Nat} (h : Isq P w g gl l i mask 0 bent) :
    Calls Try.prog 15 #[.pointer (some ⟨g, 0, none⟩), .int .i64 65536] w fun e w' => e = .returned (.int .i64 0) ∧ Isq P w' g gl l i mask (0 + 65536) bent ∧ Only (fun k => k = g) w w' := breakq (n := 65536) h (by omega) (by omega)
set_option maxHeartbeats 8000000 in
set_option maxRecDepth 100000 in
theorem bend_full (g : Nat) (vl : Value) (i bent : Int) (ones : Int) (mA A : Option Addr) (k n mc c : Nat) (w : World) (h : At w g vl (.slice mA k mc) i ones bent) (h2 : 65536 < k + n) (h3 : k ≤ 1000000) (h4 : n ≤ 1000000) :
    Calls Try.prog 14 #[.pointer (some ⟨g, 0, none⟩), .slice A n c] w fun e w' => e = .returned (.int .i64 3) ∧ w' = w := by
  obtain ⟨c0, c1, c2, c3, c4⟩ := h.cells
  have d1 : decide ((65536 : Int) < (k : Int) + (n : Int)) = true := decide_eq_true (by omega)
  have d2 : decide (65536 < k + n) = true := decide_eq_true (by omega)
  go_enter Try.func14, Try.ntmps14
  go_wp2
  go_ret
  exact ⟨rfl, rfl⟩
theorem bend_fullq {P : Nat → Prop} {w : World} {g gl : Nat} {l : List Bool} {i : Nat} {mask : List Bool} {ones bent : Nat} (h : Isq P w g gl l i mask ones bent) (A : Option Addr) (n c : Nat) (h1 : 65536 < mask.length + n) (h2 : mask.length ≤ 1000000) (h3 : n ≤ 1000000) :
    Calls Try.prog 14 #[.pointer (some ⟨g, 0, none⟩), .slice A n c] w fun e w' => e = .returned (.int .i64 3) ∧ w' = w := by
  obtain ⟨hne, hap, ⟨vm, hA, hS⟩, hrow, hidx⟩ := h
  obtain ⟨mA, mc, rfl, _⟩ := hS.reads
  exact bend_full g _ _ _ _ mA A _ n mc c w hA h1 h2 h3
theorem bend_madeq {P : Nat → Prop} {w : World} {g gl : Nat} {l : List Bool} {i : Nat} {ones bent : Nat} (q : Nat) (hq : q ≤ 65536) (h : Isq P w g gl l i [] ones bent) (hfresh : ∀ k, w.heap.size ≤ k → P k) :
    Calls Try.prog 14 #[.pointer (some ⟨g, 0, none⟩), .slice (some ⟨w.heap.size, 0, none⟩) q q] (w.alloc (.cells (madeCells #[.bool false] q) 4)) fun e w' => e = .returned (.int .i64 0) ∧ Isq P w' g gl l i (List.replicate q false) ones bent ∧ Only (fun k => k = g ∨ P k) (w.alloc (.cells (madeCells #[.bool false] q) 4)) w' := by
  have hr : ReadsOf Value.bool false (w.alloc (.cells (madeCells #[.bool false] q) 4)) (some ⟨w.heap.size, 0, none⟩) (List.replicate q false).length (List.replicate q false) := by
    rw [List.length_replicate]
    exact Kd.reads_of_C (h1 := fun _ => rfl) (made_C q hq w)
  have hb : Below w.heap.size w (w.alloc (.cells (madeCells #[.bool false] q) 4)) := below_alloc (Below.refl _ _) _
  have h1 := bendq (h.below hb) (List.replicate q false) (some ⟨w.heap.size, 0, none⟩) q hr (by simp; omega) (fun k hk => hfresh k (Nat.le_trans hb.size hk))
  rw [List.length_replicate] at h1
  exact h1
set_option maxHeartbeats 8000000 in
set_option maxRecDepth 100000 in
theorem pass_nil (on : Bool) (w : World) : Calls Try.prog 11 #[.pointer none, .bool on] w fun e w' => e = .returned (.bool on) ∧ w' = w := by
  go_enter Try.func11, Try.ntmps11
  go_wp2
  go_ret
  exact ⟨rfl, rfl⟩
set_option maxHeartbeats 8000000 in
set_option maxRecDepth 100000 in
theorem bend_nil (v : Value) (w : World) : Calls Try.prog 14 #[.pointer none, v] w fun e w' => e = .returned (.int .i64 2) ∧ w' = w := by
  go_enter Try.func14, Try.ntmps14
  go_wp2
  go_ret
  exact ⟨rfl, rfl⟩
set_option maxHeartbeats 8000000 in
set_option maxRecDepth 100000 in
theorem break_nil (x : Int) (w : World) : Calls Try.prog 15 #[.pointer none, .int .i64 x] w fun e w' => e = .returned (.int .i64 2) ∧ w' = w := by
  go_enter Try.func15, Try.ntmps15
  go_wp2
  go_ret
  exact ⟨rfl, rfl⟩
set_option maxHeartbeats 8000000 in
set_option maxRecDepth 100000 in
theorem delay_nil (w : World) : Calls Try.prog 17 #[.pointer none] w fun e w' => e = .returned (.int .i64 0) ∧ w' = w := by
  go_enter Try.func17, Try.ntmps17
  go_wp2
  go_ret
  exact ⟨rfl, rfl⟩
set_option maxHeartbeats 8000000 in
set_option maxRecDepth 100000 in
theorem masked_nil (w : World) : Calls Try.prog 16 #[.pointer none] w fun e w' => e = .returned (.int .i64 0) ∧ w' = w := by
  go_enter Try.func16, Try.ntmps16
  go_wp2
  go_ret
  exact ⟨rfl, rfl⟩
set_option maxHeartbeats 8000000 in
set_option maxRecDepth 100000 in
theorem bent_nil (w : World) : Calls Try.prog 13 #[.pointer none] w fun e w' => e = .returned (.int .i64 0) ∧ w' = w := by
  go_enter Try.func13, Try.ntmps13
  go_wp2
  go_ret
  exact ⟨rfl, rfl⟩
theorem new_bare3 (w : World) : Calls Try.prog 9 #[.int .i64 3] w fun e w' => ∃ g gl, e = .returned (.tuple #[.pointer (some ⟨g, 0, none⟩), .int .i64 0]) ∧ w.heap.size ≤ g ∧ w.heap.size ≤ gl ∧ Bare w' g gl 3 ∧ Below w.heap.size w w' := new_bare 3 (by decide) w
/-- Blocks of the call's own, but for the wire's. -/
def Own (B g gl k : Nat) : Prop := B ≤ k ∧ k ≠ g ∧ k ≠ gl
theorem Own.fresh {w w' : World} {P : Nat → Prop} {g gl : Nat} {l : List Bool} {i : Nat} {mask : List Bool} {ones bent : Nat} (hb : Below w.heap.size w w') (h : Isq P w' g gl l i mask ones bent) : ∀ k, w'.heap.size ≤ k → Own w.heap.size g gl k := by
  intro k hk
  have := h.lt
  have := hb.size
  exact ⟨by omega, by omega, by omega⟩
theorem Own.low {B g gl k : Nat} (h : Own B g gl k) : B ≤ k := h.1
theorem Own.apart {B g gl k : Nat} (h : Own B g gl k) : k ≠ g ∧ k ≠ gl := h.2
end Go.Proofs.Ytaiallgcobpkaaa.Wire
