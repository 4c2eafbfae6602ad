/- The wire's smaller functions, walked: New, Break, Masked, Bent, Delay. No condition. Written by hand for this claim. -/
import Derived.Test.YtaiallgcobpkaaaWire
namespace Go.Proofs.Ytaiallgcobpkaaa.Wire
open Go Go.RowKit Go.Proofs.Ytaiallgcobpkaaa Go.Proofs.YtaiallgcobpkaaaW.PrintWords Go.Proofs.YtaiallgcobpkaaaW.PrintLast Go.Proofs.YtaiallgcobpkaaaW.PrintMore Go.Proofs.Ytaiallgcobpkaaa.Base
set_option linter.unusedVariables false
set_option linter.unusedSimpArgs false
set_option maxHeartbeats 8000000 in
set_option maxRecDepth 100000 in
theorem new_walk (d : Nat) (hd : d ≤ 65536) (w : World) :
    Calls Try.prog 9 #[.int .i64 (d : Int)] w fun e w' => e = .returned (.tuple #[.pointer (some ⟨w.heap.size + 1, 0, none⟩), .int .i64 0]) ∧
      w' = (w.alloc (.cells (madeCells #[.bool false] d) 4)).alloc (.cells #[.slice (some ⟨w.heap.size, 0, none⟩) d d, .int .i64 0, .slice none 0 0, .int .i64 0, .int .i64 0] 44) := by
  have hm := print_make_of (P := Try.prog) 41 4 (.bool false) 1 Try.underlying41 info4 rfl (by decide) d (by omega)
  have d1 : decide ((d : Int) < 0) = false := decide_eq_false (by omega)
  have d2 : decide ((65536 : Int) < (d : Int)) = false := decide_eq_false (by omega)
  have d3 : decide (65536 < d) = false := decide_eq_false (by omega)
  go_enter Try.func9, Try.ntmps9
  go_wp2
  go_ret2
  exact ⟨rfl, rfl⟩
theorem made_row (d : Nat) : (madeCells #[.bool false] d) = (encs Value.bool (List.replicate d false)).toArray := by
  have h := own_made_of (enc := Value.bool) (d := false) default 0 4 0 (Nat.zero_le _) (by omega)
  apply Array.ext
  · simp [madeCells, encs]
  · intro i h1 h2
    simp [madeCells, encs, Nat.mod_one]
theorem new_calls (d : Nat) (hd : d ≤ 65536) (w : World) :
    Calls Try.prog 9 #[.int .i64 (d : Int)] w fun e w' => ∃ g gl, e = .returned (.tuple #[.pointer (some ⟨g, 0, none⟩), .int .i64 0]) ∧ gl ≠ g ∧ w.heap.size ≤ g ∧ w.heap.size ≤ gl ∧ g < w'.heap.size ∧ gl < w'.heap.size ∧
      At w' g (.slice (some ⟨gl, 0, none⟩) d d) (.slice none 0 0) 0 0 0 ∧ Row w' gl (List.replicate d false) ∧ Below w.heap.size w w' := by
  refine (new_walk d hd w).mono ?_
  rintro e w' ⟨rfl, rfl⟩
  refine ⟨w.heap.size + 1, w.heap.size, rfl, by omega, by omega, Nat.le_refl _, ?_, ?_, ?_, ?_, below_alloc (below_alloc (Below.refl _ _) _) _⟩
  · simp [World.alloc_eq]
  · simp [World.alloc_eq]; omega
  · unfold At
    have := heap_alloc_new (w.alloc (.cells (madeCells #[.bool false] d) 4)) (.cells #[.slice (some ⟨w.heap.size, 0, none⟩) d d, .int .i64 0, .slice none 0 0, .int .i64 0, .int .i64 0] 44)
    simpa using this
  · unfold Row
    rw [← made_row, Below.heap_alloc _ _ _ (by simp)]
    exact heap_alloc_new w _
set_option maxHeartbeats 8000000 in
set_option maxRecDepth 100000 in
theorem delay_calls (g : Nat) (A : Option Addr) (n c : Nat) (vm : Value) (i ones bent : Int) (w : World) (h : At w g (.slice A n c) vm i ones bent) :
    Calls Try.prog 17 #[.pointer (some ⟨g, 0, none⟩)] w fun e w' => e = .returned (.int .i64 n) ∧ w' = w := by
  obtain ⟨c0, c1, c2, c3, c4⟩ := h.cells
  go_enter Try.func17, Try.ntmps17
  go_wp2
  go_ret
  exact ⟨rfl, rfl⟩
set_option maxHeartbeats 8000000 in
set_option maxRecDepth 100000 in
theorem masked_calls (g : Nat) (A : Option Addr) (n c : Nat) (vl : Value) (i bent : Int) (ones : Nat) (w : World) (h : At w g vl (.slice A n c) i ones bent) (hb : n + ones < 4611686018427387904) :
    Calls Try.prog 16 #[.pointer (some ⟨g, 0, none⟩)] w fun e w' => e = .returned (.int .i64 ((n + ones : Nat) : Int)) ∧ ∃ k, w' = w.drewN k := by
  obtain ⟨c0, c1, c2, c3, c4⟩ := h.cells
  go_enter Try.func16, Try.ntmps16
  go_wp2
  repeat (go_quiet (fail); try go_wp2)
  go_ret
  exact ⟨by simp, _, rfl⟩
set_option maxHeartbeats 8000000 in
set_option maxRecDepth 100000 in
theorem break_calls (g : Nat) (vl vm : Value) (i bent : Int) (ones n : Nat) (w : World) (h : At w g vl vm i ones bent) (h1 : 7 ≤ n) (h2 : ones + n ≤ 65536) :
    Calls Try.prog 15 #[.pointer (some ⟨g, 0, none⟩), .int .i64 n] w fun e w' => e = .returned (.int .i64 0) ∧ At w' g vl vm i ((ones + n : Nat) : Int) bent ∧ Only (fun k => k = g) w w' := by
  obtain ⟨c0, c1, c2, c3, c4⟩ := h.cells
  have f3 := h.frozen 3
  have d1 : decide ((n : Int) < 7) = false := decide_eq_false (by omega)
  have d2 : decide ((65536 : Int) < (n : Int)) = false := decide_eq_false (by omega)
  have d3 : decide (n < 7) = false := decide_eq_false (by omega)
  have d4 : decide (65536 < n) = false := decide_eq_false (by omega)
  have d5 : decide ((65536 : Int) < (ones : Int) + (n : Int)) = false := decide_eq_false (by omega)
  go_enter Try.func15, Try.ntmps15
  go_wp2
  go_ret
  refine ⟨rfl, ?_, (Only.refl (fun k => k = g) w).set (p := ⟨g, 3, none⟩) rfl _⟩
  apply At.to
  · apply At.set3
    exact h
  · rfl
  · first | omega | (unfold wrap64; omega)
  · rfl
end Go.Proofs.Ytaiallgcobpkaaa.Wire
