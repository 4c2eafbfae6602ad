/- The methods of (*flag.Ear), walked: what each does to the ear's block and to the bits that it keeps. No condition. Written by hand for this claim. -/
import Derived.Test.YtonhgiclaieamaaRowq
namespace Go.Proofs.Ytonhgiclaieamaa.Ear
open Go Go.RowKit Go.Proofs.Ytonhgiclaieamaa Go.Proofs.YtonhgiclaieamaaW.PrintWords Go.Proofs.YtonhgiclaieamaaW.PrintLast Go.Proofs.YtonhgiclaieamaaW.PrintMore Go.Proofs.Ytonhgiclaieamaa.Base Go.Proofs.Ytonhgiclaieamaa.Rowq
set_option linter.unusedVariables false
set_option linter.unusedSimpArgs false
theorem only_alloc {P : Nat → Prop} {w w' : World} (h : Only P w w') (o : Obj) : Only P w (w'.alloc o) := by
  have hs : (w'.alloc o).heap.size = w'.heap.size + 1 := by simp [World.alloc_eq]
  have hb := below_alloc (Below.refl w'.heap.size w') o
  exact ⟨hb.os.trans h.os, hb.tape.trans h.tape, hb.output.trans h.output, by have := h.size; omega, fun k hk hn => (hb.block k (by have := h.size; omega)).trans (h.block k hk hn)⟩
theorem only_far {P : Nat → Prop} {w w' : World} (h : Only P w w') {p : Addr} (hp : w.heap.size ≤ p.block) (u : Value) : Only P w (w'.setCell p u) :=
  ⟨h.os, h.tape, h.output, by simpa [World.setCell] using h.size, fun k hk hn => (Below.heap_setCell w' p u k (by omega)).trans (h.block k hk hn)⟩
/-- The ear's block. -/
def At (w : World) (g : Nat) (vin : Value) (ones : Int) (found : Bool) (n : Int) : Prop := w.heap[g]? = some (.cells #[vin, .int .i64 ones, .bool found, .int .i64 n] 48 (0, 0))
theorem At.cells {w : World} {g : Nat} {vin : Value} {ones n : Int} {found : Bool} (h : At w g vin ones found n) :
    w.cell? ⟨g, 0, none⟩ = some vin ∧ w.cell? ⟨g, 1, none⟩ = some (.int .i64 ones) ∧ w.cell? ⟨g, 2, none⟩ = some (.bool found) ∧ w.cell? ⟨g, 3, none⟩ = some (.int .i64 n) := by
  unfold At at h
  refine ⟨?_, ?_, ?_, ?_⟩ <;> simp [World.cell?, h]
theorem At.frozen {w : World} {g : Nat} {vin : Value} {ones n : Int} {found : Bool} (h : At w g vin ones found n) (j : Nat) : w.frozen? ⟨g, j, none⟩ = false := by
  unfold At at h
  simp [World.frozen?, h]
theorem At.lt {w : World} {g : Nat} {vin : Value} {ones n : Int} {found : Bool} (h : At w g vin ones found n) : g < w.heap.size := (Array.getElem?_eq_some_iff.1 h).1
theorem At.set0 {w : World} {g : Nat} {vin : Value} {ones n : Int} {found : Bool} (h : At w g vin ones found n) (x : Value) : At (w.setCell ⟨g, 0, none⟩ x) g x ones found n := by
  have e := blk_set h 0 x
  exact e
theorem At.set1 {w : World} {g : Nat} {vin : Value} {ones n : Int} {found : Bool} (h : At w g vin ones found n) (x : Int) : At (w.setCell ⟨g, 1, none⟩ (.int .i64 x)) g vin x found n := by
  have e := blk_set h 1 (.int .i64 x)
  exact e
theorem At.set2 {w : World} {g : Nat} {vin : Value} {ones n : Int} {found : Bool} (h : At w g vin ones found n) (x : Bool) : At (w.setCell ⟨g, 2, none⟩ (.bool x)) g vin ones x n := by
  have e := blk_set h 2 (.bool x)
  exact e
theorem At.set3 {w : World} {g : Nat} {vin : Value} {ones n : Int} {found : Bool} (h : At w g vin ones found n) (x : Int) : At (w.setCell ⟨g, 3, none⟩ (.int .i64 x)) g vin ones found x := by
  have e := blk_set h 3 (.int .i64 x)
  exact e
theorem At.far {w : World} {g : Nat} {vin : Value} {ones n : Int} {found : Bool} (h : At w g vin ones found n) {p : Addr} (hp : g ≠ p.block) (u : Value) : At (w.setCell p u) g vin ones found n := blk_far h hp u
theorem At.only {P : Nat → Prop} {w w' : World} {g : Nat} {vin : Value} {ones n : Int} {found : Bool} (h : At w g vin ones found n) (ho : Only P w w') (hp : ¬ P g) : At w' g vin ones found n :=
  (ho.block g h.lt hp).trans h
theorem At.alloc {w : World} {g : Nat} {vin : Value} {ones n : Int} {found : Bool} (h : At w g vin ones found n) (o : Obj) : At (w.alloc o) g vin ones found n := h.only (P := fun _ => False) (only_alloc (Only.refl _ _) o) (fun h => h)
theorem At.to {w : World} {g : Nat} {vin : Value} {ones ones' n n' : Int} {found : Bool} (h : At w g vin ones found n) (e1 : ones = ones') (e2 : n = n') : At w g vin ones' found n' := by
  subst e1; subst e2; exact h
set_option maxHeartbeats 8000000 in
set_option maxRecDepth 100000 in
theorem counting_calls (g : Nat) (vin : Value) (ones n : Int) (found : Bool) (w : World) (h : At w g vin ones found n) :
    Calls Try.prog 26 #[.pointer (some ⟨g, 0, none⟩)] w fun e w' => e = .returned (.bool (!found)) ∧ w' = w := by
  obtain ⟨c0, c1, c2, c3⟩ := h.cells
  go_enter Try.func26, Try.ntmps26
  go_wp2
  go_ret
  exact ⟨rfl, rfl⟩
set_option maxHeartbeats 8000000 in
set_option maxRecDepth 100000 in
theorem lost_calls (g : Nat) (vin : Value) (ones n : Int) (found : Bool) (w : World) (h : At w g vin ones found n) :
    Calls Try.prog 40 #[.pointer (some ⟨g, 0, none⟩)] w fun e w' => e = .returned (.tuple #[]) ∧ At w' g (.slice none 0 0) ones false 0 ∧ Only (fun k => k = g) w w' := by
  obtain ⟨c0, c1, c2, c3⟩ := h.cells
  have f0 := h.frozen 0
  have f2 := h.frozen 2
  have f3 := h.frozen 3
  go_enter Try.func40, Try.ntmps40
  go_wp2
  go_end0
  exact ⟨rfl, ((h.set2 false).set0 _).set3 0, (((Only.refl (fun k => k = g) w).set rfl _).set rfl _).set rfl _⟩
set_option maxHeartbeats 8000000 in
set_option maxRecDepth 100000 in
theorem count_on (g : Nat) (vin : Value) (ones n : Nat) (w : World) (h : At w g vin ones false n) (ho : ones < 1000000000) (hn : n < 127) :
    Calls Try.prog 39 #[.pointer (some ⟨g, 0, none⟩), .bool true] w fun e w' => e = .returned (.tuple #[.agg #[.int .u8 0, .slice none 0 0], .bool false]) ∧ At w' g vin ((ones + 1 : Nat) : Int) false ((n + 1 : Nat) : Int) ∧ Only (fun k => k = g) w w' := by
  obtain ⟨c0, c1, c2, c3⟩ := h.cells
  have f0 := h.frozen 0
  have f1 := h.frozen 1
  have f2 := h.frozen 2
  have f3 := h.frozen 3
  have d1 : ((n : Int) + 1 == 128) = false := by simp; omega
  have d2 : (n + 1 == 128) = false := by simp; omega
  have hg := h.lt
  go_enter Try.func39, Try.ntmps39
  go_wp2
  refine bodyPost_ret (v := .tuple #[.agg #[.int .u8 0, .slice none 0 0], .bool false]) (by simp [results, Try.results39, go_sem]) rfl ⟨rfl, ?_, ?_⟩
  · exact ((((h.set1 _).set3 _).alloc _).to (by omega) (by omega))
  · exact only_alloc (((Only.refl (fun k => k = g) w).set rfl _).set rfl _) _
set_option maxHeartbeats 8000000 in
set_option maxRecDepth 100000 in
theorem count_on_hit (g : Nat) (vin : Value) (ones n : Nat) (w : World) (h : At w g vin ones false n) (ho : ones < 1000000000) (hn : n + 1 = 128) :
    Calls Try.prog 39 #[.pointer (some ⟨g, 0, none⟩), .bool true] w fun e w' => e = .returned (.tuple #[.agg #[.int .u8 2, .slice none 0 0], .bool true]) ∧ At w' g vin ((ones + 1 : Nat) : Int) false 0 ∧ Only (fun k => k = g) w w' := by
  obtain ⟨c0, c1, c2, c3⟩ := h.cells
  have f0 := h.frozen 0
  have f1 := h.frozen 1
  have f2 := h.frozen 2
  have f3 := h.frozen 3
  have d1 : ((n : Int) + 1 == 128) = true := by simp; omega
  have d2 : (n + 1 == 128) = true := by simp; omega
  have hg := h.lt
  go_enter Try.func39, Try.ntmps39
  go_wp2
  refine bodyPost_ret (v := .tuple #[.agg #[.int .u8 2, .slice none 0 0], .bool true]) (by simp [results, Try.results39, go_sem]) rfl ⟨rfl, ?_, ?_⟩
  · exact (((((h.set1 _).set3 _).set3 0).alloc _).to (by omega) rfl)
  · exact only_alloc ((((Only.refl (fun k => k = g) w).set rfl _).set rfl _).set rfl _) _
set_option maxHeartbeats 8000000 in
set_option maxRecDepth 100000 in
theorem count_flag (g : Nat) (vin : Value) (ones n : Nat) (w : World) (h : At w g vin ones false n) (ho : ones < 1000000000) (hs : ones = 6) :
    Calls Try.prog 39 #[.pointer (some ⟨g, 0, none⟩), .bool false] w fun e w' => e = .returned (.tuple #[.agg #[.int .u8 0, .slice none 0 0], .bool false]) ∧ At w' g (.slice none 0 0) 0 true 0 ∧ Only (fun k => k = g) w w' := by
  obtain ⟨c0, c1, c2, c3⟩ := h.cells
  have f0 := h.frozen 0
  have f1 := h.frozen 1
  have f2 := h.frozen 2
  have f3 := h.frozen 3
  have s1 : ((ones : Int) == 6) = true := by simp; omega
  have s2 : (ones == 6) = true := by simp; omega
  have hg := h.lt
  go_enter Try.func39, Try.ntmps39
  go_wp2
  refine bodyPost_ret (v := .tuple #[.agg #[.int .u8 0, .slice none 0 0], .bool false]) (by simp [results, Try.results39, go_sem]) rfl ⟨rfl, ?_, ?_⟩
  · exact (((((((h.set1 _).set1 0).set2 true).set0 _).set3 0)).alloc _)
  · exact only_alloc ((((((Only.refl (fun k => k = g) w).set rfl _).set rfl _).set rfl _).set rfl _).set rfl _) _
set_option maxHeartbeats 8000000 in
set_option maxRecDepth 100000 in
theorem count_off (g : Nat) (vin : Value) (ones n : Nat) (w : World) (h : At w g vin ones false n) (ho : ones < 1000000000) (hs : ones ≠ 6) (hn : n < 127) :
    Calls Try.prog 39 #[.pointer (some ⟨g, 0, none⟩), .bool false] w fun e w' => e = .returned (.tuple #[.agg #[.int .u8 0, .slice none 0 0], .bool false]) ∧ At w' g vin 0 false ((n + 1 : Nat) : Int) ∧ Only (fun k => k = g) w w' := by
  obtain ⟨c0, c1, c2, c3⟩ := h.cells
  have f0 := h.frozen 0
  have f1 := h.frozen 1
  have f2 := h.frozen 2
  have f3 := h.frozen 3
  have s1 : ((ones : Int) == 6) = false := by simp; omega
  have s2 : (ones == 6) = false := by simp; omega
  have d1 : ((n : Int) + 1 == 128) = false := by simp; omega
  have d2 : (n + 1 == 128) = false := by simp; omega
  have hg := h.lt
  go_enter Try.func39, Try.ntmps39
  go_wp2
  refine bodyPost_ret (v := .tuple #[.agg #[.int .u8 0, .slice none 0 0], .bool false]) (by simp [results, Try.results39, go_sem]) rfl ⟨rfl, ?_, ?_⟩
  · exact (((((h.set1 _).set1 0).set3 _).alloc _).to rfl (by omega))
  · exact only_alloc ((((Only.refl (fun k => k = g) w).set rfl _).set rfl _).set rfl _) _
set_option maxHeartbeats 8000000 in
set_option maxRecDepth 100000 in
theorem count_off_hit (g : Nat) (vin : Value) (ones n : Nat) (w : World) (h : At w g vin ones false n) (ho : ones < 1000000000) (hs : ones ≠ 6) (hn : n + 1 = 128) :
    Calls Try.prog 39 #[.pointer (some ⟨g, 0, none⟩), .bool false] w fun e w' => e = .returned (.tuple #[.agg #[.int .u8 2, .slice none 0 0], .bool true]) ∧ At w' g vin 0 false 0 ∧ Only (fun k => k = g) w w' := by
  obtain ⟨c0, c1, c2, c3⟩ := h.cells
  have f0 := h.frozen 0
  have f1 := h.frozen 1
  have f2 := h.frozen 2
  have f3 := h.frozen 3
  have s1 : ((ones : Int) == 6) = false := by simp; omega
  have s2 : (ones == 6) = false := by simp; omega
  have d1 : ((n : Int) + 1 == 128) = true := by simp; omega
  have d2 : (n + 1 == 128) = true := by simp; omega
  have hg := h.lt
  go_enter Try.func39, Try.ntmps39
  go_wp2
  refine bodyPost_ret (v := .tuple #[.agg #[.int .u8 2, .slice none 0 0], .bool true]) (by simp [results, Try.results39, go_sem]) rfl ⟨rfl, ?_, ?_⟩
  · exact ((((((h.set1 _).set1 0).set3 _).set3 0).alloc _))
  · exact only_alloc (((((Only.refl (fun k => k = g) w).set rfl _).set rfl _).set rfl _).set rfl _) _
end Go.Proofs.Ytonhgiclaieamaa.Ear
