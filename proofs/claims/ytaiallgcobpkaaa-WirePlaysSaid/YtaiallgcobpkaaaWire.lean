/- The wire's own functions, walked: what each does to the wire's block and to the bits under way. No condition. Written by hand for this claim. -/
import Derived.Test.YtaiallgcobpkaaaProg
import Derived.Below
import Derived.Deep.Draws
import Derived.Deep.AppendLies
import Derived.Maps.AppendAt
import Derived.OwnWalk
import Derived.Laws.BytesArg
import Derived.Laws.MakeOwn
import Derived.Laws.OwnMore
import Derived.Deep.OwnRows
import Derived.Tactics
import Derived.Lib.ConvBytes
import Derived.Laws.Slices
import Derived.WalkKit
import Derived.KernelRfl
import Derived.RowKit3
import Derived.Deep.LoopGhost
import Derived.Deep.QuietTactic
import Derived.BigQuiet
import Derived.WideLaws
import Derived.Deep.DeepCutAuto
import Derived.Deep.CutBlock
import Derived.Deep.RegionHeld3
import Derived.Laws.Rows
import Derived.Lib.AppendStr
import Derived.ArgAppend
import Derived.Laws.IdiomCopy
import Derived.OrdersHeld
import Derived.Laws.BitsLemmas
import Derived.RowKit
import Derived.Lib.SlBytesConst
import Derived.Laws.BitsAllLaws
import Derived.Laws.RangeAny
import Derived.Lib.OthersKept
import Derived.Laws.CopyOwn
import Derived.Test.YtaiallgcobpkaaaWWords
import Derived.Test.YtaiallgcobpkaaaWLast
import Derived.Test.YtaiallgcobpkaaaWTab
import Derived.Test.YtaiallgcobpkaaaWFour
import Derived.Test.YtaiallgcobpkaaaWQPut
import Derived.Test.YtaiallgcobpkaaaWApart
import Derived.Test.YtaiallgcobpkaaaWArr
import Derived.Test.YtaiallgcobpkaaaWZeros
import Derived.Test.YtaiallgcobpkaaaWFoot
import Derived.Test.YtaiallgcobpkaaaWKept
import Derived.Test.YtaiallgcobpkaaaWShare
import Derived.Test.YtaiallgcobpkaaaWN
import Derived.Test.YtaiallgcobpkaaaWFootNe
import Derived.Test.YtaiallgcobpkaaaWAt
import Derived.Test.YtaiallgcobpkaaaWEqStruct
import Derived.Test.YtaiallgcobpkaaaWRepsOne
import Derived.Test.YtaiallgcobpkaaaWInv
import Derived.Test.YtaiallgcobpkaaaWInvWords
import Derived.Test.YtaiallgcobpkaaaWGuard
import Derived.Test.YtaiallgcobpkaaaWNEv
import Derived.Test.YtaiallgcobpkaaaWMore
import Derived.Test.YtaiallgcobpkaaaBase
namespace Go.Proofs.Ytaiallgcobpkaaa.Wire
open Go Go.RowKit Go.Proofs.Ytaiallgcobpkaaa Go.Proofs.YtaiallgcobpkaaaW.PrintWords Go.Proofs.YtaiallgcobpkaaaW.PrintLast Go.Proofs.YtaiallgcobpkaaaW.PrintMore Go.Proofs.Ytaiallgcobpkaaa.Base
set_option linter.unusedVariables false
set_option linter.unusedSimpArgs false

theorem info4 : (Try.prog.info? 4).map (fun i => (i.zero, i.size, i.bytes)) = some (some (.bool false), 1, 1) := by kernel_rfl

/-- All blocks but those of P are as they were. -/
structure Only (P : Nat → Prop) (w w' : World) : Prop where
  os : w'.os = w.os
  tape : w'.tape = w.tape
  output : w'.output = w.output
  size : w.heap.size ≤ w'.heap.size
  block : ∀ k, k < w.heap.size → ¬ P k → w'.heap[k]? = w.heap[k]?
theorem Only.refl (P : Nat → Prop) (w : World) : Only P w w := ⟨rfl, rfl, rfl, Nat.le_refl _, fun _ _ _ => rfl⟩
theorem Only.mono {P Q : Nat → Prop} {w w' : World} (h : Only P w w') (hq : ∀ k, P k → Q k) : Only Q w w' := ⟨h.os, h.tape, h.output, h.size, fun k hk hn => h.block k hk (fun hp => hn (hq k hp))⟩
theorem Only.set {P : Nat → Prop} {w w' : World} (h : Only P w w') {p : Addr} (hp : P p.block) (u : Value) : Only P w (w'.setCell p u) :=
  ⟨h.os, h.tape, h.output, by simpa [World.setCell] using h.size, fun k hk hn => (Below.heap_setCell w' p u k (fun e => hn (e ▸ hp))).trans (h.block k hk hn)⟩
theorem Only.drew {P : Nat → Prop} {w w' : World} (h : Only P w w') : Only P w w'.drew := ⟨h.os, h.tape, h.output, h.size, h.block⟩
theorem Only.drewN {P : Nat → Prop} {w w' : World} (h : Only P w w') (n : Nat) : Only P w (w'.drewN n) := ⟨h.os, h.tape, h.output, h.size, h.block⟩
theorem Only.below {P : Nat → Prop} {B : Nat} {w0 w w' : World} (h : Only P w w') (hP : ∀ k, P k → B ≤ k) (hb : Below B w0 w) (hB : B ≤ w.heap.size) : Below B w0 w' :=
  hb.trans ⟨h.os, h.tape, h.output, h.size, fun k hk => h.block k (by omega) (fun hp => by have := hP k hp; omega)⟩

/-- A wire's block. -/
def At (w : World) (g : Nat) (vl vm : Value) (i ones bent : Int) : Prop := w.heap[g]? = some (.cells #[vl, .int .i64 i, vm, .int .i64 ones, .int .i64 bent] 44 (0, 0))
theorem At.cells {w : World} {g : Nat} {vl vm : Value} {i ones bent : Int} (h : At w g vl vm i ones bent) :
    w.cell? ⟨g, 0, none⟩ = some vl ∧ w.cell? ⟨g, 1, none⟩ = some (.int .i64 i) ∧ w.cell? ⟨g, 2, none⟩ = some vm ∧ w.cell? ⟨g, 3, none⟩ = some (.int .i64 ones) ∧ w.cell? ⟨g, 4, none⟩ = some (.int .i64 bent) := by
  unfold At at h
  refine ⟨?_, ?_, ?_, ?_, ?_⟩ <;> simp [World.cell?, h]
theorem At.frozen {w : World} {g : Nat} {vl vm : Value} {i ones bent : Int} (h : At w g vl vm i ones bent) (j : Nat) : w.frozen? ⟨g, j, none⟩ = false := by
  unfold At at h
  simp [World.frozen?, h]

set_option maxHeartbeats 4000000 in
set_option maxRecDepth 100000 in
theorem bent_calls (g : Nat) (vl vm : Value) (i ones bent : Int) (w : World) (h : At w g vl vm i ones bent) :
    Calls Try.prog 13 #[.pointer (some ⟨g, 0, none⟩)] w fun e w' => e = .returned (.int .i64 bent) ∧ w' = w := by
  obtain ⟨c0, c1, c2, c3, c4⟩ := h.cells
  go_enter Try.func13, Try.ntmps13
  go_wp2
  go_ret
  exact ⟨rfl, rfl⟩
theorem At.set1 {w : World} {g : Nat} {vl vm : Value} {i ones bent : Int} (h : At w g vl vm i ones bent) (x : Int) : At (w.setCell ⟨g, 1, none⟩ (.int .i64 x)) g vl vm x ones bent := by
  have e := blk_set h 1 (.int .i64 x)
  exact e
theorem At.set2 {w : World} {g : Nat} {vl vm : Value} {i ones bent : Int} (h : At w g vl vm i ones bent) (x : Value) : At (w.setCell ⟨g, 2, none⟩ x) g vl x i ones bent := by
  have e := blk_set h 2 x
  exact e
theorem At.set3 {w : World} {g : Nat} {vl vm : Value} {i ones bent : Int} (h : At w g vl vm i ones bent) (x : Int) : At (w.setCell ⟨g, 3, none⟩ (.int .i64 x)) g vl vm i x bent := by
  have e := blk_set h 3 (.int .i64 x)
  exact e
theorem At.set4 {w : World} {g : Nat} {vl vm : Value} {i ones bent : Int} (h : At w g vl vm i ones bent) (x : Int) : At (w.setCell ⟨g, 4, none⟩ (.int .i64 x)) g vl vm i ones x := by
  have e := blk_set h 4 (.int .i64 x)
  exact e
theorem At.far {w : World} {g : Nat} {vl vm : Value} {i ones bent : Int} (h : At w g vl vm i ones bent) {p : Addr} (hp : g ≠ p.block) (u : Value) : At (w.setCell p u) g vl vm i ones bent := blk_far h hp u
theorem At.drew {w : World} {g : Nat} {vl vm : Value} {i ones bent : Int} (h : At w g vl vm i ones bent) : At w.drew g vl vm i ones bent := h
theorem At.drewN {w : World} {g : Nat} {vl vm : Value} {i ones bent : Int} (h : At w g vl vm i ones bent) (n : Nat) : At (w.drewN n) g vl vm i ones bent := h
theorem At.only {P : Nat → Prop} {w w' : World} {g : Nat} {vl vm : Value} {i ones bent : Int} (h : At w g vl vm i ones bent) (ho : Only P w w') (hp : ¬ P g) : At w' g vl vm i ones bent :=
  (ho.block g (Array.getElem?_eq_some_iff.1 h).1 hp).trans h
/-- A row of bits, whole. -/
def Row (w : World) (g : Nat) (l : List Bool) : Prop := w.heap[g]? = some (.cells (encs Value.bool l).toArray 4 (0, 0))
theorem Row.far {w : World} {g : Nat} {l : List Bool} (h : Row w g l) {p : Addr} (hp : g ≠ p.block) (u : Value) : Row (w.setCell p u) g l := blk_far h hp u
theorem Row.drew {w : World} {g : Nat} {l : List Bool} (h : Row w g l) : Row w.drew g l := h
theorem Row.drewN {w : World} {g : Nat} {l : List Bool} (h : Row w g l) (n : Nat) : Row (w.drewN n) g l := h
theorem Row.only {P : Nat → Prop} {w w' : World} {g : Nat} {l : List Bool} (h : Row w g l) (ho : Only P w w') (hp : ¬ P g) : Row w' g l := (ho.block g (Array.getElem?_eq_some_iff.1 h).1 hp).trans h
theorem Row.set {w : World} {g : Nat} {l : List Bool} (h : Row w g l) (i : Nat) (b : Bool) : Row (w.setCell ⟨g, i, none⟩ (.bool b)) g (l.set i b) := by
  have e := blk_set h i (.bool b)
  unfold Row
  rw [e]
  congr 2
  simp [encs]
theorem Row.cell {w : World} {g : Nat} {l : List Bool} (h : Row w g l) (i : Nat) (hi : i < l.length) : w.cell? ⟨g, i, none⟩ = some (.bool l[i]) := by
  unfold Row at h
  simp [World.cell?, h, encs, List.getElem?_eq_getElem hi]
theorem Row.frozen {w : World} {g : Nat} {l : List Bool} (h : Row w g l) (j : Nat) : w.frozen? ⟨g, j, none⟩ = false := by
  unfold Row at h
  simp [World.frozen?, h]
theorem At.to {w : World} {g : Nat} {vl vm : Value} {i i' ones ones' bent bent' : Int} (h : At w g vl vm i ones bent) (e1 : i = i') (e2 : ones = ones') (e3 : bent = bent') : At w g vl vm i' ones' bent' := by
  subst e1; subst e2; subst e3; exact h
theorem turn_at (i n : Nat) (hi : i < n) (hn : n < 4611686018427387904) : wrap64 (Int.tmod (wrap64 ((i : Int) + 1)) (n : Int)) = (((i + 1) % n : Nat) : Int) := by
  have e : wrap64 ((i : Int) + 1) = ((i + 1 : Nat) : Int) := by unfold wrap64; omega
  rw [e, Int.tmod_eq_emod_of_nonneg (by omega), ← Int.natCast_emod]
  have := Nat.mod_lt (i + 1) (show 0 < n by omega)
  unfold wrap64; omega
/-- The first bit of a mask is cut off. -/
theorem cut_mask (A : Option Addr) (n c : Nat) (hn : 1 ≤ n) :
    ∀ W : World, (Instr.slice 41 (.slice A n c) (some (.int .i64 1)) none none).run Try.prog W = .ok (.slice (if c = 1 then A else A.map (·.add 1)) (n - 1) (c - 1)) W := by
  intro W
  obtain ⟨i0, hi0, _, hsz, _⟩ := info_parts info4
  have hel : Try.prog.elem 41 = 4 := by simp [Program.elem, Try.underlying41]
  have hu : Try.prog.underlying 41 = some (.slice (Try.prog.elem 41)) := by rw [hel]; exact Try.underlying41
  rw [run_slice_l W 41 A n c hu .i64 (1 : Int) (by omega) (by omega), hel]
  simp [sizeOf, typeInfo, hi0, hsz, sliced, Result.andThen]
end Go.Proofs.Ytaiallgcobpkaaa.Wire
