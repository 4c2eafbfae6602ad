/- Ways through (*wire.Wire).Pass: written by wip/gen/wire.py. No condition. -/
import Derived.Test.YtaiallgcobpkaaaWire
namespace Go.Proofs.Ytaiallgcobpkaaa.Wire
open Go Go.RowKit Go.Proofs.Ytaiallgcobpkaaa Go.Proofs.YtaiallgcobpkaaaW.PrintWords Go.Proofs.YtaiallgcobpkaaaW.PrintLast Go.Proofs.YtaiallgcobpkaaaW.PrintMore Go.Proofs.Ytaiallgcobpkaaa.Base
set_option linter.unusedVariables false
set_option linter.unusedSimpArgs false
set_option maxHeartbeats 8000000 in
set_option maxRecDepth 100000 in
theorem pass_fz_l (g gl : Nat) (l : List Bool) (i : Nat) (bent : Nat) (hbent : bent < 4611686018427387904) (ad : Addr) (m mc : Nat) (hm : 0 < m) (A1 : Option Addr) (hcut : ∀ W : World, (Instr.slice 41 (.slice (some ad) m mc) (some (.int .i64 1)) none none).run Try.prog W = .ok (.slice A1 (m - 1) (mc - 1)) W) (on : Bool) (w : World) (h : At w g (.slice (some ⟨gl, 0, none⟩) l.length l.length) (.slice (some ad) m mc) i 0 bent) (cm : w.cell? ad = some (.bool false)) (hne : gl ≠ g) (hr : Row w gl l) (hi : i < l.length) (hl : l.length < 4611686018427387904) :
    Calls Try.prog 11 #[.pointer (some ⟨g, 0, none⟩), .bool on] w fun e w' => e = .returned (.bool l[i]) ∧ At w' g (.slice (some ⟨gl, 0, none⟩) l.length l.length) (.slice A1 (m - 1) (mc - 1)) (((i + 1) % l.length : Nat) : Int) 0 ((bent + 0 : Nat) : Int) ∧ Row w' gl (l.set i on) ∧ Only (fun k => k = g ∨ k = gl) w w' := by
  obtain ⟨c0, c1, c2, c3, c4⟩ := h.cells
  have f1 := h.frozen 1
  have f2 := h.frozen 2
  have f3 := h.frozen 3
  have f4 := h.frozen 4
  have m1 : decide (0 < (m : Int)) = true := decide_eq_true (by omega)
  have m2 : decide (0 < m) = true := decide_eq_true (by omega)
  have m3 := eq_true (show (0 : Int) < (m : Int) by omega)
  have m4 := eq_true (show 0 < m by omega)
  have cr := hr.cell i hi
  have fr := hr.frozen i
  have hne2 : ¬ g = gl := fun e => hne e.symm
  have p1 := eq_true (show 0 ≤ (i : Int) by omega)
  have p2 := eq_true (show (i : Int) < (l.length : Int) by omega)
  have q2 : ((l.length : Int) == 0) = false := beq_eq_false_iff_ne.mpr (by omega)
  have q3 : (l.length == 0) = false := beq_eq_false_iff_ne.mpr (by omega)
  have q4 : ¬ (l.length = 0) := by omega
  have q5 : ¬ ((l.length : Int) = 0) := by omega
  go_enter Try.func11, Try.ntmps11
  go_wp2
  repeat (go_quiet (fail); try go_wp2)
  go_region
  go_wp2
  go_region
  go_wp2
  go_ret
  refine ⟨by first | rfl | simp, ?_, ?_, ?_⟩
  · apply At.to
    · repeat (with_reducible first | exact h | apply At.drew | apply At.drewN | apply At.set1 | apply At.set2 | apply At.set3 | apply At.set4 | (apply At.far (hp := hne2)))
    · first | rfl | exact turn_at _ _ (by omega) (by omega) | (unfold wrap64; omega) | (have z_ := turn_at i l.length hi hl; simp only [wrap64] at z_ ⊢; omega) | (rw [← turn_at i l.length hi hl]; simp)
    · first | rfl | omega | (unfold wrap64; omega)
    · first | rfl | omega | (unfold wrap64; omega)
  · repeat (with_reducible first | exact hr | refine Row.drew ?_ | refine Row.drewN ?_ _ | refine Row.set ?_ _ _ | refine Row.far ?_ hne _)
  · repeat (with_reducible first | exact Only.refl _ _ | refine Only.drew ?_ | refine Only.drewN ?_ _ | refine Only.set ?_ (Or.inl rfl) _ | refine Only.set ?_ (Or.inr rfl) _)
set_option maxHeartbeats 8000000 in
set_option maxRecDepth 100000 in
theorem pass_fz_n (g gl : Nat) (i : Nat) (bent : Nat) (hbent : bent < 4611686018427387904) (ad : Addr) (m mc : Nat) (hm : 0 < m) (A1 : Option Addr) (hcut : ∀ W : World, (Instr.slice 41 (.slice (some ad) m mc) (some (.int .i64 1)) none none).run Try.prog W = .ok (.slice A1 (m - 1) (mc - 1)) W) (on : Bool) (w : World) (h : At w g (.slice (some ⟨gl, 0, none⟩) 0 0) (.slice (some ad) m mc) i 0 bent) (cm : w.cell? ad = some (.bool false)) :
    Calls Try.prog 11 #[.pointer (some ⟨g, 0, none⟩), .bool on] w fun e w' => e = .returned (.bool on) ∧ At w' g (.slice (some ⟨gl, 0, none⟩) 0 0) (.slice A1 (m - 1) (mc - 1)) (i : Int) 0 ((bent + 0 : Nat) : Int) ∧ Only (fun k => k = g) w w' := by
  obtain ⟨c0, c1, c2, c3, c4⟩ := h.cells
  have f1 := h.frozen 1
  have f2 := h.frozen 2
  have f3 := h.frozen 3
  have f4 := h.frozen 4
  have m1 : decide (0 < (m : Int)) = true := decide_eq_true (by omega)
  have m2 : decide (0 < m) = true := decide_eq_true (by omega)
  have m3 := eq_true (show (0 : Int) < (m : Int) by omega)
  have m4 := eq_true (show 0 < m by omega)
  go_enter Try.func11, Try.ntmps11
  go_wp2
  go_ret
  refine ⟨by first | rfl | simp, ?_, ?_⟩
  · apply At.to
    · repeat (with_reducible first | exact h | apply At.drew | apply At.drewN | apply At.set1 | apply At.set2 | apply At.set3 | apply At.set4 | (apply At.far (hp := hne2)))
    · first | rfl | exact turn_at _ _ (by omega) (by omega) | (unfold wrap64; omega)
    · first | rfl | omega | (unfold wrap64; omega)
    · first | rfl | omega | (unfold wrap64; omega)
  · repeat (with_reducible first | exact Only.refl _ _ | refine Only.drew ?_ | refine Only.drewN ?_ _ | refine Only.set ?_ (by rfl) _)
end Go.Proofs.Ytaiallgcobpkaaa.Wire
