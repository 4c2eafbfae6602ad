/- The law OutageTwice: what is said twice is said once. No condition. -/
import Derived.Test.YtlimjjfcbmjlfaaRows
import Derived.Test.YtlimjjfcbmjlfaaMOutageTwicex
import Derived.WalkKit
import Derived.ProofKit
import Derived.OpenShut
import Derived.ChangeOld
import Derived.Below
import Derived.Lib.SmallJoins
namespace Go.Proofs.Ytlimjjfcbmjlfaa.outageTwice
open Go.ChangeShapes Go.WideShapes Go.ChangeAt Go.RowKit Go.Joins
set_option linter.unusedVariables false
theorem own : ownKnob Try.prog.godebug = none := by kernel_rfl
theorem cells23 : Try.prog.cellsOf 23 = 3 := by kernel_rfl
theorem walk (a b c d : Bool) (w : World) : Calls Try.prog 5 #[.agg #[.bool a, .bool b, .bool c], .bool d] w fun e w' => e = .returned (.bool true) ∧ Below w.heap.size w w' :=
  (MOutageTwice.signalmanlaw15_OutageTwice.calls a b c d true w rfl (by cases a <;> cases b <;> cases c <;> cases d <;> rfl)).mono fun _ _ ⟨h, hb⟩ => ⟨h, hb⟩
set_option maxRecDepth 100000 in
theorem lifted (os : Os) (started : os.Started) (H : Type) (enc : TypeId × Value → H) :
    ReturnsInHanded {} Try.checked os 5 .any (Rows.outageTwiceSpec.pre6 enc Try.prog Try.f5 Rows.outageTwiceRow.domain false) (Rows.outageTwiceSpec.post enc Try.prog Try.f5 false true false false) := by
  refine returnsInHanded_of_change (C := Try.checked) own started (by kernel_rfl) Try.func5
    (ChangeSpec.witness6 (enc := enc) (C := Try.checked) false ⟨#[], #[.agg #[.bool false, .bool false, .bool false], .bool false], []⟩ 8 (by kernel_rfl) (by kernel_rfl) (by kernel_rfl) (by kernel_rfl)) ?_
  intro W base args ds gs before hval0 hW _ _
  have hval : ∀ (j : Nat) t v, Try.f5.params[j]? = some t → args[j]? = some v → Value.okWide Try.prog W .any base t v := hval0
  have hW' := hW
  obtain ⟨p, q, hA0, hV, rfl, _, _⟩ := hW
  have hA : DataW.TrodAll enc Try.prog W 0 (fun _ => true) true Try.f5.params.toList args.toList ds p := hA0
  rw [Try.params5] at hA hval
  obtain ⟨v0, v1, d0, d1, p0, p1, rfl, rfl, rfl, h0, h1⟩ := trodAll_two hA
  obtain ⟨rfl, rfl⟩ := trodVars_none hV
  obtain ⟨c0, c1, c2, y0, y1, y2, m, rfl, rfl, rfl, hy0, hy1, hy2⟩ := open_agg3 Try.underlying23 (by kernel_rfl) cells23 (hval 0 23 v0 rfl rfl) h0
  obtain ⟨a, e0, rfl⟩ := DataW.trod_bool Try.underlying4 hy0
  obtain ⟨b, e1, rfl⟩ := DataW.trod_bool Try.underlying4 hy1
  obtain ⟨c, e2, rfl⟩ := DataW.trod_bool Try.underlying4 hy2
  simp at e0 e1 e2
  subst e0 e1 e2
  obtain ⟨d, rfl, rfl, rfl⟩ := open_bool Try.underlying4 (hval 1 4 v1 rfl rfl) h1
  clear hA0 hval0
  simp only [List.append_nil] at hW'
  have structReads : ∀ (W' : World) (sp : Nat → Bool), DataW.Trod enc Try.prog W' 0 sp true 23 (.agg #[.bool a, .bool b, .bool c]) (.agg [.lit (.bool a), .lit (.bool b), .lit (.bool c)]) [] := fun W' sp =>
    shut_agg3 (y0 := (.lit (.bool a), [])) (y1 := (.lit (.bool b), [])) (y2 := (.lit (.bool c), [])) Try.underlying23 (by kernel_rfl) cells23 ⟨1, by simp [DataW.trod, Try.underlying4]⟩ ⟨1, by simp [DataW.trod, Try.underlying4]⟩ ⟨1, by simp [DataW.trod, Try.underlying4]⟩
  refine (walk a b c d W).mono fun e W' ⟨he, bel⟩ => ?_
  subst he
  exact ⟨_, rfl, _, _, _, [], [], [], hW', trodAll_mk1 (shut_bool Try.underlying4 _), trodAll_mk2 (structReads _ _) (shut_bool Try.underlying4 _), rfl, bel.frame _, fun h => by cases h⟩
theorem over : Rows.outageTwiceRow.holds Try.pinned (OpenSpec.ofChange Rows.outageTwiceSpec) :=
  OpenClaim.holds_of_wide 5 Try.f5 rfl rfl rfl rfl rfl rfl rfl ⟨rfl, rfl, rfl, rfl, rfl⟩ rfl rfl rfl rfl rfl (by kernel_rfl) Try.func5 (by kernel_rfl)
    (of_decide_eq_true (by kernel_rfl)) (by unfold Func.isWrapper; first | (rw [if_pos (by decide +kernel)]; kernel_rfl) | (rw [if_neg (by decide +kernel)]; exact ⟨rfl, rfl⟩))
    (fun os started H enc _ => lifted os started H enc)
theorem proved : Rows.OutageTwiceSaid := over
#print axioms proved
end Go.Proofs.Ytlimjjfcbmjlfaa.outageTwice
namespace Go.Proofs.Ytlimjjfcbmjlfaa
theorem outageTwice_holds : Rows.OutageTwiceSaid := outageTwice.proved
end Go.Proofs.Ytlimjjfcbmjlfaa
