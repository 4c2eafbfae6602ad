/- The row of the law FlagCuts, out of its walk and its Pure: the lists that come in are opened to their cells. No condition. Written for this claim (the row's frame is the one that the print writes for its laws). -/
import Derived.Test.YtonhgiclaieamaaRows
import Derived.Test.YtonhgiclaieamaaMFlagCutsx
import Derived.Test.YtonhgiclaieamaaPureFlagCuts
import Derived.WalkKit
import Derived.ProofKit
import Derived.OpenShut
import Derived.ShutString
import Derived.ChangeOld
import Derived.Below
import Derived.SizedLaws
import Derived.Deep.Matrix
import Derived.ChangeSame
import Derived.Test.YtonhgiclaieamaaWSized
namespace Go.Proofs.Ytonhgiclaieamaa.flagCuts
open Go.ChangeShapes Go.WideShapes Go.ChangeAt Go.RowKit Go.Deep Go.Proofs.YtonhgiclaieamaaW.PrintWords
open Go.ChangeMaps (open_string shut_string)
set_option linter.unusedVariables false
theorem own : ownKnob Try.prog.godebug = none := by kernel_rfl
theorem laidOut : laidOutB Try.prog = true := by kernel_rfl
theorem open_row {H : Type} {enc : TypeId × Value → H} {w : World} {fuel : Nat} {cs : List Value} {x : DataW H × List MemPlace} (h : DataW.trod enc Try.prog w 0 (fun _ => true) true fuel 22 cs = some x) :
    ∃ (A : Option Addr) (c : Nat) (l : List Int), cs = [.slice A l.length c] ∧ l.length ≤ c ∧ Kd.C (Kd.int .u8) w A l.length l ∧ ∀ y ∈ l, 0 ≤ y ∧ y < 256 := by
  rcases open_ints Try.underlying22 Try.underlying5 (by kernel_rfl) h with ⟨hcs, _⟩ | ⟨b, l, c, zs, hcs, _, hl, hm, hz, _, hcell, hwz⟩
  · exact ⟨none, 0, [], hcs, Nat.le_refl _, Kd.C_of_reads (d := (0 : Int)) (h1 := fun _ => rfl) (ReadsInt.nil w .u8), by simp⟩
  · simp only [if_true] at hz
    obtain ⟨q, e, hr, _, hw, hc⟩ := ReadsInt.ofRowC (k := .u8) (w := w) (a := some b) (len := l) (cap := c) (zs := zs) (.inr ⟨b, rfl, hl, hm, hz, fun i hi => hcell i hi, hwz⟩)
    subst e
    exact ⟨some b, c, q, hcs, hc, Kd.C_of_reads (d := (0 : Int)) (h1 := fun _ => rfl) hr, fun y hy => Pure.wf8 (hw y hy)⟩
theorem open_rows {H : Type} {enc : TypeId × Value → H} {w : World} {fuel : Nat} {cs : List Value} {x : DataW H × List MemPlace} (h : DataW.trod enc Try.prog w 0 (fun _ => true) true fuel 43 cs = some x) :
    ∃ (A : Option Addr) (c : Nat) (ll : List (List Int)), cs = [.slice A ll.length c] ∧ ll.length ≤ c ∧ Kd.C (Kd.slice 5 (Kd.int .u8)) w A ll.length ll ∧ ∀ q ∈ ll, ∀ y ∈ q, 0 ≤ y ∧ y < 256 := by
  rcases open_int_rows Try.underlying43 Try.underlying22 Try.underlying5 (by kernel_rfl) (by kernel_rfl) h with ⟨hcs, _⟩ | ⟨a, len, cap, A, L, C, Z, hcs, _, hl, hm, _, hr⟩
  · exact ⟨none, 0, [], hcs, Nat.le_refl _, ⟨rfl, Nat.zero_le _, fun h => absurd h (Nat.lt_irrefl 0)⟩, by simp⟩
  · have hlen : ((List.range len).map (fun r => (Z r).take (L r))).length = len := by simp
    have each : ∀ r, r < len → ((Z r).take (L r)).length = L r := fun r hlt => by
      obtain ⟨_, h1, _, h2, _⟩ := hr r (by omega)
      rw [List.length_take]; omega
    refine ⟨some a, cap, (List.range len).map (fun r => (Z r).take (L r)), by rw [hlen]; exact hcs, by rw [hlen]; exact hl, ?_, ?_⟩
    · refine ⟨rfl, by rw [hlen]; simp only [maxLen] at hm; omega, fun _ => ⟨a, rfl, fun j p hj => ?_⟩⟩
      obtain ⟨hlt, hp⟩ := List.getElem?_eq_some_iff.1 hj
      rw [hlen] at hlt
      rw [List.getElem_map, List.getElem_range] at hp
      obtain ⟨h0, h1, h2, h3, h4, h5, h6⟩ := hr j (by omega)
      have hpl : p.length = L j := by rw [← hp]; exact each j hlt
      refine ⟨[.slice (A j) (L j) (C j)], rfl, ⟨A j, C j, by rw [hpl], by rw [hpl]; exact h1, ?_⟩, fun i u hu => ?_⟩
      · refine Kd.C_of_reads (d := (0 : Int)) (h1 := fun _ => rfl) ⟨rfl, by rw [hpl]; simp only [maxLen] at h2; omega, fun hn => ?_⟩
        cases hA : A j with
        | none => have := h5 hA; omega
        | some a' =>
          refine ⟨a', rfl, fun c hc => ?_⟩
          have := (h6 a' hA).2 c (by omega)
          rw [this, ← hp]
          simp [List.getD_eq_getElem?_getD, show c < L j by omega]
      · cases i with
        | zero =>
          have : Value.slice (A j) (L j) (C j) = u := by simpa using hu
          subst this
          show w.cell? (a.add (j * 1 + 0)) = _
          rw [Nat.mul_one, Nat.add_zero]
          exact h0
        | succ i => simp at hu
    · intro q hq y hy
      rw [List.mem_map] at hq
      obtain ⟨r, hrr, rfl⟩ := hq
      exact Pure.wf8 ((hr r (by have := List.mem_range.1 hrr; omega)).2.2.2.2.1 y (List.mem_of_mem_take hy))
set_option maxRecDepth 100000 in
theorem lifted (os : Os) (started : os.Started) (H : Type) (enc : TypeId × Value → H) :
    ReturnsInHanded {} Try.checked os 6 .any (Rows.flagCutsSpec.pre6 enc Try.prog Try.f6 Rows.flagCutsRow.domain false) (Rows.flagCutsSpec.post enc Try.prog Try.f6 false true false false) := by
  refine returnsInHanded_of_change_sized (C := Try.checked) own started (by kernel_rfl) Try.func6
    (ChangeSpec.witness6 (enc := enc) (C := Try.checked) false ⟨#[], #[.slice none 0 0, .slice none 0 0, .slice none 0 0, .slice none 0 0], []⟩ 8 (by kernel_rfl) (by kernel_rfl) (by kernel_rfl) (by kernel_rfl)) ?_
  intro W base args ds gs before hval0 hW hcnd hsz0 _
  have hval : ∀ (j : Nat) t v, Try.f6.params[j]? = some t → args[j]? = some v → Value.okWide Try.prog W .any base t v := hval0
  have hW' := hW
  obtain ⟨p, q, hA0, hV, rfl, hfz, hnd⟩ := hW
  have hA : DataW.TrodAll enc Try.prog W 0 (fun _ => true) true Try.f6.params.toList args.toList ds p := hA0
  rw [Try.params6] at hA hval
  obtain ⟨v0, vs0, d0, ds0, p0, q0, hargs, rfl, rfl, h0, r0⟩ := trodAll_cons hA
  obtain ⟨v1, vs1, d1, ds1, p1, q1, rfl, rfl, rfl, h1, r1⟩ := trodAll_cons r0
  obtain ⟨v2, vs2, d2, ds2, p2, q2, rfl, rfl, rfl, h2, r2⟩ := trodAll_cons r1
  obtain ⟨v3, vs3, d3, ds3, p3, q3, rfl, rfl, rfl, h3, r3⟩ := trodAll_cons r2
  obtain ⟨rfl, rfl, rfl⟩ := trodAll_nil r3
  obtain rfl : args = #[v0, v1, v2, v3] := by cases args; simp_all
  obtain ⟨rfl, rfl⟩ := trodVars_none hV
  obtain ⟨a0, len0, cap0, rfl⟩ := okWide_slice Try.underlying43 (hval 0 43 v0 rfl rfl)
  have k0 := h0
  have lt0 : ∀ x ∈ p0, x.block < W.heap.size := by obtain ⟨m, hm⟩ := k0; exact DataW.trod_lt m _ _ _ hm
  obtain ⟨l0, e0, hc0, hr0, hw0⟩ : ∃ l : List (List Int), len0 = l.length ∧ l.length ≤ cap0 ∧ Kd.C (Kd.slice 5 (Kd.int .u8)) W a0 l.length l ∧ ∀ q ∈ l, ∀ y ∈ q, 0 ≤ y ∧ y < 256 := by
    obtain ⟨fuel, hf⟩ := h0
    obtain ⟨A, c, l, hcs, hc, hr, hw⟩ := open_rows hf
    simp [Value.cells] at hcs
    obtain ⟨rfl, rfl, rfl⟩ := hcs
    exact ⟨l, rfl, hc, hr, hw⟩
  subst e0
  obtain ⟨a1, len1, cap1, rfl⟩ := okWide_slice Try.underlying22 (hval 1 22 v1 rfl rfl)
  have k1 := h1
  have lt1 : ∀ x ∈ p1, x.block < W.heap.size := by obtain ⟨m, hm⟩ := k1; exact DataW.trod_lt m _ _ _ hm
  obtain ⟨l1, e1, hc1, hr1, hw1⟩ : ∃ l : List Int, len1 = l.length ∧ l.length ≤ cap1 ∧ Kd.C (Kd.int .u8) W a1 l.length l ∧ ∀ y ∈ l, 0 ≤ y ∧ y < 256 := by
    obtain ⟨fuel, hf⟩ := h1
    obtain ⟨A, c, l, hcs, hc, hr, hw⟩ := open_row hf
    simp [Value.cells] at hcs
    obtain ⟨rfl, rfl, rfl⟩ := hcs
    exact ⟨l, rfl, hc, hr, hw⟩
  subst e1
  obtain ⟨a2, len2, cap2, rfl⟩ := okWide_slice Try.underlying22 (hval 2 22 v2 rfl rfl)
  have k2 := h2
  have lt2 : ∀ x ∈ p2, x.block < W.heap.size := by obtain ⟨m, hm⟩ := k2; exact DataW.trod_lt m _ _ _ hm
  obtain ⟨l2, e2, hc2, hr2, hw2⟩ : ∃ l : List Int, len2 = l.length ∧ l.length ≤ cap2 ∧ Kd.C (Kd.int .u8) W a2 l.length l ∧ ∀ y ∈ l, 0 ≤ y ∧ y < 256 := by
    obtain ⟨fuel, hf⟩ := h2
    obtain ⟨A, c, l, hcs, hc, hr, hw⟩ := open_row hf
    simp [Value.cells] at hcs
    obtain ⟨rfl, rfl, rfl⟩ := hcs
    exact ⟨l, rfl, hc, hr, hw⟩
  subst e2
  obtain ⟨a3, len3, cap3, rfl⟩ := okWide_slice Try.underlying22 (hval 3 22 v3 rfl rfl)
  have k3 := h3
  have lt3 : ∀ x ∈ p3, x.block < W.heap.size := by obtain ⟨m, hm⟩ := k3; exact DataW.trod_lt m _ _ _ hm
  obtain ⟨l3, e3, hc3, hr3, hw3⟩ : ∃ l : List Int, len3 = l.length ∧ l.length ≤ cap3 ∧ Kd.C (Kd.int .u8) W a3 l.length l ∧ ∀ y ∈ l, 0 ≤ y ∧ y < 256 := by
    obtain ⟨fuel, hf⟩ := h3
    obtain ⟨A, c, l, hcs, hc, hr, hw⟩ := open_row hf
    simp [Value.cells] at hcs
    obtain ⟨rfl, rfl, rfl⟩ := hcs
    exact ⟨l, rfl, hc, hr, hw⟩
  subst e3
  clear hA0 hval0 hsz0
  refine (MFlagCuts.signalmanlaw05_FlagCuts.walk Pure.FlagCuts a0 a1 a2 a3 cap0 cap1 cap2 cap3 l0 l1 l2 l3 W hr0 hc0 hr1 hc1 hr2 hc2 hr3 hc3 hw0 hw1 hw2 hw3).mono fun e W' ⟨he, bel⟩ => ?_
  subst he
  exact ⟨_, rfl, _, _, _, [], _, [], hW', trodAll_mk1 (shut_bool Try.underlying4 _), (trodAll_cons_mk (Below.trod laidOut (by kernel_rfl) (of_decide_eq_true (by kernel_rfl)) k0 bel lt0) (trodAll_cons_mk (Below.trod laidOut (by kernel_rfl) (of_decide_eq_true (by kernel_rfl)) k1 bel lt1) (trodAll_cons_mk (Below.trod laidOut (by kernel_rfl) (of_decide_eq_true (by kernel_rfl)) k2 bel lt2) (trodAll_cons_mk (Below.trod laidOut (by kernel_rfl) (of_decide_eq_true (by kernel_rfl)) k3 bel lt3) trodAll_mk0)))), rfl, bel.frame _, fun h => by cases h⟩
theorem over : Rows.flagCutsRow.holds Try.pinned (OpenSpec.ofChange Rows.flagCutsSpec) :=
  OpenClaim.holds_of_wide 6 Try.f6 rfl rfl rfl rfl rfl rfl rfl ⟨rfl, rfl, rfl, rfl, rfl⟩ rfl rfl rfl rfl rfl (by kernel_rfl) Try.func6 (by kernel_rfl)
    (of_decide_eq_true (by kernel_rfl)) (by unfold Func.isWrapper; first | (rw [if_pos (by decide +kernel)]; kernel_rfl) | (rw [if_neg (by decide +kernel)]; exact ⟨rfl, rfl⟩))
    (fun os started H enc _ => lifted os started H enc)
theorem proved : Rows.FlagCutsSaid := over
#print axioms proved
end Go.Proofs.Ytonhgiclaieamaa.flagCuts
namespace Go.Proofs.Ytonhgiclaieamaa
/-- The row, under a short name, for the claim. -/
theorem flagCuts_holds : Rows.FlagCutsSaid := flagCuts.proved
end Go.Proofs.Ytonhgiclaieamaa
