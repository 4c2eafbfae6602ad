/- The row of the law WirePlays, out of its walk and its Pure: the acts that come in are opened to their cells. No condition. Written for this claim (the row's frame is the one that the print writes for its laws). -/
import Derived.Test.YtaiallgcobpkaaaRows
import Derived.Test.YtaiallgcobpkaaaMWirePlaysx
import Derived.Test.YtaiallgcobpkaaaPureWirePlays
import Derived.WalkKit
import Derived.ProofKit
import Derived.OpenShut
import Derived.ShutString
import Derived.ChangeOld
import Derived.Below
import Derived.SizedLaws
import Derived.Deep.Slices
import Derived.Deep.Fields
import Derived.ChangeSame
import Derived.Test.YtaiallgcobpkaaaWSized
namespace Go.Proofs.Ytaiallgcobpkaaa.wirePlays
open Go.ChangeShapes Go.WideShapes Go.ChangeAt Go.RowKit Go.Deep Go.Proofs.YtaiallgcobpkaaaW.PrintWords
open Go.ChangeMaps (open_string shut_string)
set_option linter.unusedVariables false
theorem own : ownKnob Try.prog.godebug = none := by kernel_rfl
theorem laidOut : laidOutB Try.prog = true := by kernel_rfl
/-- One act that came in. -/
def IsAct (w : World) (x : Addr) (y : Int × Int × Option Addr × List Int × Nat) : Prop :=
  w.cell? x = some (.int .u8 y.1) ∧ w.cell? (x.add 1) = some (.int .u8 y.2.1) ∧ w.cell? (x.add 2) = some (.slice y.2.2.1 y.2.2.2.1.length y.2.2.2.2) ∧ Kd.C (Kd.int .u8) w y.2.2.1 y.2.2.2.1.length y.2.2.2.1 ∧ y.2.2.2.1.length ≤ y.2.2.2.2 ∧ (Lit.int .u8 y.1).wf = true ∧ (Lit.int .u8 y.2.1).wf = true ∧ ∀ n ∈ y.2.2.2.1, (Lit.int .u8 n).wf = true
theorem open_act {H : Type} {enc : TypeId × Value → H} {w : World} {n : Nat} {cs : List Value} {x : DataW H × List MemPlace} {a : Addr} (hc : w.cells? 0 a 3 = some cs) (h : DataW.trod enc Try.prog w 0 (fun _ => true) true n 39 cs = some x) : ∃ y, IsAct w a y := by
  obtain ⟨ys, n', hn', hy, hlen, hyl, hf⟩ := DataW.trod_struct Try.underlying39 h
  obtain ⟨_, hcl, hat⟩ := World.cells?_some hc
  have each : ∀ j (hj : j < 3), ∃ v y, w.cell? (a.add j) = some v ∧ DataW.trod enc Try.prog w 0 (fun _ => true) true n' (#[5, 5, 22][j]) [v] = some y := by
    intro j hj
    have hone : oneCellFields Try.prog #[{ name := "K", type := 5, offset := 0, embedded := false, tag := "", pkgPath := "", byteOffset := 0 }, { name := "N", type := 5, offset := 1, embedded := false, tag := "", pkgPath := "", byteOffset := 1 }, { name := "P", type := 22, offset := 2, embedded := false, tag := "", pkgPath := "", byteOffset := 8 }] = true := by kernel_rfl
    obtain ⟨f, hfj, hft⟩ : ∃ f, (#[{ name := "K", type := 5, offset := 0, embedded := false, tag := "", pkgPath := "", byteOffset := 0 }, { name := "N", type := 5, offset := 1, embedded := false, tag := "", pkgPath := "", byteOffset := 1 }, { name := "P", type := 22, offset := 2, embedded := false, tag := "", pkgPath := "", byteOffset := 8 }] : Array Field)[j]? = some f ∧ f.type = #[5, 5, 22][j] := by
      match j, hj with
      | 0, _ => exact ⟨_, rfl, rfl⟩
      | 1, _ => exact ⟨_, rfl, rfl⟩
      | 2, _ => exact ⟨_, rfl, rfl⟩
    obtain ⟨ho, hk⟩ := hone_of hone j f hfj
    have h1 := hf j f hfj
    rw [ho, hk, hft] at h1
    have hv : cs[j]? = some (cs[j]'(by omega)) := List.getElem?_eq_getElem (by omega)
    have hone' : (cs.drop j).take 1 = [cs[j]'(by omega)] := by
      rw [List.drop_eq_getElem_cons (by omega)]
      rfl
    rw [hone'] at h1
    have hyl3 : ys.length = 3 := hyl
    have hys : ys[j]? = some (ys[j]'(by omega)) := List.getElem?_eq_getElem (by omega)
    exact ⟨_, _, (hat j hj).trans hv, h1.trans hys⟩
  obtain ⟨v0, y0, c0, t0⟩ := each 0 (by decide)
  obtain ⟨v1, y1, c1, t1⟩ := each 1 (by decide)
  obtain ⟨v2, y2, c2, t2⟩ := each 2 (by decide)
  obtain ⟨K, e0, _, w0⟩ := DataW.trod_int Try.underlying5 t0
  obtain ⟨N, e1, _, w1⟩ := DataW.trod_int Try.underlying5 t1
  simp only [List.cons.injEq, and_true] at e0 e1
  subst e0
  subst e1
  rw [Addr.add_zero'] at c0
  rcases open_ints Try.underlying22 Try.underlying5 (by kernel_rfl) t2 with ⟨hcs, _⟩ | ⟨b, l, c, zs, hcs, _, hl, hm, hz, _, hcell, hwz⟩
  · simp only [List.cons.injEq, and_true] at hcs
    subst hcs
    exact ⟨(K, N, none, [], 0), c0, c1, c2, Kd.C_of_reads (d := (0 : Int)) (h1 := fun _ => rfl) (ReadsInt.nil w .u8), Nat.le_refl _, w0, w1, by simp⟩
  · simp only [List.cons.injEq, and_true] at hcs
    subst hcs
    simp only [if_true] at hz
    obtain ⟨q, e, hr, _, hw, hc⟩ := ReadsInt.ofRowC (k := .u8) (w := w) (a := some b) (len := l) (cap := c) (zs := zs) (.inr ⟨b, rfl, hl, hm, hz, fun i hi => hcell i hi, hwz⟩)
    subst e
    exact ⟨(K, N, some b, q, c), c0, c1, c2, Kd.C_of_reads (d := (0 : Int)) (h1 := fun _ => rfl) hr, hc, w0, w1, hw⟩
theorem add_zero_ (a : Addr) : a.add 0 = a := by simp [Addr.add]
theorem open_acts {H : Type} {enc : TypeId × Value → H} {w : World} {fuel : Nat} {cs : List Value} {x : DataW H × List MemPlace} (h : DataW.trod enc Try.prog w 0 (fun _ => true) true fuel 37 cs = some x) :
    ∃ (A : Option Addr) (n c : Nat) (y : Nat → Int × Int × Option Addr × List Int × Nat), cs = [.slice A n c] ∧ ∀ i, i < n → ∃ a, A = some a ∧ IsAct w (a.add (i * 3)) (y i) := by
  rcases open_slice Try.underlying37 h with ⟨hcs, _⟩ | ⟨a, len, cap, m, n, D, Pl, hcs, _, hl, hm, hmm, _, hi⟩
  · exact ⟨none, 0, 0, fun _ => (0, 0, none, [], 0), hcs, fun i hi => absurd hi (Nat.not_lt_zero i)⟩
  · simp only [if_true] at hmm
    have h3 : Try.prog.cellsOf 39 = 3 := by kernel_rfl
    rw [h3] at hi
    obtain ⟨y, hy⟩ := choose_lt (fun i him => by
      obtain ⟨cs', hc, ht⟩ := hi i (by omega : i < m)
      exact open_act hc ht : ∀ i, i < len → ∃ y, IsAct w (a.add (i * 3)) y)
    exact ⟨some a, len, cap, y, hcs, fun i hi => ⟨a, rfl, hy i hi⟩⟩
set_option maxRecDepth 100000 in
theorem lifted (os : Os) (started : os.Started) (H : Type) (enc : TypeId × Value → H) :
    ReturnsInHanded {} Try.checked os 6 .any (Rows.wirePlaysSpec.pre6 enc Try.prog Try.f6 Rows.wirePlaysRow.domain false) (Rows.wirePlaysSpec.post enc Try.prog Try.f6 false true false false) := by
  refine returnsInHanded_of_change_sized (C := Try.checked) own started (by kernel_rfl) Try.func6
    (ChangeSpec.witness6 (enc := enc) (C := Try.checked) false ⟨#[], #[.int .u8 0, .slice none 0 0], []⟩ 8 (by kernel_rfl) (by kernel_rfl) (by kernel_rfl) (by kernel_rfl)) ?_
  intro W base args ds gs before hval0 hW hcnd hsz0 _
  have hval : ∀ (j : Nat) t v, Try.f6.params[j]? = some t → args[j]? = some v → Value.okWide Try.prog W .any base t v := hval0
  have hW' := hW
  obtain ⟨p, q, hA0, hV, rfl, hfz, hnd⟩ := hW
  have hA : DataW.TrodAll enc Try.prog W 0 (fun _ => true) true Try.f6.params.toList args.toList ds p := hA0
  rw [Try.params6] at hA hval
  obtain ⟨v0, vs0, d0, ds0, p0, q0, hargs, rfl, rfl, h0, r0⟩ := trodAll_cons hA
  obtain ⟨v1, vs1, d1, ds1, p1, q1, rfl, rfl, rfl, h1, r1⟩ := trodAll_cons r0
  obtain ⟨rfl, rfl, rfl⟩ := trodAll_nil r1
  obtain rfl : args = #[v0, v1] := by cases args; simp_all
  obtain ⟨rfl, rfl⟩ := trodVars_none hV
  obtain ⟨a0, rfl, rfl, rfl, w0⟩ := open_int Try.underlying5 (hval 0 5 v0 rfl rfl) h0
  obtain ⟨a1, len1, cap1, rfl⟩ := okWide_slice Try.underlying37 (hval 1 37 v1 rfl rfl)
  have k1 := h1
  have lt1 : ∀ x ∈ p1, x.block < W.heap.size := by obtain ⟨m, hm⟩ := k1; exact DataW.trod_lt m _ _ _ hm
  obtain ⟨y, hy⟩ : ∃ y : Nat → Int × Int × Option Addr × List Int × Nat, ∀ i, i < len1 → ∃ a, a1 = some a ∧ IsAct W (a.add (i * 3)) (y i) := by
    obtain ⟨fuel, hf⟩ := h1
    obtain ⟨A, n, c, y, hcs, hy⟩ := open_acts hf
    simp [Value.cells] at hcs
    obtain ⟨rfl, rfl, rfl⟩ := hcs
    exact ⟨y, hy⟩
  clear hA0 hval0 hsz0
  have h8 : 0 ≤ a0 ∧ a0 < 256 := Pure.wf8 w0
  obtain ⟨dl, rfl⟩ := Int.eq_ofNat_of_zero_le h8.1
  have hacts : MWirePlays.signalmanlaw20_WirePlays.Acts W a1 len1 (fun i => (y i).1) (fun i => (y i).2.1) (fun i => (y i).2.2.1) (fun i => (y i).2.2.2.1) (fun i => (y i).2.2.2.2) := by
    intro i hi
    obtain ⟨a, ha, c0, c1, c2, hC, hl, wK, wN, wP⟩ := hy i hi
    rw [Go.Proofs.YtaiallgcobpkaaaW.PrintWords.add_add] at c1 c2
    exact ⟨a, ha, c0, c1, c2, hC, hl, (Pure.wf8 wK).1, (Pure.wf8 wK).2, (Pure.wf8 wN).1, (Pure.wf8 wN).2⟩
  have hcalls : Calls Try.prog 6 #[.int .u8 (dl : Int), .slice a1 len1 cap1] W fun e w' => e = .returned (.bool true) ∧ Below W.heap.size W w' := by
    by_cases hn : len1 ≤ 40
    · obtain ⟨k, hP⟩ := Pure.WirePlays len1 (fun i => (y i).2.2.2.1) (fun i hi x hx => by
        obtain ⟨a, ha, c0, c1, c2, hC, hl, wK, wN, wP⟩ := hy i hi
        exact wP x hx)
      exact MWirePlays.signalmanlaw20_WirePlays.main k dl (by omega) a1 len1 cap1 _ _ _ _ _ W hn hacts hP
    · exact MWirePlays.signalmanlaw20_WirePlays.early dl a1 len1 cap1 W (by omega)
  refine hcalls.mono fun e W' ⟨he, bel⟩ => ?_
  subst he
  exact ⟨_, rfl, _, _, _, [], _, [], hW', trodAll_mk1 (shut_bool Try.underlying4 _), (trodAll_cons_mk (shut_int Try.underlying5 w0) (trodAll_cons_mk (Below.trod laidOut (by kernel_rfl) (of_decide_eq_true (by kernel_rfl)) k1 bel lt1) trodAll_mk0)), rfl, bel.frame _, fun h => by cases h⟩
theorem over : Rows.wirePlaysRow.holds Try.pinned (OpenSpec.ofChange Rows.wirePlaysSpec) :=
  OpenClaim.holds_of_wide 6 Try.f6 rfl rfl rfl rfl rfl rfl rfl ⟨rfl, rfl, rfl, rfl, rfl⟩ rfl rfl rfl rfl rfl (by kernel_rfl) Try.func6 (by kernel_rfl)
    (of_decide_eq_true (by kernel_rfl)) (by unfold Func.isWrapper; first | (rw [if_pos (by decide +kernel)]; kernel_rfl) | (rw [if_neg (by decide +kernel)]; exact ⟨rfl, rfl⟩))
    (fun os started H enc _ => lifted os started H enc)
theorem proved : Rows.WirePlaysSaid := over
#print axioms proved
end Go.Proofs.Ytaiallgcobpkaaa.wirePlays
namespace Go.Proofs.Ytaiallgcobpkaaa
/-- The row, under a short name, for the claim. -/
theorem wirePlays_holds : Rows.WirePlaysSaid := wirePlays.proved
end Go.Proofs.Ytaiallgcobpkaaa
