/- Rows of bits that lie in memory with room behind them: what an append and a store leave of them. No condition. Written for this claim. -/
import Derived.Test.YtonhgiclaieamaaProg
import Derived.Below
import Derived.Deep.Draws
import Derived.Deep.AppendLies
import Derived.Maps.AppendAt
import Derived.OwnWalk
import Derived.Laws.BytesArg
import Derived.Laws.MakeOwn
import Derived.Laws.OwnMore
import Derived.Deep.OwnRows
import Derived.Tactics
import Derived.Lib.ConvBytes
import Derived.Laws.Slices
import Derived.WalkKit
import Derived.KernelRfl
import Derived.RowKit3
import Derived.Deep.LoopGhost
import Derived.Deep.QuietTactic
import Derived.BigQuiet
import Derived.WideLaws
import Derived.Deep.DeepCutAuto
import Derived.Deep.CutBlock
import Derived.Deep.RegionHeld3
import Derived.Laws.Rows
import Derived.Lib.AppendStr
import Derived.ArgAppend
import Derived.Laws.IdiomCopy
import Derived.OrdersHeld
import Derived.Laws.BitsLemmas
import Derived.RowKit
import Derived.Lib.SlBytesConst
import Derived.Laws.BitsAllLaws
import Derived.Laws.RangeAny
import Derived.Lib.OthersKept
import Derived.Laws.CopyOwn
import Derived.Test.YtonhgiclaieamaaWWords
import Derived.Test.YtonhgiclaieamaaWLast
import Derived.Test.YtonhgiclaieamaaWTab
import Derived.Test.YtonhgiclaieamaaWFour
import Derived.Test.YtonhgiclaieamaaWQPut
import Derived.Test.YtonhgiclaieamaaWApart
import Derived.Test.YtonhgiclaieamaaWArr
import Derived.Test.YtonhgiclaieamaaWZeros
import Derived.Test.YtonhgiclaieamaaWFoot
import Derived.Test.YtonhgiclaieamaaWKept
import Derived.Test.YtonhgiclaieamaaWShare
import Derived.Test.YtonhgiclaieamaaWN
import Derived.Test.YtonhgiclaieamaaWFootNe
import Derived.Test.YtonhgiclaieamaaWAt
import Derived.Test.YtonhgiclaieamaaWEqStruct
import Derived.Test.YtonhgiclaieamaaWRepsOne
import Derived.Test.YtonhgiclaieamaaWInv
import Derived.Test.YtonhgiclaieamaaWInvWords
import Derived.Test.YtonhgiclaieamaaWGuard
import Derived.Test.YtonhgiclaieamaaWNEv
import Derived.Test.YtonhgiclaieamaaWMore
import Derived.Test.YtonhgiclaieamaaBase
namespace Go.Proofs.Ytonhgiclaieamaa.Rowq
open Go Go.RowKit Go.Proofs.Ytonhgiclaieamaa Go.Proofs.YtonhgiclaieamaaW.PrintWords Go.Proofs.YtonhgiclaieamaaW.PrintLast Go.Proofs.YtonhgiclaieamaaW.PrintMore Go.Proofs.Ytonhgiclaieamaa.Base
set_option linter.unusedVariables false
set_option linter.unusedSimpArgs false
theorem info4 : (Try.prog.info? 4).map (fun i => (i.zero, i.size, i.bytes)) = some (some (.bool false), 1, 1) := by kernel_rfl
/-- All blocks but those of P are as they were. -/
structure Only (P : Nat → Prop) (w w' : World) : Prop where
  os : w'.os = w.os
  tape : w'.tape = w.tape
  output : w'.output = w.output
  size : w.heap.size ≤ w'.heap.size
  block : ∀ k, k < w.heap.size → ¬ P k → w'.heap[k]? = w.heap[k]?
theorem Only.refl (P : Nat → Prop) (w : World) : Only P w w := ⟨rfl, rfl, rfl, Nat.le_refl _, fun _ _ _ => rfl⟩
theorem Only.mono {P Q : Nat → Prop} {w w' : World} (h : Only P w w') (hq : ∀ k, P k → Q k) : Only Q w w' := ⟨h.os, h.tape, h.output, h.size, fun k hk hn => h.block k hk (fun hp => hn (hq k hp))⟩
theorem Only.set {P : Nat → Prop} {w w' : World} (h : Only P w w') {p : Addr} (hp : P p.block) (u : Value) : Only P w (w'.setCell p u) :=
  ⟨h.os, h.tape, h.output, by simpa [World.setCell] using h.size, fun k hk hn => (Below.heap_setCell w' p u k (fun e => hn (e ▸ hp))).trans (h.block k hk hn)⟩
theorem Only.drew {P : Nat → Prop} {w w' : World} (h : Only P w w') : Only P w w'.drew := ⟨h.os, h.tape, h.output, h.size, h.block⟩
theorem Only.drewN {P : Nat → Prop} {w w' : World} (h : Only P w w') (n : Nat) : Only P w (w'.drewN n) := ⟨h.os, h.tape, h.output, h.size, h.block⟩
theorem Only.below {P : Nat → Prop} {B : Nat} {w0 w w' : World} (h : Only P w w') (hP : ∀ k, P k → B ≤ k) (hb : Below B w0 w) (hB : B ≤ w.heap.size) : Below B w0 w' :=
  hb.trans ⟨h.os, h.tape, h.output, h.size, fun k hk => h.block k (by omega) (fun hp => by have := hP k hp; omega)⟩
theorem cell_only {P : Nat → Prop} {w w' : World} (h : Only P w w') {a : Addr} {v : Value} (hc : w.cell? a = some v) (hp : ¬ P a.block) : w'.cell? a = some v :=
  (World.cell?_of_block (w := w) (h.block a.block (World.block_lt_of_cell? _ _ hc) hp)).trans hc
theorem reads_only {P : Nat → Prop} {w w' : World} {A : Option Addr} {n : Nat} {xs : List Bool} (h : ReadsOf Value.bool false w A n xs) (ho : Only P w w') (hp : ∀ ad, A = some ad → 0 < n → ¬ P ad.block) : ReadsOf Value.bool false w' A n xs := by
  refine ⟨h.1, h.2.1, fun hn => ?_⟩
  obtain ⟨ad, e, hc⟩ := h.2.2 hn
  exact ⟨ad, e, fun j hj => cell_only ho (hc j hj) (by rw [add_block]; exact hp ad e hn)⟩
theorem setCells_row {b : Nat} {e : TypeId} : ∀ (vs : List Value) (o : Nat) (w : World) (cells : Array Value), w.heap[b]? = some (.cells cells e (0, 0)) → o + vs.length ≤ cells.size →
    ∃ cells', (w.setCells b o vs).heap[b]? = some (.cells cells' e (0, 0)) ∧ cells'.size = cells.size ∧ (∀ j, j < o → cells'[j]? = cells[j]?) ∧ (∀ j, j < vs.length → cells'[o + j]? = vs[j]?)
  | [], o, w, cells, h, _ => ⟨cells, h, rfl, fun _ _ => rfl, fun j hj => absurd hj (Nat.not_lt_zero j)⟩
  | v :: vs, o, w, cells, h, hs => by
    simp only [List.length_cons] at hs
    obtain ⟨c', h1, h2, h3, h4⟩ := setCells_row vs (o + 1) (w.setCell ⟨b, o, none⟩ v) (cells.setIfInBounds o v) (blk_set h o v) (by simp; omega)
    refine ⟨c', h1, by simpa using h2, fun j hj => ?_, fun j hj => ?_⟩
    · rw [h3 j (by omega), Array.getElem?_setIfInBounds, if_neg (by omega)]
    · cases j with
      | zero =>
        rw [Nat.add_zero, h3 o (by omega), Array.getElem?_setIfInBounds, if_pos rfl, if_pos (by omega)]
        rfl
      | succ j =>
        simp only [List.length_cons] at hj
        rw [show o + (j + 1) = o + 1 + j from by omega, h4 j (by omega)]
        rfl
theorem Only.setCells {P : Nat → Prop} {b : Nat} (hb : P b) : ∀ (vs : List Value) (o : Nat) (w0 w : World), Only P w0 w → Only P w0 (w.setCells b o vs)
  | [], _, _, _, h => h
  | v :: vs, o, w0, w, h => Only.setCells hb vs (o + 1) w0 _ (h.set (p := ⟨b, o, none⟩) hb v)
/-- Bits of masks with the room behind them: a row of their own, maybe cut in front; P tells where it may lie. -/
def Spare (w : World) (P : Nat → Prop) (vm : Value) (mask : List Bool) : Prop :=
  (vm = .slice none 0 0 ∧ mask = []) ∨
  ∃ gm off c cells, vm = .slice (some ⟨gm, off, none⟩) mask.length c ∧ mask.length ≤ c ∧ c ≤ maxLen ∧ w.heap[gm]? = some (.cells cells 4 (0, 0)) ∧ off + c ≤ cells.size ∧ (∀ j, j < mask.length → cells[off + j]? = some (.bool (mask.getD j false))) ∧ P gm
theorem Spare.reads {w : World} {P : Nat → Prop} {vm : Value} {mask : List Bool} (h : Spare w P vm mask) :
    ∃ A c, vm = .slice A mask.length c ∧ mask.length ≤ c ∧ ReadsOf Value.bool false w A mask.length mask ∧ ∀ ad, A = some ad → P ad.block := by
  rcases h with ⟨rfl, rfl⟩ | ⟨gm, off, c, cells, rfl, h1, h2, h3, h4, h5, h6⟩
  · exact ⟨none, 0, rfl, Nat.le_refl _, ⟨rfl, Nat.zero_le _, fun h => absurd h (Nat.lt_irrefl 0)⟩, fun ad e => by cases e⟩
  · refine ⟨_, c, rfl, h1, ⟨rfl, by simp only [maxLen] at h2; omega, fun _ => ⟨_, rfl, fun j hj => ?_⟩⟩, fun ad e => by cases e; exact h6⟩
    rw [Addr.add_lit]
    simp [World.cell?, h3, h5 j hj]
theorem Spare.only {w w' : World} {P Q : Nat → Prop} {vm : Value} {mask : List Bool} (h : Spare w P vm mask) (ho : Only Q w w') (hq : ∀ k, P k → k < w.heap.size → ¬ Q k) : Spare w' P vm mask := by
  rcases h with h | ⟨gm, off, c, cells, rfl, h1, h2, h3, h4, h5, h6⟩
  · exact Or.inl h
  · have hlt : gm < w.heap.size := (Array.getElem?_eq_some_iff.1 h3).1
    exact Or.inr ⟨gm, off, c, cells, rfl, h1, h2, (ho.block gm hlt (hq gm h6 hlt)).trans h3, h4, h5, h6⟩
/-- The first bit is cut off. -/
theorem Spare.tail {w : World} {P : Nat → Prop} {A : Option Addr} {c : Nat} {b : Bool} {t : List Bool} (h : Spare w P (.slice A (b :: t).length c) (b :: t)) : Spare w P (.slice (if c = 1 then A else A.map (·.add 1)) ((b :: t).length - 1) (c - 1)) t := by
  rcases h with ⟨_, h⟩ | ⟨gm, off, c', cells, e, h1, h2, h3, h4, h5, h6⟩
  · cases h
  · simp only [Value.slice.injEq] at e
    obtain ⟨rfl, _, rfl⟩ := e
    simp only [List.length_cons] at h1
    by_cases hc : c = 1
    · have ht : t = [] := List.eq_nil_of_length_eq_zero (by omega)
      subst ht
      rw [if_pos hc]
      exact Or.inr ⟨gm, off, c - 1, cells, rfl, by simp, by omega, h3, by omega, fun j hj => absurd hj (Nat.not_lt_zero j), h6⟩
    · rw [if_neg hc]
      refine Or.inr ⟨gm, off + 1, c - 1, cells, by simp [Addr.add_lit], by omega, by omega, h3, by omega, fun j hj => ?_, h6⟩
      have := h5 (j + 1) (by simp only [List.length_cons]; omega)
      rw [show off + 1 + j = off + (j + 1) from by omega, this]
      simp
theorem spare_of_own {w : World} {P : Nat → Prop} {base : Nat} {v : Value} {xs : List Bool} (h : w.ownsRow base 4 1 v xs.length (encs Value.bool xs)) (hP : ∀ k, base ≤ k → P k) : Spare w P v xs := by
  rcases h.2 with ⟨rfl, h0⟩ | ⟨g, cap, cur, rfl, hb, hg, hn, hm, hs, ht⟩
  · exact Or.inl ⟨rfl, List.eq_nil_of_length_eq_zero h0⟩
  · refine Or.inr ⟨g, 0, cap, cur, rfl, hn, hm, hg, by omega, fun j hj => ?_, hP g hb⟩
    have h1 : (cur.toList.take (xs.length * 1))[j]? = (encs Value.bool xs)[j]? := by rw [ht]
    rw [List.getElem?_take, if_pos (by omega)] at h1
    rw [Nat.zero_add, ← Array.getElem?_toList, h1]
    simp [encs, List.getD_eq_getElem?_getD, List.getElem?_eq_getElem hj]
/-- Bits put behind them. -/
theorem append_spare (t : TypeId) (ht : Try.prog.underlying t = some (.slice 4)) (ty : TypeId) (P : Nat → Prop) (vm : Value) (mask new : List Bool) (A : Option Addr) (c : Nat) (w : World) (h : Spare w P vm mask) (hr : ReadsOf Value.bool false w A new.length new) (hl : mask.length + new.length ≤ 140737488355328) (hP : ∀ k, w.heap.size ≤ k → P k) :
    ∃ v1 w1, (Builtin.append_ #[t, t] ty #[vm, .slice A new.length c]).run Try.prog w = .ok v1 w1 ∧ Spare w1 P v1 (mask ++ new) ∧ Only P w w1 := by
  obtain ⟨i0, hi, hz0, hz1, hz2⟩ := info_parts info4
  have hbytes : (mask.length + new.length) * 1 ≤ 140737488355328 := by omega
  have h63 : mask.length + new.length ≤ maxLen := by simp only [maxLen]; omega
  rcases A with _ | ad
  · have h0 : new.length = 0 := by
      rcases Nat.eq_zero_or_pos new.length with h0 | h0
      · exact h0
      · obtain ⟨ad, e, _⟩ := hr.2.2 h0
        cases e
    obtain rfl : new = [] := List.eq_nil_of_length_eq_zero h0
    refine ⟨vm, w, ?_, by rw [List.append_nil]; exact h, Only.refl _ _⟩
    rcases h with ⟨rfl, rfl⟩ | ⟨gm, off, c', cells, rfl, h1, _⟩
    · simp [Builtin.append_, run_underlying ht, sizeOf, typeInfo, hi, Builtin.lenOf, Builtin.firstCells]
    · simp [Builtin.append_, run_underlying ht, sizeOf, typeInfo, hi, Builtin.lenOf, Builtin.firstCells, h1, storeCells]
  · have hcells : ∀ j u, (encs Value.bool new)[j]? = some u → w.cell? (ad.add j) = some u := by
      intro j u hu
      have hj : j < new.length := by
        have := (List.getElem?_eq_some_iff.1 hu).1
        simpa [encs] using this
      obtain ⟨ad', e, hc⟩ := hr.2.2 (by omega)
      cases e
      rw [hc j hj, ← hu]
      simp [encs, List.getD_eq_getElem?_getD, List.getElem?_eq_getElem hj]
    have hone : ∀ u ∈ encs Value.bool new, u.oneCell' = true := by
      intro u hu
      simp only [encs, List.mem_map] at hu
      obtain ⟨b, _, rfl⟩ := hu
      rfl
    have hnl : (encs Value.bool new).length = new.length := by simp [encs]
    rcases h with ⟨rfl, rfl⟩ | ⟨gm, off, c', cells, rfl, h1, h2, h3, h4, h5, h6⟩
    · have HO : w.ownsRow w.heap.size 4 1 (.slice none 0 0) 0 [] := ⟨rfl, Or.inl ⟨rfl, rfl⟩⟩
      obtain ⟨v1, w1, hrun, ho, hg, _, _⟩ := run_append_own_at (P := Try.prog) w w.heap.size t ty 4 i0 (.bool false) 1 1 ht hi hz0 hz1 hz2 rfl (by omega) (.slice none 0 0) 0 [] HO ad new.length c (encs Value.bool new) (by simp [encs]) hcells hone (by simpa using h63) (by simpa using hbytes) (Nat.le_refl _)
      refine ⟨v1, w1, hrun, spare_of_own (base := w.heap.size) (by simpa using ho) hP, ⟨hg.os, hg.tape, hg.output, hg.size, fun k hk _ => hg.block k hk (by simp [Value.ownBlock])⟩⟩
    · by_cases hroom : mask.length + new.length ≤ c'
      · have hc0 : ∀ j, j < (encs Value.bool new).length → (w.cell? ⟨gm, off + mask.length * i0.size + j, none⟩).isSome = true := by
          intro j hj
          rw [hz1, Nat.mul_one]
          have hlt : off + mask.length + j < cells.size := by rw [hnl] at hj; omega
          simp [World.cell?, h3, Array.getElem?_eq_getElem hlt]
        have hf0 : ∀ j, j < (encs Value.bool new).length → w.frozen? ⟨gm, off + mask.length * i0.size + j, none⟩ = false := by
          intro j hj
          simp [World.frozen?, h3]
        have hrun := run_append_room_cells (P := Try.prog) w t ty 4 i0 ht hi gm off mask.length c' ad new.length c (encs Value.bool new) (by rw [hz1, hnl, Nat.mul_one]) hcells hone hroom hc0 hf0
        rw [hz1, Nat.mul_one] at hrun
        obtain ⟨cells', e1, e2, e3, e4⟩ := setCells_row (encs Value.bool new) (off + mask.length) w cells h3 (by rw [hnl]; omega)
        refine ⟨_, _, hrun, Or.inr ⟨gm, off, c', cells', by rw [List.length_append], by rw [List.length_append]; exact hroom, h2, e1, by omega, fun j hj => ?_, h6⟩, Only.setCells h6 _ _ _ _ (Only.refl _ _)⟩
        rw [List.length_append] at hj
        by_cases hjm : j < mask.length
        · rw [e3 _ (by omega), h5 j hjm]
          simp [List.getD_eq_getElem?_getD, List.getElem?_append_left hjm]
        · have := e4 (j - mask.length) (by rw [hnl]; omega)
          rw [show off + mask.length + (j - mask.length) = off + j from by omega] at this
          have hlt : j - mask.length < new.length := by omega
          rw [this]
          simp [encs, List.getD_eq_getElem?_getD, List.getElem?_append_right (show mask.length ≤ j by omega), List.getElem?_eq_getElem hlt]
      · have holds : ∀ j u, (encs Value.bool mask)[j]? = some u → w.cell? ((⟨gm, off, none⟩ : Addr).add j) = some u := by
          intro j u hu
          have hj : j < mask.length := by
            have := (List.getElem?_eq_some_iff.1 hu).1
            simpa [encs] using this
          rw [Addr.add_lit, ← hu]
          simp [World.cell?, h3, h5 j hj, encs, List.getD_eq_getElem?_getD, List.getElem?_eq_getElem hj]
        obtain ⟨v1, w1, hrun, ho, hg⟩ := run_append_arg_grows (P := Try.prog) w t ty 4 i0 (.bool false) 1 1 ht hi hz0 hz1 hz2 rfl (by omega) ⟨gm, off, none⟩ mask.length c' (encs Value.bool mask) (by simp [encs]) holds ad new.length c (encs Value.bool new) (by simp [encs]) hcells (by omega) h63 hbytes
        refine ⟨v1, w1, hrun, spare_of_own (base := w.heap.size) ?_ hP, ⟨hg.os, hg.tape, hg.output, hg.size, fun k hk _ => hg.block k hk (by simp)⟩⟩
        rw [List.length_append]
        simpa [encs] using ho
theorem wpList_append_run {P : Program} {w : World} {ops : Array Oper} {rest : List Oper} {o : Oper} {a : Act} {Q : Exit → Act → World → Prop} (hgd : o.guard = none) (s x : Operand) (t : TypeId)
    (ho : o.op = .call { callee := .builtin .append, args := #[s, x], argTypes := #[t, t] }) (vs vx : Value) (hs : a.eval s = vs) (hx : a.eval x = vx) (v1 : Value) (w1 : World) (hrun : (Builtin.append_ #[t, t] o.type #[vs, vx]).run P w = .ok v1 w1)
    (h : wpList P ops Q rest (a.put o.dst v1) w1) : wpList P ops Q (o :: rest) a w := by
  refine wpList_plain hgd fun K hK => ?_
  unfold Oper.wp
  simp [execOp, ho, resolve, invoke, builtin, hs, hx, hrun, Result.andThen]
  exact hK _ _ h
theorem reads_under {B : Nat} {w w' : World} {A : Option Addr} {n : Nat} {xs : List Bool} (h : ReadsOf Value.bool false w A n xs) (hb : Below B w w') (hA : ∀ ad, A = some ad → 0 < n → ad.block < B) : ReadsOf Value.bool false w' A n xs :=
  reads_only (P := fun k => B ≤ k) h ⟨hb.os, hb.tape, hb.output, hb.size, fun k hk hn => hb.block k (by omega)⟩ (fun ad e hn hp => by have := hA ad e hn; omega)
theorem reads_block {w : World} {A : Option Addr} {n : Nat} {xs : List Bool} (h : ReadsOf Value.bool false w A n xs) : ∀ ad, A = some ad → 0 < n → ad.block < w.heap.size := by
  intro ad e hn
  obtain ⟨a0, e0, hc⟩ := h.2.2 hn
  rw [e] at e0
  obtain rfl := Option.some.inj e0
  have := World.block_lt_of_cell? _ _ (hc 0 hn)
  rwa [add_block] at this
/-- A row that was made: where it lies, and what it reads. -/
theorem fresh_reads {w : World} {base : Nat} {ok : Nat → Prop} {v : Value} {xs : List Bool} (h : Kd.R Kd.bool 4 w base ok v xs) :
    ∃ A c, v = .slice A xs.length c ∧ xs.length ≤ c ∧ ReadsOf Value.bool false w A xs.length xs ∧ ∀ ad, A = some ad → 0 < xs.length → base ≤ ad.block := by
  obtain ⟨A, c, rfl⟩ := Kd.R_slice h
  have hr := Kd.R_reads' h
  refine ⟨A, c, rfl, hr.2.1, Kd.reads_of_C (h1 := fun _ => rfl) hr.2.2, fun ad e hn => ?_⟩
  have ho := Kd.own_of_R h
  rcases ho.2 with ⟨hv, _⟩ | ⟨g, cap, cur, hv, hb, _⟩
  · subst e
    simp at hv
  · subst e
    simp only [Value.slice.injEq, Option.some.injEq] at hv
    obtain ⟨e1, _⟩ := hv
    rw [e1]; exact hb
/-- The blocks of E are as they were. -/
def KeptE (E : Nat → Prop) (w w' : World) : Prop := ∀ k, E k → w'.heap[k]? = w.heap[k]?
theorem KeptE.refl (E : Nat → Prop) (w : World) : KeptE E w w := fun _ _ => rfl
theorem KeptE.trans {E : Nat → Prop} {w w1 w2 : World} (h : KeptE E w w1) (h' : KeptE E w1 w2) : KeptE E w w2 := fun k hk => (h' k hk).trans (h k hk)
theorem KeptE.cell {E : Nat → Prop} {w w' : World} (h : KeptE E w w') {p : Addr} (hp : E p.block) {v : Value} (hc : w.cell? p = some v) : w'.cell? p = some v := by
  unfold World.cell? at *
  rw [h _ hp]
  exact hc
theorem KeptE.reads {E : Nat → Prop} {w w' : World} (h : KeptE E w w') {A : Option Addr} {n : Nat} {xs : List Bool} (hr : ReadsOf Value.bool false w A n xs) (hA : ∀ ad, A = some ad → 0 < n → E ad.block) : ReadsOf Value.bool false w' A n xs := by
  refine ⟨hr.1, hr.2.1, fun hn => ?_⟩
  obtain ⟨a0, e0, hc⟩ := hr.2.2 hn
  refine ⟨a0, e0, fun j hj => h.cell ?_ (hc j hj)⟩
  rw [add_block]
  exact hA a0 e0 hn
theorem Spare.mono {w : World} {P Q : Nat → Prop} {v : Value} {m : List Bool} (h : Spare w P v m) (hq : ∀ k, P k → k < w.heap.size → Q k) : Spare w Q v m := by
  rcases h with h | ⟨gm, off, c, cells, rfl, h1, h2, h3, h4, h5, h6⟩
  · exact Or.inl h
  · exact Or.inr ⟨gm, off, c, cells, rfl, h1, h2, h3, h4, h5, hq gm h6 (Array.getElem?_eq_some_iff.1 h3).1⟩
theorem only_kept {E P : Nat → Prop} {w w' : World} (ho : Only P w w') (h : ∀ k, E k → ¬ P k ∧ k < w.heap.size) : KeptE E w w' := fun k hk => ho.block k (h k hk).2 (h k hk).1
theorem only_cell {w w' : World} {P : Nat → Prop} (ho : Only P w w') {p : Addr} (hp : ¬ P p.block) {v : Value} (hc : w.cell? p = some v) : w'.cell? p = some v := by
  have hlt := World.block_lt_of_cell? _ _ hc
  unfold World.cell? at *
  rw [ho.block _ hlt hp]
  exact hc
end Go.Proofs.Ytonhgiclaieamaa.Rowq
