/- (*wire.Wire).Bend, walked: bits of a mask behind those that are left, wherever these lie in their row. No condition. Written by hand for this claim. -/
import Derived.Test.YtaiallgcobpkaaaWireAwake
namespace Go.Proofs.Ytaiallgcobpkaaa.Wire
open Go Go.RowKit Go.Proofs.Ytaiallgcobpkaaa Go.Proofs.YtaiallgcobpkaaaW.PrintWords Go.Proofs.YtaiallgcobpkaaaW.PrintLast Go.Proofs.YtaiallgcobpkaaaW.PrintMore Go.Proofs.Ytaiallgcobpkaaa.Base
set_option linter.unusedVariables false
set_option linter.unusedSimpArgs false
theorem setCells_row {b : Nat} {e : TypeId} : ∀ (vs : List Value) (o : Nat) (w : World) (cells : Array Value), w.heap[b]? = some (.cells cells e (0, 0)) → o + vs.length ≤ cells.size →
    ∃ cells', (w.setCells b o vs).heap[b]? = some (.cells cells' e (0, 0)) ∧ cells'.size = cells.size ∧ (∀ j, j < o → cells'[j]? = cells[j]?) ∧ (∀ j, j < vs.length → cells'[o + j]? = vs[j]?)
  | [], o, w, cells, h, _ => ⟨cells, h, rfl, fun _ _ => rfl, fun j hj => absurd hj (Nat.not_lt_zero j)⟩
  | v :: vs, o, w, cells, h, hs => by
    simp only [List.length_cons] at hs
    obtain ⟨c', h1, h2, h3, h4⟩ := setCells_row vs (o + 1) (w.setCell ⟨b, o, none⟩ v) (cells.setIfInBounds o v) (blk_set h o v) (by simp; omega)
    refine ⟨c', h1, by simpa using h2, fun j hj => ?_, fun j hj => ?_⟩
    · rw [h3 j (by omega), Array.getElem?_setIfInBounds, if_neg (by omega)]
    · cases j with
      | zero =>
        rw [Nat.add_zero, h3 o (by omega), Array.getElem?_setIfInBounds, if_pos rfl, if_pos (by omega)]
        rfl
      | succ j =>
        simp only [List.length_cons] at hj
        rw [show o + (j + 1) = o + 1 + j from by omega, h4 j (by omega)]
        rfl
theorem Only.setCells {P : Nat → Prop} {b : Nat} (hb : P b) : ∀ (vs : List Value) (o : Nat) (w0 w : World), Only P w0 w → Only P w0 (w.setCells b o vs)
  | [], _, _, _, h => h
  | v :: vs, o, w0, w, h => Only.setCells hb vs (o + 1) w0 _ (h.set (p := ⟨b, o, none⟩) hb v)
/-- Bits of masks with the room behind them: a row of their own, maybe cut in front; P tells where it may lie. -/
def Spare (w : World) (P : Nat → Prop) (vm : Value) (mask : List Bool) : Prop :=
  (vm = .slice none 0 0 ∧ mask = []) ∨
  ∃ gm off c cells, vm = .slice (some ⟨gm, off, none⟩) mask.length c ∧ mask.length ≤ c ∧ c ≤ maxLen ∧ w.heap[gm]? = some (.cells cells 4 (0, 0)) ∧ off + c ≤ cells.size ∧ (∀ j, j < mask.length → cells[off + j]? = some (.bool (mask.getD j false))) ∧ P gm
theorem Spare.reads {w : World} {P : Nat → Prop} {vm : Value} {mask : List Bool} (h : Spare w P vm mask) :
    ∃ A c, vm = .slice A mask.length c ∧ mask.length ≤ c ∧ ReadsOf Value.bool false w A mask.length mask ∧ ∀ ad, A = some ad → P ad.block := by
  rcases h with ⟨rfl, rfl⟩ | ⟨gm, off, c, cells, rfl, h1, h2, h3, h4, h5, h6⟩
  · exact ⟨none, 0, rfl, Nat.le_refl _, ⟨rfl, Nat.zero_le _, fun h => absurd h (Nat.lt_irrefl 0)⟩, fun ad e => by cases e⟩
  · refine ⟨_, c, rfl, h1, ⟨rfl, by simp only [maxLen] at h2; omega, fun _ => ⟨_, rfl, fun j hj => ?_⟩⟩, fun ad e => by cases e; exact h6⟩
    rw [Addr.add_lit]
    simp [World.cell?, h3, h5 j hj]
theorem Spare.only {w w' : World} {P Q : Nat → Prop} {vm : Value} {mask : List Bool} (h : Spare w P vm mask) (ho : Only Q w w') (hq : ∀ k, P k → k < w.heap.size → ¬ Q k) : Spare w' P vm mask := by
  rcases h with h | ⟨gm, off, c, cells, rfl, h1, h2, h3, h4, h5, h6⟩
  · exact Or.inl h
  · have hlt : gm < w.heap.size := (Array.getElem?_eq_some_iff.1 h3).1
    exact Or.inr ⟨gm, off, c, cells, rfl, h1, h2, (ho.block gm hlt (hq gm h6 hlt)).trans h3, h4, h5, h6⟩
/-- The first bit is cut off. -/
theorem Spare.tail {w : World} {P : Nat → Prop} {A : Option Addr} {c : Nat} {b : Bool} {t : List Bool} (h : Spare w P (.slice A (b :: t).length c) (b :: t)) : Spare w P (.slice (if c = 1 then A else A.map (·.add 1)) ((b :: t).length - 1) (c - 1)) t := by
  rcases h with ⟨_, h⟩ | ⟨gm, off, c', cells, e, h1, h2, h3, h4, h5, h6⟩
  · cases h
  · simp only [Value.slice.injEq] at e
    obtain ⟨rfl, _, rfl⟩ := e
    simp only [List.length_cons] at h1
    by_cases hc : c = 1
    · have ht : t = [] := List.eq_nil_of_length_eq_zero (by omega)
      subst ht
      rw [if_pos hc]
      exact Or.inr ⟨gm, off, c - 1, cells, rfl, by simp, by omega, h3, by omega, fun j hj => absurd hj (Nat.not_lt_zero j), h6⟩
    · rw [if_neg hc]
      refine Or.inr ⟨gm, off + 1, c - 1, cells, by simp [Addr.add_lit], by omega, by omega, h3, by omega, fun j hj => ?_, h6⟩
      have := h5 (j + 1) (by simp only [List.length_cons]; omega)
      rw [show off + 1 + j = off + (j + 1) from by omega, this]
      simp
theorem spare_of_own {w : World} {P : Nat → Prop} {base : Nat} {v : Value} {xs : List Bool} (h : w.ownsRow base 4 1 v xs.length (encs Value.bool xs)) (hP : ∀ k, base ≤ k → P k) : Spare w P v xs := by
  rcases h.2 with ⟨rfl, h0⟩ | ⟨g, cap, cur, rfl, hb, hg, hn, hm, hs, ht⟩
  · exact Or.inl ⟨rfl, List.eq_nil_of_length_eq_zero h0⟩
  · refine Or.inr ⟨g, 0, cap, cur, rfl, hn, hm, hg, by omega, fun j hj => ?_, hP g hb⟩
    have h1 : (cur.toList.take (xs.length * 1))[j]? = (encs Value.bool xs)[j]? := by rw [ht]
    rw [List.getElem?_take, if_pos (by omega)] at h1
    rw [Nat.zero_add, ← Array.getElem?_toList, h1]
    simp [encs, List.getD_eq_getElem?_getD, List.getElem?_eq_getElem hj]
/-- Bits put behind them. -/
theorem append_spare (t : TypeId) (ht : Try.prog.underlying t = some (.slice 4)) (ty : TypeId) (P : Nat → Prop) (vm : Value) (mask new : List Bool) (A : Option Addr) (c : Nat) (w : World) (h : Spare w P vm mask) (hr : ReadsOf Value.bool false w A new.length new) (hl : mask.length + new.length ≤ 140737488355328) (hP : ∀ k, w.heap.size ≤ k → P k) :
    ∃ v1 w1, (Builtin.append_ #[t, t] ty #[vm, .slice A new.length c]).run Try.prog w = .ok v1 w1 ∧ Spare w1 P v1 (mask ++ new) ∧ Only P w w1 := by
  obtain ⟨i0, hi, hz0, hz1, hz2⟩ := info_parts info4
  have hbytes : (mask.length + new.length) * 1 ≤ 140737488355328 := by omega
  have h63 : mask.length + new.length ≤ maxLen := by simp only [maxLen]; omega
  rcases A with _ | ad
  · have h0 : new.length = 0 := by
      rcases Nat.eq_zero_or_pos new.length with h0 | h0
      · exact h0
      · obtain ⟨ad, e, _⟩ := hr.2.2 h0
        cases e
    obtain rfl : new = [] := List.eq_nil_of_length_eq_zero h0
    refine ⟨vm, w, ?_, by rw [List.append_nil]; exact h, Only.refl _ _⟩
    rcases h with ⟨rfl, rfl⟩ | ⟨gm, off, c', cells, rfl, h1, _⟩
    · simp [Builtin.append_, run_underlying ht, sizeOf, typeInfo, hi, Builtin.lenOf, Builtin.firstCells]
    · simp [Builtin.append_, run_underlying ht, sizeOf, typeInfo, hi, Builtin.lenOf, Builtin.firstCells, h1, storeCells]
  · have hcells : ∀ j u, (encs Value.bool new)[j]? = some u → w.cell? (ad.add j) = some u := by
      intro j u hu
      have hj : j < new.length := by
        have := (List.getElem?_eq_some_iff.1 hu).1
        simpa [encs] using this
      obtain ⟨ad', e, hc⟩ := hr.2.2 (by omega)
      cases e
      rw [hc j hj, ← hu]
      simp [encs, List.getD_eq_getElem?_getD, List.getElem?_eq_getElem hj]
    have hone : ∀ u ∈ encs Value.bool new, u.oneCell' = true := by
      intro u hu
      simp only [encs, List.mem_map] at hu
      obtain ⟨b, _, rfl⟩ := hu
      rfl
    have hnl : (encs Value.bool new).length = new.length := by simp [encs]
    rcases h with ⟨rfl, rfl⟩ | ⟨gm, off, c', cells, rfl, h1, h2, h3, h4, h5, h6⟩
    · have HO : w.ownsRow w.heap.size 4 1 (.slice none 0 0) 0 [] := ⟨rfl, Or.inl ⟨rfl, rfl⟩⟩
      obtain ⟨v1, w1, hrun, ho, hg, _, _⟩ := run_append_own_at (P := Try.prog) w w.heap.size t ty 4 i0 (.bool false) 1 1 ht hi hz0 hz1 hz2 rfl (by omega) (.slice none 0 0) 0 [] HO ad new.length c (encs Value.bool new) (by simp [encs]) hcells hone (by simpa using h63) (by simpa using hbytes) (Nat.le_refl _)
      refine ⟨v1, w1, hrun, spare_of_own (base := w.heap.size) (by simpa using ho) hP, ⟨hg.os, hg.tape, hg.output, hg.size, fun k hk _ => hg.block k hk (by simp [Value.ownBlock])⟩⟩
    · by_cases hroom : mask.length + new.length ≤ c'
      · have hc0 : ∀ j, j < (encs Value.bool new).length → (w.cell? ⟨gm, off + mask.length * i0.size + j, none⟩).isSome = true := by
          intro j hj
          rw [hz1, Nat.mul_one]
          have hlt : off + mask.length + j < cells.size := by rw [hnl] at hj; omega
          simp [World.cell?, h3, Array.getElem?_eq_getElem hlt]
        have hf0 : ∀ j, j < (encs Value.bool new).length → w.frozen? ⟨gm, off + mask.length * i0.size + j, none⟩ = false := by
          intro j hj
          simp [World.frozen?, h3]
        have hrun := run_append_room_cells (P := Try.prog) w t ty 4 i0 ht hi gm off mask.length c' ad new.length c (encs Value.bool new) (by rw [hz1, hnl, Nat.mul_one]) hcells hone hroom hc0 hf0
        rw [hz1, Nat.mul_one] at hrun
        obtain ⟨cells', e1, e2, e3, e4⟩ := setCells_row (encs Value.bool new) (off + mask.length) w cells h3 (by rw [hnl]; omega)
        refine ⟨_, _, hrun, Or.inr ⟨gm, off, c', cells', by rw [List.length_append], by rw [List.length_append]; exact hroom, h2, e1, by omega, fun j hj => ?_, h6⟩, Only.setCells h6 _ _ _ _ (Only.refl _ _)⟩
        rw [List.length_append] at hj
        by_cases hjm : j < mask.length
        · rw [e3 _ (by omega), h5 j hjm]
          simp [List.getD_eq_getElem?_getD, List.getElem?_append_left hjm]
        · have := e4 (j - mask.length) (by rw [hnl]; omega)
          rw [show off + mask.length + (j - mask.length) = off + j from by omega] at this
          have hlt : j - mask.length < new.length := by omega
          rw [this]
          simp [encs, List.getD_eq_getElem?_getD, List.getElem?_append_right (show mask.length ≤ j by omega), List.getElem?_eq_getElem hlt]
      · have holds : ∀ j u, (encs Value.bool mask)[j]? = some u → w.cell? ((⟨gm, off, none⟩ : Addr).add j) = some u := by
          intro j u hu
          have hj : j < mask.length := by
            have := (List.getElem?_eq_some_iff.1 hu).1
            simpa [encs] using this
          rw [Addr.add_lit, ← hu]
          simp [World.cell?, h3, h5 j hj, encs, List.getD_eq_getElem?_getD, List.getElem?_eq_getElem hj]
        obtain ⟨v1, w1, hrun, ho, hg⟩ := run_append_arg_grows (P := Try.prog) w t ty 4 i0 (.bool false) 1 1 ht hi hz0 hz1 hz2 rfl (by omega) ⟨gm, off, none⟩ mask.length c' (encs Value.bool mask) (by simp [encs]) holds ad new.length c (encs Value.bool new) (by simp [encs]) hcells (by omega) h63 hbytes
        refine ⟨v1, w1, hrun, spare_of_own (base := w.heap.size) ?_ hP, ⟨hg.os, hg.tape, hg.output, hg.size, fun k hk _ => hg.block k hk (by simp)⟩⟩
        rw [List.length_append]
        simpa [encs] using ho
theorem wpList_append_run {P : Program} {w : World} {ops : Array Oper} {rest : List Oper} {o : Oper} {a : Act} {Q : Exit → Act → World → Prop} (hgd : o.guard = none) (s x : Operand) (t : TypeId)
    (ho : o.op = .call { callee := .builtin .append, args := #[s, x], argTypes := #[t, t] }) (vs vx : Value) (hs : a.eval s = vs) (hx : a.eval x = vx) (v1 : Value) (w1 : World) (hrun : (Builtin.append_ #[t, t] o.type #[vs, vx]).run P w = .ok v1 w1)
    (h : wpList P ops Q rest (a.put o.dst v1) w1) : wpList P ops Q (o :: rest) a w := by
  refine wpList_plain hgd fun K hK => ?_
  unfold Oper.wp
  simp [execOp, ho, resolve, invoke, builtin, hs, hx, hrun, Result.andThen]
  exact hK _ _ h
/-- The wire's whole state, with the room behind its masks. -/
structure Isq (P : Nat → Prop) (w : World) (g gl : Nat) (l : List Bool) (i : Nat) (mask : List Bool) (ones bent : Nat) : Prop where
  ne : gl ≠ g
  apart : ∀ k, P k → k ≠ g ∧ k ≠ gl
  at_ : ∃ vm, At w g (.slice (some ⟨gl, 0, none⟩) l.length l.length) vm i ones bent ∧ Spare w P vm mask
  row : Row w gl l
  idx : l.length = 0 ∨ i < l.length
theorem Isq.lt {P : Nat → Prop} {w : World} {g gl : Nat} {l : List Bool} {i : Nat} {mask : List Bool} {ones bent : Nat} (h : Isq P w g gl l i mask ones bent) : g < w.heap.size ∧ gl < w.heap.size := by
  obtain ⟨hne, hap, ⟨vm, hA, _⟩, hrow, _⟩ := h
  exact ⟨(Array.getElem?_eq_some_iff.1 hA).1, (Array.getElem?_eq_some_iff.1 hrow).1⟩
theorem Isq.below {P : Nat → Prop} {w w' : World} {g gl : Nat} {l : List Bool} {i : Nat} {mask : List Bool} {ones bent : Nat} (h : Isq P w g gl l i mask ones bent) (hb : Below w.heap.size w w') : Isq P w' g gl l i mask ones bent := by
  have hlt := h.lt
  obtain ⟨hne, hap, ⟨vm, hA, hS⟩, hrow, hidx⟩ := h
  have ho : Only (fun k => w.heap.size ≤ k) w w' := ⟨hb.os, hb.tape, hb.output, hb.size, fun k hk _ => hb.block k hk⟩
  exact ⟨hne, hap, ⟨vm, hA.only ho (by omega), hS.only ho (fun k _ hk hp => by omega)⟩, hrow.only ho (by omega), hidx⟩
theorem Isq.new {P : Nat → Prop} {w : World} {g gl d : Nat} (hP : ∀ k, P k → k ≠ g ∧ k ≠ gl) (h : Is w g gl (List.replicate d false) 0 [] 0 0) (hA : At w g (.slice (some ⟨gl, 0, none⟩) d d) (.slice none 0 0) 0 0 0) : Isq P w g gl (List.replicate d false) 0 [] 0 0 :=
  ⟨h.ne, hP, ⟨_, by rw [List.length_replicate]; exact hA, Or.inl ⟨rfl, rfl⟩⟩, h.row, h.idx⟩
theorem newq (d : Nat) (hd : d ≤ 65536) (w : World) : Calls Try.prog 9 #[.int .i64 (d : Int)] w fun e w' => ∃ g gl, e = .returned (.tuple #[.pointer (some ⟨g, 0, none⟩), .int .i64 0]) ∧ w.heap.size ≤ g ∧ w.heap.size ≤ gl ∧ (∀ P : Nat → Prop, (∀ k, P k → k ≠ g ∧ k ≠ gl) → Isq P w' g gl (List.replicate d false) 0 [] 0 0) ∧ Below w.heap.size w w' := by
  refine (new_calls d hd w).mono ?_
  rintro e w1 ⟨g, gl, rfl, hne, hg, hgl, hg1, hgl1, hA, hR, hb⟩
  exact ⟨g, gl, rfl, hg, hgl, fun P hP => Isq.new hP (Is.new hne hA hR) hA, hb⟩
theorem Isq.only {P Q : Nat → Prop} {w w' : World} {g gl : Nat} {l : List Bool} {i : Nat} {mask : List Bool} {ones bent : Nat} (h : Isq P w g gl l i mask ones bent) (ho : Only Q w w') (h1 : ¬ Q g) (h2 : ¬ Q gl) (h3 : ∀ k, P k → k < w.heap.size → ¬ Q k) : Isq P w' g gl l i mask ones bent := by
  obtain ⟨hne, hap, ⟨vm, hA, hS⟩, hrow, hidx⟩ := h
  exact ⟨hne, hap, ⟨vm, hA.only ho h1, hS.only ho h3⟩, hrow.only ho h2, hidx⟩
theorem Isq.tight {P : Nat → Prop} {w : World} {g gl : Nat} {l : List Bool} {i : Nat} {mask : List Bool} {ones bent : Nat} (h : Isq P w g gl l i mask ones bent) : Isq (fun k => P k ∧ k < w.heap.size) w g gl l i mask ones bent := by
  obtain ⟨hne, hap, ⟨vm, hA, hS⟩, hrow, hidx⟩ := h
  refine ⟨hne, fun k hk => hap k hk.1, ⟨vm, hA, ?_⟩, hrow, hidx⟩
  rcases hS with h | ⟨gm, off, c, cells, rfl, h1, h2, h3, h4, h5, h6⟩
  · exact Or.inl h
  · exact Or.inr ⟨gm, off, c, cells, rfl, h1, h2, h3, h4, h5, h6, (Array.getElem?_eq_some_iff.1 h3).1⟩
/-- What a new wire is, laid open: for two wires side by side. -/
def Bare (w : World) (g gl d : Nat) : Prop := gl ≠ g ∧ At w g (.slice (some ⟨gl, 0, none⟩) d d) (.slice none 0 0) 0 0 0 ∧ Row w gl (List.replicate d false)
theorem Bare.only {Q : Nat → Prop} {w w' : World} {g gl d : Nat} (h : Bare w g gl d) (ho : Only Q w w') (h1 : ¬ Q g) (h2 : ¬ Q gl) : Bare w' g gl d := ⟨h.1, h.2.1.only ho h1, h.2.2.only ho h2⟩
theorem Bare.lt {w : World} {g gl d : Nat} (h : Bare w g gl d) : g < w.heap.size ∧ gl < w.heap.size := ⟨(Array.getElem?_eq_some_iff.1 h.2.1).1, (Array.getElem?_eq_some_iff.1 h.2.2).1⟩
theorem Bare.below {w w' : World} {g gl d : Nat} (h : Bare w g gl d) (hb : Below w.heap.size w w') : Bare w' g gl d := by
  have hlt := h.lt
  exact h.only (Q := fun k => w.heap.size ≤ k) ⟨hb.os, hb.tape, hb.output, hb.size, fun k hk _ => hb.block k hk⟩ (by omega) (by omega)
theorem Bare.isq {w : World} {g gl d : Nat} (h : Bare w g gl d) (P : Nat → Prop) (hP : ∀ k, P k → k ≠ g ∧ k ≠ gl) : Isq P w g gl (List.replicate d false) 0 [] 0 0 := Isq.new hP (Is.new h.1 h.2.1 h.2.2) h.2.1
theorem new_bare (d : Nat) (hd : d ≤ 65536) (w : World) : Calls Try.prog 9 #[.int .i64 (d : Int)] w fun e w' => ∃ g gl, e = .returned (.tuple #[.pointer (some ⟨g, 0, none⟩), .int .i64 0]) ∧ w.heap.size ≤ g ∧ w.heap.size ≤ gl ∧ Bare w' g gl d ∧ Below w.heap.size w w' := by
  refine (new_calls d hd w).mono ?_
  rintro e w1 ⟨g, gl, rfl, hne, hg, hgl, hg1, hgl1, hA, hR, hb⟩
  exact ⟨g, gl, rfl, hg, hgl, ⟨hne, hA, hR⟩, hb⟩
theorem bentq {P : Nat → Prop} {w : World} {g gl : Nat} {l : List Bool} {i : Nat} {mask : List Bool} {ones bent : Nat} (h : Isq P w g gl l i mask ones bent) : Calls Try.prog 13 #[.pointer (some ⟨g, 0, none⟩)] w fun e w' => e = .returned (.int .i64 bent) ∧ w' = w := by
  obtain ⟨hne, hap, ⟨vm, hA, _⟩, _, _⟩ := h
  exact bent_calls g _ _ _ _ _ w hA
theorem delayq {P : Nat → Prop} {w : World} {g gl : Nat} {l : List Bool} {i : Nat} {mask : List Bool} {ones bent : Nat} (h : Isq P w g gl l i mask ones bent) : Calls Try.prog 17 #[.pointer (some ⟨g, 0, none⟩)] w fun e w' => e = .returned (.int .i64 l.length) ∧ w' = w := by
  obtain ⟨hne, hap, ⟨vm, hA, _⟩, _, _⟩ := h
  exact delay_calls g _ _ _ _ _ _ _ w hA
theorem maskedq {P : Nat → Prop} {w : World} {g gl : Nat} {l : List Bool} {i : Nat} {mask : List Bool} {ones bent : Nat} (h : Isq P w g gl l i mask ones bent) (hb : mask.length + ones < 4611686018427387904) : Calls Try.prog 16 #[.pointer (some ⟨g, 0, none⟩)] w fun e w' => e = .returned (.int .i64 ((mask.length + ones : Nat) : Int)) ∧ ∃ k, w' = w.drewN k := by
  obtain ⟨hne, hap, ⟨vm, hA, hS⟩, _, _⟩ := h
  obtain ⟨A, c, rfl, _⟩ := hS.reads
  exact masked_calls g A _ c _ _ _ _ w hA hb
theorem Isq.drewN {P : Nat → Prop} {w : World} {g gl : Nat} {l : List Bool} {i : Nat} {mask : List Bool} {ones bent : Nat} (h : Isq P w g gl l i mask ones bent) (n : Nat) : Isq P (w.drewN n) g gl l i mask ones bent := h.below (pw_below_drewN (Below.refl _ _) n)
theorem breakq {P : Nat → Prop} {w : World} {g gl : Nat} {l : List Bool} {i : Nat} {mask : List Bool} {ones bent n : Nat} (h : Isq P w g gl l i mask ones bent) (h1 : 7 ≤ n) (h2 : ones + n ≤ 65536) :
    Calls Try.prog 15 #[.pointer (some ⟨g, 0, none⟩), .int .i64 (n : Int)] w fun e w' => e = .returned (.int .i64 0) ∧ Isq P w' g gl l i mask (ones + n) bent ∧ Only (fun k => k = g) w w' := by
  obtain ⟨hne, hap, ⟨vm, hA, hS⟩, hrow, hidx⟩ := h
  refine (break_calls g _ _ i bent ones n w hA h1 h2).mono ?_
  rintro e w' ⟨rfl, hA', ho⟩
  exact ⟨rfl, ⟨hne, hap, ⟨_, hA', hS.only ho (fun k hk _ hp => (hap k hk).1 hp)⟩, hrow.only ho hne, hidx⟩, ho⟩
set_option maxHeartbeats 8000000 in
set_option maxRecDepth 100000 in
theorem bendq {P : Nat → Prop} {w : World} {g gl : Nat} {l : List Bool} {i : Nat} {mask : List Bool} {ones bent : Nat} (h : Isq P w g gl l i mask ones bent) (new : List Bool) (A : Option Addr) (c : Nat) (hr : ReadsOf Value.bool false w A new.length new) (hl : mask.length + new.length ≤ 65536) (hfresh : ∀ k, w.heap.size ≤ k → P k) :
    Calls Try.prog 14 #[.pointer (some ⟨g, 0, none⟩), .slice A new.length c] w fun e w' => e = .returned (.int .i64 0) ∧ Isq P w' g gl l i (mask ++ new) ones bent ∧ Only (fun k => k = g ∨ P k) w w' := by
  have hlt := h.lt
  obtain ⟨hne, hap, ⟨vm, hA, hS⟩, hrow, hidx⟩ := h
  obtain ⟨v1, w1, hrun, hS1, ho1⟩ := append_spare 41 Try.underlying41 41 P vm mask new A c w hS hr (by omega) hfresh
  obtain ⟨A2, N, cN, rfl⟩ : ∃ A2 N cN, v1 = .slice A2 N cN := by
    obtain ⟨A2, cN, e, _⟩ := hS1.reads
    exact ⟨A2, _, cN, e⟩
  have hA1 := hA.only ho1 (fun hp => (hap g hp).1 rfl)
  obtain ⟨A0, c0', rfl, _⟩ := hS.reads
  obtain ⟨c0, c1, c2, c3, c4⟩ := hA.cells
  obtain ⟨b0, b1, b2, b3, b4⟩ := hA1.cells
  have f2 := hA1.frozen 2
  have d1 : decide ((65536 : Int) < (mask.length : Int) + (new.length : Int)) = false := decide_eq_false (by omega)
  have d2 : decide (65536 < mask.length + new.length) = false := decide_eq_false (by omega)
  have HK := Aside0.mk hrun
  have HS1 := Aside0.mk hS1
  have HO1 := Aside0.mk ho1
  clear hrun hS1 ho1 hS
  go_enter Try.func14, Try.ntmps14
  go_wp2_with (first
  | ((with_reducible refine gate_builtin (b := .append) (xs := #[.tmp 22, .tmp 23]) rfl ?_); refine wpList_append_run rfl (.tmp 22) (.tmp 23) 41 rfl (.slice A0 mask.length c0') (.slice A new.length c) rfl rfl (.slice A2 N cN) w1 HK.out ?_))
  go_ret
  refine ⟨rfl, ⟨hne, hap, ⟨_, At.set2 hA1 (.slice A2 N cN), ?_⟩, ?_, hidx⟩, ?_⟩
  · exact HS1.out.only ((Only.refl (fun k => k = g) w1).set (p := ⟨g, 2, none⟩) rfl (.slice A2 N cN)) (fun k hk _ hp => (hap k hk).1 hp)
  · exact Row.far (hrow.only HO1.out (fun hp => (hap gl hp).2 rfl)) hne _
  · exact (HO1.out.mono (Q := fun k => k = g ∨ P k) (fun k hk => Or.inr hk)).set (p := ⟨g, 2, none⟩) (Or.inl rfl) _
end Go.Proofs.Ytaiallgcobpkaaa.Wire
