/- A wire, a mask of one's own and a list of bits under way, side by side in memory. No condition. Written for this claim. -/
import Derived.Test.YtaiallgcobpkaaaWireTwo
import Derived.Test.YtaiallgcobpkaaaWireMore
namespace Go.Proofs.Ytaiallgcobpkaaa.Wire
open Go Go.RowKit Go.Proofs.Ytaiallgcobpkaaa Go.Proofs.YtaiallgcobpkaaaW.PrintWords Go.Proofs.YtaiallgcobpkaaaW.PrintLast Go.Proofs.YtaiallgcobpkaaaW.PrintMore Go.Proofs.Ytaiallgcobpkaaa.Base
set_option linter.unusedVariables false
set_option linter.unusedSimpArgs false
/-- The blocks of E are as they were. -/
def KeptE (E : Nat → Prop) (w w' : World) : Prop := ∀ k, E k → w'.heap[k]? = w.heap[k]?
theorem KeptE.refl (E : Nat → Prop) (w : World) : KeptE E w w := fun _ _ => rfl
theorem KeptE.trans {E : Nat → Prop} {w w1 w2 : World} (h : KeptE E w w1) (h' : KeptE E w1 w2) : KeptE E w w2 := fun k hk => (h' k hk).trans (h k hk)
theorem KeptE.cell {E : Nat → Prop} {w w' : World} (h : KeptE E w w') {p : Addr} (hp : E p.block) {v : Value} (hc : w.cell? p = some v) : w'.cell? p = some v := by
  unfold World.cell? at *
  rw [h _ hp]
  exact hc
theorem KeptE.reads {E : Nat → Prop} {w w' : World} (h : KeptE E w w') {A : Option Addr} {n : Nat} {xs : List Bool} (hr : ReadsOf Value.bool false w A n xs) (hA : ∀ ad, A = some ad → 0 < n → E ad.block) : ReadsOf Value.bool false w' A n xs := by
  refine ⟨hr.1, hr.2.1, fun hn => ?_⟩
  obtain ⟨a0, e0, hc⟩ := hr.2.2 hn
  refine ⟨a0, e0, fun j hj => h.cell ?_ (hc j hj)⟩
  rw [add_block]
  exact hA a0 e0 hn
theorem Spare.mono {w : World} {P Q : Nat → Prop} {v : Value} {m : List Bool} (h : Spare w P v m) (hq : ∀ k, P k → k < w.heap.size → Q k) : Spare w Q v m := by
  rcases h with h | ⟨gm, off, c, cells, rfl, h1, h2, h3, h4, h5, h6⟩
  · exact Or.inl h
  · exact Or.inr ⟨gm, off, c, cells, rfl, h1, h2, h3, h4, h5, hq gm h6 (Array.getElem?_eq_some_iff.1 h3).1⟩
theorem Spare.made {P : Nat → Prop} (d : Nat) (hd : d ≤ 65536) (w : World) (hP : P w.heap.size) : Spare (w.alloc (.cells (madeCells #[.bool false] d) 4)) P (.slice (some ⟨w.heap.size, 0, none⟩) d d) (List.replicate d false) := by
  refine Or.inr ⟨w.heap.size, 0, d, madeCells #[.bool false] d, by rw [List.length_replicate], by rw [List.length_replicate]; omega, by simp only [maxLen]; omega, heap_alloc_new w _, ?_, fun j hj => ?_, hP⟩
  · rw [made_row]; simp [encs]
  · rw [List.length_replicate] at hj
    rw [made_row, Nat.zero_add]
    simp [encs, List.getD_eq_getElem?_getD, hj]
structure Trio (B : Nat) (E : Nat → Prop) (w : World) (g gl : Nat) (u wm : List Bool) (ones bent : Nat) (vk : Value) (km : List Bool) (vu : Value) (um : List Bool) : Prop where
  low : B ≤ g ∧ B ≤ gl ∧ B ≤ w.heap.size
  ex : ∃ (l : List Bool) (i : Nat) (Pm Pk Pu : Nat → Prop), Que l i u ∧ (∀ k, Pm k → B ≤ k ∧ k < w.heap.size ∧ ¬ Pk k ∧ ¬ Pu k) ∧ (∀ k, Pk k → B ≤ k ∧ k < w.heap.size ∧ k ≠ g ∧ k ≠ gl ∧ ¬ Pu k) ∧ (∀ k, Pu k → B ≤ k ∧ k < w.heap.size ∧ k ≠ g ∧ k ≠ gl) ∧
    (∀ k, E k → ¬ Pm k ∧ ¬ Pk k ∧ ¬ Pu k ∧ k ≠ g ∧ k ≠ gl ∧ k < w.heap.size) ∧ Isq Pm w g gl l i wm ones bent ∧ Spare w Pk vk km ∧ Spare w Pu vu um
theorem Trio.below {B : Nat} {E E' : Nat → Prop} {w w' : World} {g gl : Nat} {u wm : List Bool} {ones bent : Nat} {vk vu : Value} {km um : List Bool} (t : Trio B E w g gl u wm ones bent vk km vu um) (hb : Below w.heap.size w w') (hE : ∀ k, E' k → E k ∨ (w.heap.size ≤ k ∧ k < w'.heap.size)) : Trio B E' w' g gl u wm ones bent vk km vu um := by
  obtain ⟨h0, l, i, Pm, Pk, Pu, hq, h1, h2, h3, h4, hI, hk, hu⟩ := t
  have hsz := hb.size
  have hlt := hI.lt
  have ho : Only (fun k => w.heap.size ≤ k) w w' := ⟨hb.os, hb.tape, hb.output, hb.size, fun k hk _ => hb.block k hk⟩
  refine ⟨⟨h0.1, h0.2.1, by omega⟩, l, i, Pm, Pk, Pu, hq, fun k hk => ⟨(h1 k hk).1, by have := h1 k hk; omega, (h1 k hk).2.2⟩, fun k hk => ⟨(h2 k hk).1, by have := h2 k hk; omega, (h2 k hk).2.2⟩, fun k hk => ⟨(h3 k hk).1, by have := h3 k hk; omega, (h3 k hk).2.2⟩, fun k hk => ?_, hI.below hb, hk.only ho (fun k _ hk hp => by omega), hu.only ho (fun k _ hk hp => by omega)⟩
  rcases hE k hk with h | ⟨h, h'⟩
  · have := h4 k h
    exact ⟨this.1, this.2.1, this.2.2.1, this.2.2.2.1, this.2.2.2.2.1, by omega⟩
  · exact ⟨fun hp => by have := h1 k hp; omega, fun hp => by have := h2 k hp; omega, fun hp => by have := h3 k hp; omega, by omega, by omega, h'⟩
theorem Trio.same {B : Nat} {E E' : Nat → Prop} {w : World} {g gl : Nat} {u wm : List Bool} {ones bent : Nat} {vk vu : Value} {km um : List Bool} (t : Trio B E w g gl u wm ones bent vk km vu um) (hE : ∀ k, E' k → E k) : Trio B E' w g gl u wm ones bent vk km vu um := t.below (Below.refl _ _) (fun k hk => Or.inl (hE k hk))
theorem Trio.elt {B : Nat} {E : Nat → Prop} {w : World} {g gl : Nat} {u wm : List Bool} {ones bent : Nat} {vk vu : Value} {km um : List Bool} (t : Trio B E w g gl u wm ones bent vk km vu um) : ∀ k, E k → k < w.heap.size := by
  obtain ⟨h0, l, i, Pm, Pk, Pu, hq, h1, h2, h3, h4, hI, hk, hu⟩ := t
  exact fun k hk => (h4 k hk).2.2.2.2.2
theorem Trio.kreads {B : Nat} {E : Nat → Prop} {w : World} {g gl : Nat} {u wm : List Bool} {ones bent : Nat} {vk vu : Value} {km um : List Bool} (t : Trio B E w g gl u wm ones bent vk km vu um) : ∃ A c, vk = .slice A km.length c ∧ km.length ≤ c ∧ ReadsOf Value.bool false w A km.length km := by
  obtain ⟨h0, l, i, Pm, Pk, Pu, hq, h1, h2, h3, h4, hI, hk, hu⟩ := t
  obtain ⟨A, c, e, hc, hr, _⟩ := hk.reads
  exact ⟨A, c, e, hc, hr⟩
theorem Trio.ureads {B : Nat} {E : Nat → Prop} {w : World} {g gl : Nat} {u wm : List Bool} {ones bent : Nat} {vk vu : Value} {km um : List Bool} (t : Trio B E w g gl u wm ones bent vk km vu um) : ∃ A c, vu = .slice A um.length c ∧ um.length ≤ c ∧ ReadsOf Value.bool false w A um.length um ∧ ∀ ad, A = some ad → ad.block ≠ g ∧ ad.block ≠ gl := by
  obtain ⟨h0, l, i, Pm, Pk, Pu, hq, h1, h2, h3, h4, hI, hk, hu⟩ := t
  obtain ⟨A, c, e, hc, hr, hd⟩ := hu.reads
  exact ⟨A, c, e, hc, hr, fun ad e => (h3 _ (hd ad e)).2.2⟩
theorem Trio.ktail {B : Nat} {E : Nat → Prop} {w : World} {g gl : Nat} {u wm : List Bool} {ones bent : Nat} {vu : Value} {A : Option Addr} {c : Nat} {b : Bool} {km um : List Bool} (t : Trio B E w g gl u wm ones bent (.slice A (b :: km).length c) (b :: km) vu um) : Trio B E w g gl u wm ones bent (.slice (if c = 1 then A else A.map (·.add 1)) ((b :: km).length - 1) (c - 1)) km vu um := by
  obtain ⟨h0, l, i, Pm, Pk, Pu, hq, h1, h2, h3, h4, hI, hk, hu⟩ := t
  exact ⟨h0, l, i, Pm, Pk, Pu, hq, h1, h2, h3, h4, hI, hk.tail, hu⟩
theorem Trio.utail {B : Nat} {E : Nat → Prop} {w : World} {g gl : Nat} {u wm : List Bool} {ones bent : Nat} {vk : Value} {A : Option Addr} {c : Nat} {b : Bool} {km um : List Bool} (t : Trio B E w g gl u wm ones bent vk km (.slice A (b :: um).length c) (b :: um)) : Trio B E w g gl u wm ones bent vk km (.slice (if c = 1 then A else A.map (·.add 1)) ((b :: um).length - 1) (c - 1)) um := by
  obtain ⟨h0, l, i, Pm, Pk, Pu, hq, h1, h2, h3, h4, hI, hk, hu⟩ := t
  exact ⟨h0, l, i, Pm, Pk, Pu, hq, h1, h2, h3, h4, hI, hk, hu.tail⟩
theorem only_kept {E P : Nat → Prop} {w w' : World} (ho : Only P w w') (h : ∀ k, E k → ¬ P k ∧ k < w.heap.size) : KeptE E w w' := fun k hk => ho.block k (h k hk).2 (h k hk).1
/-- Bits put behind the mask of one's own. -/
theorem Trio.kappend {B : Nat} {E : Nat → Prop} {w : World} {g gl : Nat} {u wm : List Bool} {ones bent : Nat} {vk vu : Value} {km um : List Bool} (t : Trio B E w g gl u wm ones bent vk km vu um) (ty0 : TypeId) (ht : Try.prog.underlying ty0 = some (.slice 4)) (ty : TypeId) (new : List Bool) (A : Option Addr) (c : Nat) (hr : ReadsOf Value.bool false w A new.length new) (hl : km.length + new.length ≤ 140737488355328) :
    ∃ A1 c1 w1, (Builtin.append_ #[ty0, ty0] ty #[vk, .slice A new.length c]).run Try.prog w = .ok (.slice A1 (km ++ new).length c1) w1 ∧ Trio B E w1 g gl u wm ones bent (.slice A1 (km ++ new).length c1) (km ++ new) vu um ∧ Below B w w1 ∧ KeptE E w w1 := by
  obtain ⟨h0, l, i, Pm, Pk, Pu, hq, h1, h2, h3, h4, hI, hk, hu⟩ := t
  have hlt := hI.lt
  obtain ⟨v1, w1, hrun, hS, ho⟩ := append_spare ty0 ht ty (fun k => Pk k ∨ w.heap.size ≤ k) vk km new A c w (hk.mono (fun k hk _ => Or.inl hk)) hr hl (fun k hk => Or.inr hk)
  obtain ⟨A1, c1, rfl, hc1, hr1, _⟩ := hS.reads
  have hsz := ho.size
  refine ⟨A1, c1, w1, hrun, ⟨⟨h0.1, h0.2.1, by omega⟩, l, i, Pm, (fun k => (Pk k ∨ w.heap.size ≤ k) ∧ k < w1.heap.size), Pu, hq, fun k hk => ?_, fun k hk => ?_, fun k hk => ?_, fun k hk => ?_, ?_, ?_, ?_⟩, ho.below (fun k hk => hk.elim (fun hk => (h2 k hk).1) (fun hk => by omega)) (Below.refl _ _) h0.2.2, only_kept ho (fun k hk => ⟨fun hp => hp.elim (h4 k hk).2.1 (fun hp => by have := h4 k hk; omega), (h4 k hk).2.2.2.2.2⟩)⟩
  · have := h1 k hk
    exact ⟨this.1, by omega, fun hp => hp.1.elim this.2.2.1 (fun hp => by omega), this.2.2.2⟩
  · refine ⟨?_, hk.2, ?_, ?_, fun hp => ?_⟩
    · exact hk.1.elim (fun hk => (h2 k hk).1) (fun hk => by omega)
    · exact hk.1.elim (fun hk => (h2 k hk).2.2.1) (fun hk => by omega)
    · exact hk.1.elim (fun hk => (h2 k hk).2.2.2.1) (fun hk => by omega)
    · exact hk.1.elim (fun hk => (h2 k hk).2.2.2.2 hp) (fun hk => by have := h3 k hp; omega)
  · have := h3 k hk
    exact ⟨this.1, by omega, this.2.2⟩
  · have := h4 k hk
    exact ⟨this.1, fun hp => hp.1.elim this.2.1 (fun hp => by omega), this.2.2.1, this.2.2.2.1, this.2.2.2.2.1, by omega⟩
  · exact hI.only ho (fun hp => hp.elim (fun hp => (h2 g hp).2.2.1 rfl) (fun hp => by omega)) (fun hp => hp.elim (fun hp => (h2 gl hp).2.2.2.1 rfl) (fun hp => by omega)) (fun k hk hlt hp => hp.elim (h1 k hk).2.2.1 (fun hp => by omega))
  · exact hS.mono (fun k hk hlt => ⟨hk, hlt⟩)
  · exact hu.only ho (fun k hk hlt hp => hp.elim (fun hp => (h2 k hp).2.2.2.2 hk) (fun hp => by omega))
/-- Bits put behind those under way. -/
theorem Trio.uappend {B : Nat} {E : Nat → Prop} {w : World} {g gl : Nat} {u wm : List Bool} {ones bent : Nat} {vk vu : Value} {km um : List Bool} (t : Trio B E w g gl u wm ones bent vk km vu um) (ty0 : TypeId) (ht : Try.prog.underlying ty0 = some (.slice 4)) (ty : TypeId) (new : List Bool) (A : Option Addr) (c : Nat) (hr : ReadsOf Value.bool false w A new.length new) (hl : um.length + new.length ≤ 140737488355328) :
    ∃ A1 c1 w1, (Builtin.append_ #[ty0, ty0] ty #[vu, .slice A new.length c]).run Try.prog w = .ok (.slice A1 (um ++ new).length c1) w1 ∧ Trio B E w1 g gl u wm ones bent vk km (.slice A1 (um ++ new).length c1) (um ++ new) ∧ Below B w w1 ∧ KeptE E w w1 := by
  obtain ⟨h0, l, i, Pm, Pk, Pu, hq, h1, h2, h3, h4, hI, hk, hu⟩ := t
  have hlt := hI.lt
  obtain ⟨v1, w1, hrun, hS, ho⟩ := append_spare ty0 ht ty (fun k => Pu k ∨ w.heap.size ≤ k) vu um new A c w (hu.mono (fun k hk _ => Or.inl hk)) hr hl (fun k hk => Or.inr hk)
  obtain ⟨A1, c1, rfl, hc1, hr1, _⟩ := hS.reads
  have hsz := ho.size
  refine ⟨A1, c1, w1, hrun, ⟨⟨h0.1, h0.2.1, by omega⟩, l, i, Pm, Pk, (fun k => (Pu k ∨ w.heap.size ≤ k) ∧ k < w1.heap.size), hq, fun k hk => ?_, fun k hk => ?_, fun k hk => ?_, fun k hk => ?_, ?_, ?_, ?_⟩, ho.below (fun k hk => hk.elim (fun hk => (h3 k hk).1) (fun hk => by omega)) (Below.refl _ _) h0.2.2, only_kept ho (fun k hk => ⟨fun hp => hp.elim (h4 k hk).2.2.1 (fun hp => by have := h4 k hk; omega), (h4 k hk).2.2.2.2.2⟩)⟩
  · have := h1 k hk
    exact ⟨this.1, by omega, this.2.2.1, fun hp => hp.1.elim this.2.2.2 (fun hp => by omega)⟩
  · have := h2 k hk
    exact ⟨this.1, by omega, this.2.2.1, this.2.2.2.1, fun hp => hp.1.elim this.2.2.2.2 (fun hp => by omega)⟩
  · refine ⟨?_, hk.2, ?_, ?_⟩
    · exact hk.1.elim (fun hk => (h3 k hk).1) (fun hk => by omega)
    · exact hk.1.elim (fun hk => (h3 k hk).2.2.1) (fun hk => by omega)
    · exact hk.1.elim (fun hk => (h3 k hk).2.2.2) (fun hk => by omega)
  · have := h4 k hk
    exact ⟨this.1, this.2.1, fun hp => hp.1.elim this.2.2.1 (fun hp => by omega), this.2.2.2.1, this.2.2.2.2.1, by omega⟩
  · exact hI.only ho (fun hp => hp.elim (fun hp => (h3 g hp).2.2.1 rfl) (fun hp => by omega)) (fun hp => hp.elim (fun hp => (h3 gl hp).2.2.2 rfl) (fun hp => by omega)) (fun k hk hlt hp => hp.elim (h1 k hk).2.2.2 (fun hp => by omega))
  · exact hk.only ho (fun k hk hlt hp => hp.elim (h2 k hk).2.2.2.2 (fun hp => by omega))
  · exact hS.mono (fun k hk hlt => ⟨hk, hlt⟩)
/-- One bit put behind those under way. -/
theorem Trio.uone {B : Nat} {E : Nat → Prop} {w : World} {g gl : Nat} {u wm : List Bool} {ones bent : Nat} {vk vu : Value} {km um : List Bool} (t : Trio B E w g gl u wm ones bent vk km vu um) (ty0 : TypeId) (ht : Try.prog.underlying ty0 = some (.slice 4)) (ty : TypeId) (b : Bool) (hl : um.length ≤ 100000) :
    ∃ A1 c1 w1, (Builtin.append_ #[ty0, ty0] ty #[vu, .slice (some ⟨w.heap.size, 0, none⟩) 1 1]).run Try.prog (w.alloc (.cells #[.bool b] 4)) = .ok (.slice A1 (um ++ [b]).length c1) w1 ∧ Trio B E w1 g gl u wm ones bent vk km (.slice A1 (um ++ [b]).length c1) (um ++ [b]) ∧ Below B w w1 ∧ KeptE E w w1 := by
  have hb : Below w.heap.size w (w.alloc (.cells #[.bool b] 4)) := below_alloc (Below.refl _ _) _
  have hr : ReadsOf Value.bool false (w.alloc (.cells #[.bool b] 4)) (some ⟨w.heap.size, 0, none⟩) [b].length [b] := by
    refine ⟨rfl, by simp, fun _ => ⟨_, rfl, fun j hj => ?_⟩⟩
    obtain rfl : j = 0 := by simp at hj; omega
    rw [Addr.add_lit, World.cell?_alloc_mark]
    rfl
  have t1 := t.below (E' := E) hb (fun k hk => Or.inl hk)
  obtain ⟨A1, c1, w1, h1, h2, h3, h4⟩ := t1.uappend ty0 ht ty [b] _ 1 hr (by simp; omega)
  exact ⟨A1, c1, w1, h1, h2, (hb.mono t.low.2.2).trans h3, fun k hk => (h4 k hk).trans (hb.block k (t.elt k hk))⟩
theorem tbend {B : Nat} {E : Nat → Prop} {w : World} {g gl : Nat} {u wm : List Bool} {ones bent : Nat} {vk vu : Value} {km um : List Bool} (t : Trio B E w g gl u wm ones bent vk km vu um) (new : List Bool) (A : Option Addr) (c : Nat) (hr : ReadsOf Value.bool false w A new.length new) (hl : wm.length + new.length ≤ 65536) :
    Calls Try.prog 14 #[.pointer (some ⟨g, 0, none⟩), .slice A new.length c] w fun e w' => e = .returned (.int .i64 0) ∧ Trio B E w' g gl u (wm ++ new) ones bent vk km vu um ∧ Below B w w' ∧ KeptE E w w' := by
  obtain ⟨h0, l, i, Pm, Pk, Pu, hq, h1, h2, h3, h4, hI, hk, hu⟩ := t
  have hlt := hI.lt
  have hap := hI.apart
  refine (bendq (P := fun k => Pm k ∨ w.heap.size ≤ k) (hI.mono (fun k hk _ => Or.inl hk) (fun k hk => hk.elim (fun hk => hap k hk) (fun hk => by omega))) new A c hr hl (fun k hk => Or.inr hk)).mono ?_
  rintro e w1 ⟨rfl, hI', ho⟩
  have hsz := ho.size
  refine ⟨rfl, ⟨⟨h0.1, h0.2.1, by omega⟩, l, i, (fun k => (Pm k ∨ w.heap.size ≤ k) ∧ k < w1.heap.size), Pk, Pu, hq, fun k hk => ?_, fun k hk => ?_, fun k hk => ?_, fun k hk => ?_, ?_, ?_, ?_⟩, ho.below (fun k hk => hk.elim (fun hk => hk ▸ h0.1) (fun hk => hk.elim (fun hk => (h1 k hk).1) (fun hk => by omega))) (Below.refl _ _) h0.2.2, only_kept ho (fun k hk => ⟨fun hp => hp.elim (h4 k hk).2.2.2.1 (fun hp => hp.elim (h4 k hk).1 (fun hp => by have := h4 k hk; omega)), (h4 k hk).2.2.2.2.2⟩)⟩
  · refine ⟨?_, hk.2, fun hp => ?_, fun hp => ?_⟩
    · exact hk.1.elim (fun hk => (h1 k hk).1) (fun hk => by omega)
    · exact hk.1.elim (fun hk => (h1 k hk).2.2.1 hp) (fun hk => by have := h2 k hp; omega)
    · exact hk.1.elim (fun hk => (h1 k hk).2.2.2 hp) (fun hk => by have := h3 k hp; omega)
  · have := h2 k hk
    exact ⟨this.1, by omega, this.2.2.1, this.2.2.2.1, this.2.2.2.2⟩
  · have := h3 k hk
    exact ⟨this.1, by omega, this.2.2⟩
  · have := h4 k hk
    exact ⟨fun hp => hp.1.elim this.1 (fun hp => by omega), this.2.1, this.2.2.1, this.2.2.2.1, this.2.2.2.2.1, by omega⟩
  · exact hI'.mono (fun k hk hlt => ⟨hk, hlt⟩) (fun k hk => hI'.apart k hk.1)
  · exact hk.only ho (fun k hk hlt hp => hp.elim (h2 k hk).2.2.1 (fun hp => hp.elim (fun hp => (h1 k hp).2.2.1 hk) (fun hp => by omega)))
  · exact hu.only ho (fun k hk hlt hp => hp.elim (h3 k hk).2.2.1 (fun hp => hp.elim (fun hp => (h1 k hp).2.2.2 hk) (fun hp => by omega)))
theorem tbreak {B : Nat} {E : Nat → Prop} {w : World} {g gl : Nat} {u wm : List Bool} {ones bent n : Nat} {vk vu : Value} {km um : List Bool} (t : Trio B E w g gl u wm ones bent vk km vu um) (hn : 7 ≤ n) (ho' : ones + n ≤ 65536) :
    Calls Try.prog 15 #[.pointer (some ⟨g, 0, none⟩), .int .i64 (n : Int)] w fun e w' => e = .returned (.int .i64 0) ∧ Trio B E w' g gl u wm (ones + n) bent vk km vu um ∧ Below B w w' ∧ KeptE E w w' := by
  obtain ⟨h0, l, i, Pm, Pk, Pu, hq, h1, h2, h3, h4, hI, hk, hu⟩ := t
  refine (breakq hI hn ho').mono ?_
  rintro e w1 ⟨rfl, hI', ho⟩
  have hsz := ho.size
  refine ⟨rfl, ⟨⟨h0.1, h0.2.1, by omega⟩, l, i, Pm, Pk, Pu, hq, fun k hk => ?_, fun k hk => ?_, fun k hk => ?_, fun k hk => ?_, hI', ?_, ?_⟩, ho.below (fun k hk => hk ▸ h0.1) (Below.refl _ _) h0.2.2, only_kept ho (fun k hk => ⟨(h4 k hk).2.2.2.1, (h4 k hk).2.2.2.2.2⟩)⟩
  · have := h1 k hk
    exact ⟨this.1, by omega, this.2.2⟩
  · have := h2 k hk
    exact ⟨this.1, by omega, this.2.2⟩
  · have := h3 k hk
    exact ⟨this.1, by omega, this.2.2⟩
  · have := h4 k hk
    exact ⟨this.1, this.2.1, this.2.2.1, this.2.2.2.1, this.2.2.2.2.1, by omega⟩
  · exact hk.only ho (fun k hk hlt hp => (h2 k hk).2.2.1 hp)
  · exact hu.only ho (fun k hk hlt hp => (h3 k hk).2.2.1 hp)
theorem tpass {B : Nat} {E : Nat → Prop} {w : World} {g gl : Nat} {u wm : List Bool} {ones bent : Nat} {vk vu : Value} {km um : List Bool} (t : Trio B E w g gl u wm ones bent vk km vu um) (hb : bent < 4611686018427387904) (hos : ones < 4611686018427387904) (hul : u.length < 4611686018427387904) (on : Bool) :
    Calls Try.prog 11 #[.pointer (some ⟨g, 0, none⟩), .bool on] w fun e w' => e = .returned (.bool ((u ++ [goes wm ones on]).headD false)) ∧ Trio B E w' g gl ((u ++ [goes wm ones on]).drop 1) (wm.drop 1) (ones - 1) (bent + bends wm ones on) vk km vu um ∧ Below B w w' ∧ KeptE E w w' ∧ Only (fun k => k = g ∨ k = gl) w w' := by
  obtain ⟨h0, l, i, Pm, Pk, Pu, hq, h1, h2, h3, h4, hI, hk, hu⟩ := t
  have hq' := hq.pass wm ones on
  have hql := hq.1
  refine (passq hI hb hos (by omega) on).mono ?_
  rintro e w1 ⟨rfl, hI', ho⟩
  have hsz := ho.size
  refine ⟨by rw [hq'.1], ⟨⟨h0.1, h0.2.1, by omega⟩, _, _, Pm, Pk, Pu, hq'.2, fun k hk => ?_, fun k hk => ?_, fun k hk => ?_, fun k hk => ?_, hI', ?_, ?_⟩, ho.below (fun k hk => hk.elim (fun hk => hk ▸ h0.1) (fun hk => hk ▸ h0.2.1)) (Below.refl _ _) h0.2.2, only_kept ho (fun k hk => ⟨fun hp => hp.elim (h4 k hk).2.2.2.1 (h4 k hk).2.2.2.2.1, (h4 k hk).2.2.2.2.2⟩), ho⟩
  · have := h1 k hk
    exact ⟨this.1, by omega, this.2.2⟩
  · have := h2 k hk
    exact ⟨this.1, by omega, this.2.2⟩
  · have := h3 k hk
    exact ⟨this.1, by omega, this.2.2⟩
  · have := h4 k hk
    exact ⟨this.1, this.2.1, this.2.2.1, this.2.2.2.1, this.2.2.2.2.1, by omega⟩
  · exact hk.only ho (fun k hk hlt hp => hp.elim (h2 k hk).2.2.1 (h2 k hk).2.2.2.1)
  · exact hu.only ho (fun k hk hlt hp => hp.elim (h3 k hk).2.2.1 (h3 k hk).2.2.2)
theorem tmasked {B : Nat} {E : Nat → Prop} {w : World} {g gl : Nat} {u wm : List Bool} {ones bent : Nat} {vk vu : Value} {km um : List Bool} (t : Trio B E w g gl u wm ones bent vk km vu um) (hb : wm.length + ones < 4611686018427387904) :
    Calls Try.prog 16 #[.pointer (some ⟨g, 0, none⟩)] w fun e w' => e = .returned (.int .i64 ((wm.length + ones : Nat) : Int)) ∧ Trio B E w' g gl u wm ones bent vk km vu um ∧ Below B w w' ∧ KeptE E w w' := by
  have t' := t
  obtain ⟨h0, l, i, Pm, Pk, Pu, hq, h1, h2, h3, h4, hI, hk, hu⟩ := t
  refine (maskedq hI hb).mono ?_
  rintro e w1 ⟨rfl, n, rfl⟩
  have hb : Below w.heap.size w (w.drewN n) := pw_below_drewN (Below.refl _ _) n
  exact ⟨rfl, t'.below hb (fun k hk => Or.inl hk), hb.mono h0.2.2, fun k hk => rfl⟩
theorem tbent {B : Nat} {E : Nat → Prop} {w : World} {g gl : Nat} {u wm : List Bool} {ones bent : Nat} {vk vu : Value} {km um : List Bool} (t : Trio B E w g gl u wm ones bent vk km vu um) : Calls Try.prog 13 #[.pointer (some ⟨g, 0, none⟩)] w fun e w' => e = .returned (.int .i64 bent) ∧ w = w' := by
  obtain ⟨h0, l, i, Pm, Pk, Pu, hq, h1, h2, h3, h4, hI, hk, hu⟩ := t
  exact (bentq hI).mono (fun e w' h => ⟨h.1, h.2.symm⟩)
theorem tdelay {B : Nat} {E : Nat → Prop} {w : World} {g gl : Nat} {u wm : List Bool} {ones bent : Nat} {vk vu : Value} {km um : List Bool} (t : Trio B E w g gl u wm ones bent vk km vu um) : Calls Try.prog 17 #[.pointer (some ⟨g, 0, none⟩)] w fun e w' => e = .returned (.int .i64 u.length) ∧ w = w' := by
  obtain ⟨h0, l, i, Pm, Pk, Pu, hq, h1, h2, h3, h4, hI, hk, hu⟩ := t
  rw [hq.1]
  exact (delayq hI).mono (fun e w' h => ⟨h.1, h.2.symm⟩)
/-- The first bit of a row is cut off. -/
theorem cut_first (A : Option Addr) (n c : Nat) (hn : 1 ≤ n) :
    ∀ W : World, (Instr.slice 28 (.slice A n c) (some (.int .i64 1)) none none).run Try.prog W = .ok (.slice (if c = 1 then A else A.map (·.add 1)) (n - 1) (c - 1)) W := by
  intro W
  obtain ⟨i0, hi0, _, hsz, _⟩ := info_parts info4
  have hel : Try.prog.elem 28 = 4 := by simp [Program.elem, Try.underlying28]
  have hu : Try.prog.underlying 28 = some (.slice (Try.prog.elem 28)) := by rw [hel]; exact Try.underlying28
  rw [run_slice_l W 28 A n c hu .i64 (1 : Int) (by omega) (by omega), hel]
  simp [sizeOf, typeInfo, hi0, hsz, sliced, Result.andThen]
theorem Trio.start {B : Nat} {w : World} {g gl d : Nat} (h : Bare w g gl d) (hd : d ≤ 65536) (hg : B ≤ g) (hgl : B ≤ gl) : Trio B (fun _ => False) (w.alloc (.cells (madeCells #[.bool false] d) 4)) g gl (List.replicate d false) [] 0 0 (.slice none 0 0) [] (.slice (some ⟨w.heap.size, 0, none⟩) d d) (List.replicate d false) := by
  have hb : Below w.heap.size w (w.alloc (.cells (madeCells #[.bool false] d) 4)) := below_alloc (Below.refl _ _) _
  have hlt := h.lt
  have hs : (w.alloc (.cells (madeCells #[.bool false] d) 4)).heap.size = w.heap.size + 1 := by simp [World.alloc_eq]
  exact ⟨⟨hg, hgl, by omega⟩, _, _, (fun _ => False), (fun _ => False), (fun k => k = w.heap.size), Que.new d, fun k hk => hk.elim, fun k hk => hk.elim, fun k hk => ⟨by omega, by omega, by omega, by omega⟩, fun k hk => hk.elim, (h.below hb).isq _ (fun k hk => hk.elim), Or.inl ⟨rfl, rfl⟩, Spare.made d hd w rfl⟩
theorem goesO {wm : List Bool} {ones : Nat} {on : Bool} (h : 1 ≤ ones) : goes wm ones on = true := by
  unfold goes
  rw [decide_eq_true (show 0 < ones by omega), Bool.true_or]
theorem goesZ {wm : List Bool} {ones : Nat} {on : Bool} (h : ¬ 1 ≤ ones) : goes wm ones on = (wm.headD false != on) := by
  unfold goes
  rw [decide_eq_false (show ¬ 0 < ones by omega), Bool.false_or]
theorem bendsO {wm : List Bool} {ones : Nat} {on : Bool} (h : 1 ≤ ones) : bends wm ones on = (if wm.headD false then 1 else 0) + (if (wm.headD false != on) = false then 1 else 0) := by
  unfold bends
  congr 1
  by_cases h' : (wm.headD false != on) = false
  · rw [if_pos (⟨by omega, h'⟩ : 0 < ones ∧ _), if_pos h']
  · rw [if_neg (fun (e : 0 < ones ∧ _) => h' e.2), if_neg h']
theorem bendsZ {wm : List Bool} {ones : Nat} {on : Bool} (h : ¬ 1 ≤ ones) : bends wm ones on = (if wm.headD false then 1 else 0) := by
  unfold bends
  rw [if_neg (c := 0 < ones ∧ (wm.headD false != on) = false) (fun e => h (by have := e.1; omega)), Nat.add_zero]
theorem Trio.box {B : Nat} {w : World} {g gl : Nat} {u wm : List Bool} {ones bent : Nat} {vk vu : Value} {km um : List Bool} (t : Trio B (fun _ => False) w g gl u wm ones bent vk km vu um) (o : Obj) : Trio B (fun k => k = w.heap.size) (w.alloc o) g gl u wm ones bent vk km vu um := by
  have hs : (w.alloc o).heap.size = w.heap.size + 1 := by simp [World.alloc_eq]
  exact t.below (below_alloc (Below.refl _ _) o) (fun k hk => Or.inr ⟨by omega, by omega⟩)
theorem Trio.kcut {B : Nat} {E : Nat → Prop} {w : World} {g gl : Nat} {u wm : List Bool} {ones bent : Nat} {vu : Value} {um : List Bool} {A : Option Addr} {n c : Nat} {b : Bool} {s : List Bool} (t : Trio B E w g gl u wm ones bent (.slice A n c) (b :: s) vu um) :
    ∃ a0 Ax n3 c3, A = some a0 ∧ w.cell? a0 = some (.bool b) ∧ 1 ≤ n ∧ n3 = s.length ∧ (∀ W : World, (Instr.slice 28 (.slice A n c) (some (.int .i64 1)) none none).run Try.prog W = .ok (.slice Ax n3 c3) W) ∧ Trio B E w g gl u wm ones bent (.slice Ax n3 c3) s vu um := by
  obtain ⟨A', c', e, hc, hr⟩ := t.kreads
  simp only [Value.slice.injEq] at e
  obtain ⟨rfl, rfl, rfl⟩ := e
  obtain ⟨a0, rfl, hcell⟩ := hr.2.2 (by simp)
  have h0 := hcell 0 (by simp)
  rw [Addr.add_zero'] at h0
  exact ⟨a0, _, _, _, rfl, h0, by simp, by simp, cut_first _ _ _ (by simp), t.ktail⟩
theorem Trio.ucut {B : Nat} {A : Option Addr} {n c : Nat} {b : Bool} {s : List Bool} (hn : n = s.length + 1) :
    ∃ Ax n3 c3, n3 = s.length ∧ (∀ W : World, (Instr.slice 28 (.slice A n c) (some (.int .i64 1)) none none).run Try.prog W = .ok (.slice Ax n3 c3) W) ∧ ∀ (E : Nat → Prop) (w : World) (g gl : Nat) (u wm : List Bool) (ones bent : Nat) (vk : Value) (km : List Bool), Trio B E w g gl u wm ones bent vk km (.slice A n c) (b :: s) → Trio B E w g gl u wm ones bent vk km (.slice Ax n3 c3) s := by
  subst hn
  refine ⟨_, _, _, ?_, cut_first _ _ _ (by omega), fun E w g gl u wm ones bent vk km t => Trio.utail (b := b) t⟩
  simp
theorem Trio.uput {B : Nat} {E : Nat → Prop} {w : World} {g gl : Nat} {u wm : List Bool} {ones bent : Nat} {vk vu : Value} {km um : List Bool} (t : Trio B E w g gl u wm ones bent vk km vu um) (y : Bool) (hl : um.length ≤ 100000) :
    ∃ a1 n2 c1 w3 z r, (Builtin.append_ #[28, 28] 28 #[vu, .slice (some ⟨w.heap.size, 0, none⟩) 1 1]).run Try.prog (w.alloc (.cells #[.bool y] 4)) = .ok (.slice (some a1) n2 c1) w3 ∧ um ++ [y] = z :: r ∧ n2 = r.length + 1 ∧ Trio B E w3 g gl u wm ones bent vk km (.slice (some a1) n2 c1) (z :: r) ∧ Below B w w3 ∧ KeptE E w w3 ∧ w3.cell? a1 = some (.bool z) ∧ a1.block ≠ g ∧ a1.block ≠ gl := by
  obtain ⟨A1, c1, w3, h1, h2, h3, h4⟩ := t.uone 28 Try.underlying28 28 y hl
  obtain ⟨z, r, hz⟩ : ∃ z r, um ++ [y] = z :: r := by
    cases um with
    | nil => exact ⟨y, [], rfl⟩
    | cons a s => exact ⟨a, s ++ [y], rfl⟩
  rw [hz] at h1 h2
  obtain ⟨A', c', e, hc, hr, hd⟩ := h2.ureads
  simp only [Value.slice.injEq] at e
  obtain ⟨rfl, _, rfl⟩ := e
  obtain ⟨a0, rfl, hcell⟩ := hr.2.2 (by simp)
  have h0 := hcell 0 (by simp)
  rw [Addr.add_zero'] at h0
  exact ⟨a0, _, _, w3, z, r, h1, hz, by simp, h2, h3, h4, h0, (hd a0 rfl).1, (hd a0 rfl).2⟩
theorem Trio.kput {B : Nat} {E : Nat → Prop} {w : World} {g gl : Nat} {u wm : List Bool} {ones bent : Nat} {vk vu : Value} {km um : List Bool} (t : Trio B E w g gl u wm ones bent vk km vu um) (new : List Bool) (A : Option Addr) (c : Nat) (hr : ReadsOf Value.bool false w A new.length new) (hl : km.length + new.length ≤ 140737488355328) :
    ∃ A1 n1 c1 w1, (Builtin.append_ #[28, 28] 28 #[vk, .slice A new.length c]).run Try.prog w = .ok (.slice A1 n1 c1) w1 ∧ n1 = km.length + new.length ∧ Trio B E w1 g gl u wm ones bent (.slice A1 n1 c1) (km ++ new) vu um ∧ Below B w w1 ∧ KeptE E w w1 := by
  obtain ⟨A1, c1, w1, h1, h2, h3, h4⟩ := t.kappend 28 Try.underlying28 28 new A c hr hl
  exact ⟨A1, _, c1, w1, h1, by rw [List.length_append], h2, h3, h4⟩
theorem tpassz {B : Nat} {E : Nat → Prop} {w : World} {g gl : Nat} {u wm : List Bool} {ones bent : Nat} {vk vu : Value} {km um r : List Bool} {y z : Bool} (t : Trio B E w g gl u wm ones bent vk km vu um) (hb : bent < 4611686018427387904) (hos : ones < 4611686018427387904) (hul : u.length < 4611686018427387904) (on : Bool) (hy : goes wm ones on = y) (hz : u ++ [y] = z :: r) :
    Calls Try.prog 11 #[.pointer (some ⟨g, 0, none⟩), .bool on] w fun e w' => e = .returned (.bool z) ∧ Trio B E w' g gl r (wm.drop 1) (ones - 1) (bent + bends wm ones on) vk km vu um ∧ Below B w w' ∧ KeptE E w w' ∧ Only (fun k => k = g ∨ k = gl) w w' := by
  have h := tpass t hb hos hul on
  rw [hy, hz] at h
  exact h
theorem tmaskedx {B : Nat} {E : Nat → Prop} {w : World} {g gl : Nat} {u wm : List Bool} {ones bent : Nat} {vk vu : Value} {km um : List Bool} {x : Int} (t : Trio B E w g gl u wm ones bent vk km vu um) (hb : wm.length + ones < 4611686018427387904) (hx : x = ((wm.length + ones : Nat) : Int)) :
    Calls Try.prog 16 #[.pointer (some ⟨g, 0, none⟩)] w fun e w' => e = .returned (.int .i64 x) ∧ Trio B E w' g gl u wm ones bent vk km vu um ∧ Below B w w' ∧ KeptE E w w' := by
  subst hx
  exact tmasked t hb
theorem tdelayx {B : Nat} {E : Nat → Prop} {w : World} {g gl : Nat} {u wm : List Bool} {ones bent d : Nat} {vk vu : Value} {km um : List Bool} (t : Trio B E w g gl u wm ones bent vk km vu um) (hd : u.length = d) : Calls Try.prog 17 #[.pointer (some ⟨g, 0, none⟩)] w fun e w' => e = .returned (.int .i64 d) ∧ w = w' := by
  subst hd
  exact tdelay t
theorem tbentx {B : Nat} {E : Nat → Prop} {w : World} {g gl : Nat} {u wm : List Bool} {ones bent : Nat} {vk vu : Value} {km um : List Bool} {x : Int} (t : Trio B E w g gl u wm ones bent vk km vu um) (hx : x = (bent : Int)) : Calls Try.prog 13 #[.pointer (some ⟨g, 0, none⟩)] w fun e w' => e = .returned (.int .i64 x) ∧ w = w' := by
  subst hx
  exact tbent t
theorem only_cell {w w' : World} {P : Nat → Prop} (ho : Only P w w') {p : Addr} (hp : ¬ P p.block) {v : Value} (hc : w.cell? p = some v) : w'.cell? p = some v := by
  have hlt := World.block_lt_of_cell? _ _ hc
  unfold World.cell? at *
  rw [ho.block _ hlt hp]
  exact hc
theorem boxed (w : World) (c0 c1 c2 : Value) (ty : TypeId) : (w.alloc (.cells #[c0, c1, c2] ty)).cell? ⟨w.heap.size, 0, none⟩ = some c0 ∧ (w.alloc (.cells #[c0, c1, c2] ty)).cell? ⟨w.heap.size, 1, none⟩ = some c1 ∧ (w.alloc (.cells #[c0, c1, c2] ty)).cell? ⟨w.heap.size, 2, none⟩ = some c2 := by
  refine ⟨?_, ?_, ?_⟩ <;> (rw [World.cell?_alloc_mark]; rfl)
end Go.Proofs.Ytaiallgcobpkaaa.Wire
