/- Two wires one behind the other, and what is under way on one as a list of bits. No condition. Written for this claim. -/
import Derived.Test.YtaiallgcobpkaaaWirePassQ
namespace Go.Proofs.Ytaiallgcobpkaaa.Wire
open Go Go.RowKit Go.Proofs.Ytaiallgcobpkaaa Go.Proofs.YtaiallgcobpkaaaW.PrintWords Go.Proofs.YtaiallgcobpkaaaW.PrintLast Go.Proofs.YtaiallgcobpkaaaW.PrintMore Go.Proofs.Ytaiallgcobpkaaa.Base
set_option linter.unusedVariables false
set_option linter.unusedSimpArgs false
theorem Isq.mono {P Q : Nat → Prop} {w : World} {g gl : Nat} {l : List Bool} {i : Nat} {mask : List Bool} {ones bent : Nat} (h : Isq P w g gl l i mask ones bent) (hq : ∀ k, P k → k < w.heap.size → Q k) (ha : ∀ k, Q k → k ≠ g ∧ k ≠ gl) : Isq Q w g gl l i mask ones bent := by
  obtain ⟨hne, hap, ⟨vm, hA, hS⟩, hrow, hidx⟩ := h
  refine ⟨hne, ha, ⟨vm, hA, ?_⟩, hrow, hidx⟩
  rcases hS with h | ⟨gm, off, c, cells, rfl, h1, h2, h3, h4, h5, h6⟩
  · exact Or.inl h
  · exact Or.inr ⟨gm, off, c, cells, rfl, h1, h2, h3, h4, h5, hq gm h6 (Array.getElem?_eq_some_iff.1 h3).1⟩
/-- The bits under way, the next one to come out first. -/
def Que (l : List Bool) (i : Nat) (u : List Bool) : Prop := u.length = l.length ∧ (l.length = 0 ∨ i < l.length) ∧ ∀ q, q < l.length → l.getD ((i + q) % l.length) false = u.getD q false
theorem Que.new (d : Nat) : Que (List.replicate d false) 0 (List.replicate d false) := by
  refine ⟨rfl, by rw [List.length_replicate]; omega, fun q hq => ?_⟩
  rw [List.length_replicate] at hq
  rw [List.length_replicate, Nat.zero_add, Nat.mod_eq_of_lt hq]
theorem Que.pass {l u : List Bool} {i : Nat} (h : Que l i u) (mask : List Bool) (ones : Nat) (on : Bool) :
    comes l i mask ones on = (u ++ [goes mask ones on]).headD false ∧ Que (l.set i (goes mask ones on)) (onto l i) ((u ++ [goes mask ones on]).drop 1) := by
  obtain ⟨hl, hi, hv⟩ := h
  generalize hx : goes mask ones on = x
  by_cases h0 : l.length = 0
  · obtain rfl : l = [] := List.eq_nil_of_length_eq_zero h0
    obtain rfl : u = [] := List.eq_nil_of_length_eq_zero (by simpa using hl)
    refine ⟨by simp [comes, hx], rfl, Or.inl rfl, fun q hq => absurd hq (Nat.not_lt_zero q)⟩
  · have hi' : i < l.length := by omega
    obtain ⟨a, t, rfl⟩ : ∃ a t, u = a :: t := by
      cases u with
      | nil => simp at hl; omega
      | cons a t => exact ⟨a, t, rfl⟩
    refine ⟨?_, ?_, ?_, fun q hq => ?_⟩
    · have := hv 0 (by omega)
      rw [Nat.add_zero, Nat.mod_eq_of_lt hi'] at this
      unfold comes
      rw [if_neg h0, this]
      rfl
    · simp at hl ⊢; omega
    · rw [List.length_set]
      refine Or.inr ?_
      unfold onto
      rw [if_neg h0]
      exact Nat.mod_lt _ (by omega)
    · rw [List.length_set] at hq ⊢
      unfold onto
      rw [if_neg h0, Nat.mod_add_mod]
      simp only [List.cons_append, List.drop_succ_cons, List.drop_zero]
      have htl : t.length + 1 = l.length := by simpa using hl
      by_cases hlast : q = l.length - 1
      · rw [show i + 1 + q = i + l.length from by omega, Nat.add_mod_right, Nat.mod_eq_of_lt hi']
        simp [List.getD_eq_getElem?_getD, hi', show t.length = q by omega]
      · have e2 := hv (q + 1) (by omega)
        rw [show i + (q + 1) = i + 1 + q from by omega] at e2
        have hne : ¬ i = (i + 1 + q) % l.length := by
          intro e
          by_cases hw : i + 1 + q < l.length
          · rw [Nat.mod_eq_of_lt hw] at e; omega
          · rw [Nat.mod_eq_sub_mod (by omega), Nat.mod_eq_of_lt (by omega)] at e; omega
        have e3 : (t ++ [x]).getD q false = t.getD q false := by
          simp [List.getD_eq_getElem?_getD, List.getElem?_append_left (show q < t.length by omega)]
        rw [e3]
        have e4 : (l.set i x).getD ((i + 1 + q) % l.length) false = l.getD ((i + 1 + q) % l.length) false := by
          simp only [List.getD_eq_getElem?_getD, List.getElem?_set, if_neg hne]
        rw [e4, e2]
        simp [List.getD_eq_getElem?_getD]
/-- Where masks' rows may lie. -/
def Fence (B g gl h hl k : Nat) : Prop := k < B ∧ k ≠ g ∧ k ≠ gl ∧ k ≠ h ∧ k ≠ hl
structure Two (B : Nat) (w : World) (g gl h hl : Nat) (m1 m2 u : List Bool) (b : Nat) : Prop where
  lt : g < B ∧ gl < B ∧ h < B ∧ hl < B
  ne : g ≠ h ∧ g ≠ hl ∧ gl ≠ h ∧ gl ≠ hl
  one : ∃ b1, b1 ≤ b ∧ Isq (Fence B g gl h hl) w g gl [] 0 m1 0 b1
  two : ∃ l i b2, b2 ≤ b ∧ Que l i u ∧ Isq (Fence B g gl h hl) w h hl l i m2 0 b2
theorem Two.only {Q : Nat → Prop} {B : Nat} {w w' : World} {g gl h hl : Nat} {m1 m2 u : List Bool} {b : Nat} (t : Two B w g gl h hl m1 m2 u b) (ho : Only Q w w') (hQ : ∀ k, k < B → ¬ Q k) : Two B w' g gl h hl m1 m2 u b := by
  obtain ⟨hlt, hne, ⟨b1, hb1, h1⟩, l, i, b2, hb2, hq, h2⟩ := t
  exact ⟨hlt, hne, ⟨b1, hb1, h1.only ho (hQ _ hlt.1) (hQ _ hlt.2.1) (fun k hk _ => hQ k hk.1)⟩, l, i, b2, hb2, hq, h2.only ho (hQ _ hlt.2.2.1) (hQ _ hlt.2.2.2) (fun k hk _ => hQ k hk.1)⟩
theorem Two.below {B B' : Nat} {w w' : World} {g gl h hl : Nat} {m1 m2 u : List Bool} {b : Nat} (t : Two B w g gl h hl m1 m2 u b) (hb : Below B' w w') (hB : B ≤ B') : Two B w' g gl h hl m1 m2 u b :=
  t.only (Q := fun k => B' ≤ k) ⟨hb.os, hb.tape, hb.output, hb.size, fun k hk hn => hb.block k (by omega)⟩ (fun k hk hn => by omega)
theorem goes_goes (m : List Bool) (x : Bool) : goes m 0 (goes m 0 x) = x := by
  unfold goes
  cases m.headD false <;> cases x <;> rfl
theorem two_a {B : Nat} {w : World} {g gl h hl : Nat} {m1 m2 u : List Bool} {b : Nat} (t : Two B w g gl h hl m1 m2 u b) (hb : b < 4611686018427387904) (x : Bool) :
    Calls Try.prog 11 #[.pointer (some ⟨g, 0, none⟩), .bool x] w fun e w' => e = .returned (.bool (goes m1 0 x)) ∧ Two B w' g gl h hl (m1.drop 1) m2 u (b + 1) ∧ Only (fun k => k = g ∨ k = gl) w w' := by
  obtain ⟨hlt, hne, ⟨b1, hb1, h1⟩, l, i, b2, hb2, hq, h2⟩ := t
  refine (passq h1 (by omega) (by decide) (by decide) x).mono ?_
  rintro e w' ⟨rfl, hI, ho⟩
  refine ⟨rfl, ⟨hlt, hne, ⟨_, ?_, hI⟩, l, i, b2, by omega, hq, h2.only ho (by omega) (by omega) (fun k hk _ hp => hp.elim hk.2.1 hk.2.2.1)⟩, ho⟩
  unfold bends
  simp
  split <;> omega
theorem two_b {B : Nat} {w : World} {g gl h hl : Nat} {m1 m2 u : List Bool} {b : Nat} (t : Two B w g gl h hl m1 m2 u b) (hb : b < 4611686018427387904) (hu : u.length < 4611686018427387904) (x : Bool) :
    Calls Try.prog 11 #[.pointer (some ⟨h, 0, none⟩), .bool x] w fun e w' => e = .returned (.bool ((u ++ [goes m2 0 x]).headD false)) ∧ Two B w' g gl h hl m1 (m2.drop 1) ((u ++ [goes m2 0 x]).drop 1) (b + 1) ∧ Only (fun k => k = h ∨ k = hl) w w' := by
  obtain ⟨hlt, hne, ⟨b1, hb1, h1⟩, l, i, b2, hb2, hq, h2⟩ := t
  have hq' := hq.pass m2 0 x
  have hql := hq.1
  refine (passq h2 (by omega) (by decide) (by omega) x).mono ?_
  rintro e w' ⟨rfl, hI, ho⟩
  refine ⟨by rw [hq'.1], ⟨hlt, hne, ⟨b1, by omega, h1.only ho (by omega) (by omega) (fun k hk _ hp => hp.elim hk.2.2.2.1 hk.2.2.2.2)⟩, _, _, _, ?_, hq'.2, hI⟩, ho⟩
  unfold bends
  simp
  split <;> omega
/-- A bit's way through both. -/
def Turn (B : Nat) (w : World) (g gl h hl : Nat) (s m : List Bool) (j : Nat) : Prop := Two B w g gl h hl (m.drop j) (m.drop j) ((s.drop j).take 5) (2 * j)
def Half (B : Nat) (w : World) (g gl h hl : Nat) (s m : List Bool) (j : Nat) (x y : Bool) : Prop := y = goes (m.drop j) 0 x ∧ Two B w g gl h hl (m.drop (j + 1)) (m.drop j) ((s.drop j).take 5) (2 * j + 1)
theorem turn_a {B : Nat} {w : World} {g gl h hl : Nat} {s m : List Bool} {j : Nat} (t : Turn B w g gl h hl s m j) (hj : j < 1000000) (x : Bool) :
    Calls Try.prog 11 #[.pointer (some ⟨g, 0, none⟩), .bool x] w fun e w' => ∃ y, e = .returned (.bool y) ∧ Half B w' g gl h hl s m j x y ∧ Only (fun k => k = g ∨ k = gl) w w' := by
  refine (two_a t (by omega) x).mono ?_
  rintro e w' ⟨rfl, hT, ho⟩
  refine ⟨_, rfl, ⟨rfl, ?_⟩, ho⟩
  rw [List.drop_drop] at hT
  exact hT
theorem turn_b {B : Nat} {w : World} {g gl h hl : Nat} {s m : List Bool} {j : Nat} {x y z : Bool} (t : Half B w g gl h hl s m j x y) (hj : j < 1000000) (hs : j + 5 < s.length) (hx : s.getD (j + 5) false = x) (hz : s.getD j false = z) :
    Calls Try.prog 11 #[.pointer (some ⟨h, 0, none⟩), .bool y] w fun e w' => e = .returned (.bool z) ∧ Turn B w' g gl h hl s m (j + 1) ∧ Only (fun k => k = h ∨ k = hl) w w' := by
  obtain ⟨rfl, t⟩ := t
  refine (two_b t (by omega) (by simp; omega) _).mono ?_
  rw [goes_goes]
  have e1 : (s.drop j).take 5 ++ [x] = (s.drop j).take 6 := by
    rw [List.take_succ_eq_append_getElem (i := 5) (by rw [List.length_drop]; omega)]
    congr 2
    rw [← hx, List.getD_eq_getElem?_getD, List.getElem?_eq_getElem hs, List.getElem_drop]
    rfl
  rw [e1]
  have e2 : ((s.drop j).take 6).headD false = z := by
    rw [← hz]
    have : s.drop j = s[j] :: s.drop (j + 1) := List.drop_eq_getElem_cons (by omega)
    rw [this, List.take_succ_cons, List.headD_cons, List.getD_eq_getElem?_getD, List.getElem?_eq_getElem (by omega)]
    rfl
  have e3 : ((s.drop j).take 6).drop 1 = (s.drop (j + 1)).take 5 := by
    rw [List.drop_take, List.drop_drop]
  rw [e2, e3, List.drop_drop]
  rintro e w' ⟨rfl, hT, ho⟩
  refine ⟨rfl, ?_, ho⟩
  unfold Turn
  rw [show 2 * (j + 1) = 2 * j + 1 + 1 from by omega]
  exact hT
theorem Turn.below {B B' : Nat} {w w' : World} {g gl h hl : Nat} {s m : List Bool} {j : Nat} (t : Turn B w g gl h hl s m j) (hb : Below B' w w') (hB : B ≤ B') : Turn B w' g gl h hl s m j := Two.below t hb hB
theorem new_bare0 (w : World) : Calls Try.prog 9 #[.int .i64 0] w fun e w' => ∃ g gl, e = .returned (.tuple #[.pointer (some ⟨g, 0, none⟩), .int .i64 0]) ∧ w.heap.size ≤ g ∧ w.heap.size ≤ gl ∧ Bare w' g gl 0 ∧ Below w.heap.size w w' := new_bare 0 (by decide) w
theorem new_bare5 (w : World) : Calls Try.prog 9 #[.int .i64 5] w fun e w' => ∃ g gl, e = .returned (.tuple #[.pointer (some ⟨g, 0, none⟩), .int .i64 0]) ∧ w.heap.size ≤ g ∧ w.heap.size ≤ gl ∧ Bare w' g gl 5 ∧ Below w.heap.size w w' := new_bare 5 (by decide) w
/-- Two new wires. -/
def Bares (w : World) (g gl h hl d : Nat) : Prop := Bare w g gl 0 ∧ Bare w h hl d ∧ g ≠ h ∧ g ≠ hl ∧ gl ≠ h ∧ gl ≠ hl
theorem Bares.below {w w' : World} {g gl h hl d : Nat} (t : Bares w g gl h hl d) (hb : Below w.heap.size w w') : Bares w' g gl h hl d := ⟨t.1.below hb, t.2.1.below hb, t.2.2⟩
theorem Bares.mk2 {w w' : World} {g gl h hl d : Nat} (a : Bare w g gl 0) (b : Bare w' h hl d) (hb : Below w.heap.size w w') (h1 : w.heap.size ≤ h) (h2 : w.heap.size ≤ hl) : Bares w' g gl h hl d := by
  have := a.lt
  exact ⟨a.below hb, b, by omega, by omega, by omega, by omega⟩
def Bent1 (w : World) (g gl h hl d : Nat) (m : List Bool) : Prop := (∃ P : Nat → Prop, (∀ k, P k → k ≠ h ∧ k ≠ hl ∧ k < w.heap.size) ∧ Isq P w g gl [] 0 m 0 0) ∧ Bare w h hl d ∧ g ≠ h ∧ g ≠ hl ∧ gl ≠ h ∧ gl ≠ hl
theorem bend_a {w : World} {g gl h hl d : Nat} (t : Bares w g gl h hl d) (m : List Bool) (A : Option Addr) (c : Nat) (hr : ReadsOf Value.bool false w A m.length m) (hm : m.length ≤ 65536) :
    Calls Try.prog 14 #[.pointer (some ⟨g, 0, none⟩), .slice A m.length c] w fun e w' => e = .returned (.int .i64 0) ∧ Bent1 w' g gl h hl d m ∧ Only (fun k => k = g ∨ w.heap.size ≤ k) w w' := by
  obtain ⟨ha, hb, n1, n2, n3, n4⟩ := t
  have la := ha.lt
  have lb := hb.lt
  have hI : Isq (fun k => w.heap.size ≤ k) w g gl [] 0 [] 0 0 := ha.isq _ (fun k hk => by omega)
  refine (bendq hI m A c hr (by simpa using hm) (fun k hk => hk)).mono ?_
  rintro e w' ⟨rfl, hI', ho⟩
  exact ⟨rfl, ⟨⟨_, fun k hk => ⟨by have := hk.1; omega, by have := hk.1; omega, hk.2⟩, hI'.tight⟩, hb.only ho (by omega) (by omega), n1, n2, n3, n4⟩, ho⟩
theorem bend_b {w : World} {g gl h hl d : Nat} {m : List Bool} (t : Bent1 w g gl h hl d m) (A : Option Addr) (c : Nat) (hr : ReadsOf Value.bool false w A m.length m) (hm : m.length ≤ 65536) :
    Calls Try.prog 14 #[.pointer (some ⟨h, 0, none⟩), .slice A m.length c] w fun e w' => e = .returned (.int .i64 0) ∧ Two w'.heap.size w' g gl h hl m m (List.replicate d false) 0 ∧ Only (fun k => k = h ∨ w.heap.size ≤ k) w w' := by
  obtain ⟨⟨P, hP, ha⟩, hb, n1, n2, n3, n4⟩ := t
  have la := ha.lt
  have lb := hb.lt
  have hI : Isq (fun k => w.heap.size ≤ k) w h hl (List.replicate d false) 0 [] 0 0 := hb.isq _ (fun k hk => by omega)
  refine (bendq hI m A c hr (by simpa using hm) (fun k hk => hk)).mono ?_
  rintro e w' ⟨rfl, hI', ho⟩
  have hsz := ho.size
  refine ⟨rfl, ⟨⟨by omega, by omega, by omega, by omega⟩, ⟨n1, n2, n3, n4⟩, ⟨0, Nat.le_refl _, ?_⟩, _, _, 0, Nat.le_refl _, Que.new d, ?_⟩, ho⟩
  · refine (ha.only ho (by omega) (by omega) (fun k hk hlt => ?_)).mono (fun k hk hlt => ?_) (fun k hk => ⟨hk.2.1, hk.2.2.1⟩)
    · have := hP k hk; omega
    · have h1 := hP k hk
      have h2 := ha.apart k hk
      exact ⟨hlt, h2.1, h2.2, h1.1, h1.2.1⟩
  · refine hI'.mono (fun k hk hlt => ?_) (fun k hk => ⟨hk.2.2.2.1, hk.2.2.2.2⟩)
    exact ⟨hlt, by omega, by omega, by omega, by omega⟩
end Go.Proofs.Ytaiallgcobpkaaa.Wire
