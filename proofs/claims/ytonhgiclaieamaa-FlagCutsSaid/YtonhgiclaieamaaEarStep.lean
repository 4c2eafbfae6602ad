/- What (*flag.Ear).Bit and Bits come to, as a machine over lists of bits. No condition. Written for this claim. -/
import Derived.Test.YtonhgiclaieamaaEarBit
namespace Go.Proofs.Ytonhgiclaieamaa.Ear
open Go Go.RowKit Go.Proofs.Ytonhgiclaieamaa Go.Proofs.YtonhgiclaieamaaW.PrintWords Go.Proofs.YtonhgiclaieamaaW.PrintLast Go.Proofs.YtonhgiclaieamaaW.PrintMore Go.Proofs.Ytonhgiclaieamaa.Base Go.Proofs.Ytonhgiclaieamaa.Rowq
set_option linter.unusedVariables false
set_option linter.unusedSimpArgs false
structure St where
  inb : List Bool
  ones : Nat
  found : Bool
  n : Nat
def flagF (J : List Bool → Option (List Int)) (t : List Bool) : Option (Int × List Int) :=
  if t.length ≤ 8 then none else match J (t.take (t.length - 8)) with
    | some p => some (0, p)
    | none => some (1, [])
def bitF (J : List Bool → Option (List Int)) (s : St) (on : Bool) : St × Option (Int × List Int) :=
  if s.found = true then
    if on = true then (if 7 ≤ s.ones + 1 then ⟨[], s.ones + 1, false, 0⟩ else ⟨s.inb ++ [true], s.ones + 1, true, s.n⟩, none)
    else if s.ones = 6 then (⟨[], 0, true, s.n⟩, flagF J (s.inb ++ [false]))
    else (if 2687 < s.inb.length + 1 then ⟨[], 0, false, 0⟩ else ⟨s.inb ++ [false], 0, true, s.n⟩, none)
  else
    if on = true then (if s.n + 1 = 128 then (⟨s.inb, s.ones + 1, false, 0⟩, some (2, [])) else (⟨s.inb, s.ones + 1, false, s.n + 1⟩, none))
    else if s.ones = 6 then (⟨[], 0, true, 0⟩, none)
    else if s.n + 1 = 128 then (⟨s.inb, 0, false, 0⟩, some (2, [])) else (⟨s.inb, 0, false, s.n + 1⟩, none)
def runF (J : List Bool → Option (List Int)) (s : St) (t : List Bool) : St × List (Int × List Int) :=
  t.foldl (fun a on => ((bitF J a.1 on).1, a.2 ++ (bitF J a.1 on).2.toList)) (s, [])
theorem runF_snoc (J : List Bool → Option (List Int)) (s : St) (t : List Bool) (b : Bool) : runF J s (t ++ [b]) = ((bitF J (runF J s t).1 b).1, (runF J s t).2 ++ (bitF J (runF J s t).1 b).2.toList) := by
  simp [runF, List.foldl_append]
structure Inv (s : St) : Prop where
  n : s.n < 128
  found : s.found = true → s.ones ≤ 6 ∧ s.inb.length ≤ 2687 + s.ones
  lost : s.found = false → s.inb = []
theorem Inv.step {J : List Bool → Option (List Int)} {s : St} (h : Inv s) (on : Bool) : Inv (bitF J s on).1 := by
  obtain ⟨h1, h2, h3⟩ := h
  unfold bitF
  cases hf : s.found with
  | true =>
    have h2 := h2 hf
    rw [if_pos rfl]
    cases on with
    | true =>
      rw [if_pos rfl]
      by_cases h7 : 7 ≤ s.ones + 1
      · rw [if_pos h7]
        exact ⟨by show 0 < 128; omega, fun h => absurd h (by simp), fun _ => rfl⟩
      · rw [if_neg h7]
        exact ⟨h1, fun _ => ⟨by show s.ones + 1 ≤ 6; omega, by show (s.inb ++ [true]).length ≤ 2687 + (s.ones + 1); rw [List.length_append, List.length_singleton]; omega⟩, fun h => absurd h (by simp)⟩
    | false =>
      rw [if_neg (by simp)]
      by_cases h6 : s.ones = 6
      · rw [if_pos h6]
        exact ⟨h1, fun _ => ⟨by show 0 ≤ 6; omega, by show 0 ≤ 2687 + 0; omega⟩, fun h => absurd h (by simp)⟩
      · rw [if_neg h6]
        by_cases hl : 2687 < s.inb.length + 1
        · rw [if_pos hl]
          exact ⟨by show 0 < 128; omega, fun h => absurd h (by simp), fun _ => rfl⟩
        · rw [if_neg hl]
          exact ⟨h1, fun _ => ⟨by show 0 ≤ 6; omega, by show (s.inb ++ [false]).length ≤ 2687 + 0; rw [List.length_append, List.length_singleton]; omega⟩, fun h => absurd h (by simp)⟩
  | false =>
    have h3 := h3 hf
    rw [if_neg (by simp)]
    cases on with
    | true =>
      rw [if_pos rfl]
      by_cases hn : s.n + 1 = 128
      · rw [if_pos hn]
        exact ⟨by show 0 < 128; omega, fun h => absurd h (by simp), fun _ => h3⟩
      · rw [if_neg hn]
        exact ⟨by show s.n + 1 < 128; omega, fun h => absurd h (by simp), fun _ => h3⟩
    | false =>
      rw [if_neg (by simp)]
      by_cases h6 : s.ones = 6
      · rw [if_pos h6]
        exact ⟨by show 0 < 128; omega, fun _ => ⟨by show 0 ≤ 6; omega, by show 0 ≤ 2687 + 0; omega⟩, fun h => absurd h (by simp)⟩
      · rw [if_neg h6]
        by_cases hn : s.n + 1 = 128
        · rw [if_pos hn]
          exact ⟨by show 0 < 128; omega, fun h => absurd h (by simp), fun _ => h3⟩
        · rw [if_neg hn]
          exact ⟨by show s.n + 1 < 128; omega, fun h => absurd h (by simp), fun _ => h3⟩
theorem ones_step (J : List Bool → Option (List Int)) (s : St) (on : Bool) : (bitF J s on).1.ones ≤ s.ones + 1 := by
  unfold bitF
  repeat' split
  all_goals first | exact Nat.le_refl _ | exact Nat.zero_le _
theorem Inv.upto {J : List Bool → Option (List Int)} {s : St} (h : Inv s) (t : List Bool) : ∀ m, m ≤ t.length → Inv (runF J s (t.take m)).1 ∧ (runF J s (t.take m)).1.ones ≤ s.ones + m ∧ (runF J s (t.take m)).2.length ≤ m := by
  intro m
  induction m with
  | zero => exact fun _ => ⟨h, Nat.le_refl _, Nat.le_refl _⟩
  | succ m ih =>
    intro hm
    have ih := ih (by omega)
    rw [List.take_succ_eq_append_getElem (by omega), runF_snoc]
    have h1 := ones_step J (runF J s (t.take m)).1 (t[m])
    refine ⟨ih.1.step _, ?_, ?_⟩
    · have := ih.2.1
      exact Nat.le_trans h1 (by omega)
    · show ((runF J s (t.take m)).2 ++ _).length ≤ _
      rw [List.length_append]
      have := ih.2.2
      have : (bitF J (runF J s (t.take m)).1 t[m]).2.toList.length ≤ 1 := by cases (bitF J (runF J s (t.take m)).1 t[m]).2 <;> simp
      omega
theorem Inv.run {J : List Bool → Option (List Int)} {s : St} (h : Inv s) (t : List Bool) : Inv (runF J s t).1 ∧ (runF J s t).1.ones ≤ s.ones + t.length ∧ (runF J s t).2.length ≤ t.length := by
  have := Inv.upto (J := J) h t t.length (Nat.le_refl _)
  rwa [List.take_length] at this
/-- The ear in memory: E are blocks that it leaves alone. -/
structure Is (B : Nat) (E : Nat → Prop) (w : World) (g : Nat) (s : St) : Prop where
  low : B ≤ g ∧ B ≤ w.heap.size
  ex : ∃ (P : Nat → Prop) (vin : Value), (∀ k, P k → B ≤ k ∧ k < w.heap.size ∧ k ≠ g) ∧ (∀ k, E k → ¬ P k ∧ k ≠ g ∧ k < w.heap.size) ∧ At w g vin s.ones s.found s.n ∧ Spare w P vin s.inb
theorem Is.elt {B : Nat} {E : Nat → Prop} {w : World} {g : Nat} {s : St} (t : Is B E w g s) : ∀ k, E k → k < w.heap.size := by
  obtain ⟨h0, P, vin, hP, hE, hA, hS⟩ := t
  exact fun k hk => (hE k hk).2.2
theorem Is.glt {B : Nat} {E : Nat → Prop} {w : World} {g : Nat} {s : St} (t : Is B E w g s) : g < w.heap.size := by
  obtain ⟨h0, P, vin, hP, hE, hA, hS⟩ := t
  exact hA.lt
/-- New blocks, and changes within E. -/
theorem Is.grown {B : Nat} {E E' : Nat → Prop} {w w2 : World} {g : Nat} {s : St} (t : Is B E w g s) {Q : Nat → Prop} (ho : Only Q w w2) (hQ : ∀ k, Q k → E k) (hE' : ∀ k, E' k → E k ∨ (w.heap.size ≤ k ∧ k < w2.heap.size)) : Is B E' w2 g s := by
  obtain ⟨h0, P, vin, hP, hE, hA, hS⟩ := t
  have hsz := ho.size
  have hg := hA.lt
  refine ⟨⟨h0.1, by omega⟩, P, vin, fun k hk => ⟨(hP k hk).1, by have := hP k hk; omega, (hP k hk).2.2⟩, fun k hk => ?_, hA.only ho (fun hq => (hE g (hQ g hq)).2.1 rfl), hS.only ho (fun k hk _ hq => (hE k (hQ k hq)).1 hk)⟩
  rcases hE' k hk with h | h
  · have := hE k h
    exact ⟨this.1, this.2.1, by omega⟩
  · exact ⟨fun hp => by have := hP k hp; omega, by omega, h.2⟩
theorem Is.below {B : Nat} {E E' : Nat → Prop} {w w2 : World} {g : Nat} {s : St} (t : Is B E w g s) (hb : Below w.heap.size w w2) (hE' : ∀ k, E' k → E k ∨ (w.heap.size ≤ k ∧ k < w2.heap.size)) : Is B E' w2 g s :=
  t.grown (Q := fun _ => False) ⟨hb.os, hb.tape, hb.output, hb.size, fun k hk _ => hb.block k hk⟩ (fun _ h => h.elim) hE'
def kindO : Option (Int × List Int) → Int
  | some h => h.1
  | none => 0
def octO : Option (Int × List Int) → List Int
  | some h => h.2
  | none => []
structure BitPost (B : Nat) (E : Nat → Prop) (w : World) (g : Nat) (s' : St) (o : Option (Int × List Int)) (e : Ending) (w' : World) : Prop where
  ret : ∃ v, e = .returned (.tuple #[.agg #[.int .u8 (kindO o), v], .bool o.isSome]) ∧ Kd.R (Kd.int .u8) 5 w' w.heap.size (fun k => w.heap.size ≤ k ∧ k < w'.heap.size) v (octO o)
  is : Is B (fun k => E k ∨ (o.isSome = true ∧ w.heap.size ≤ k ∧ k < w'.heap.size)) w' g s'
  below : Below B w w'
  kept : KeptE E w w'
theorem post_plain {B : Nat} {E : Nat → Prop} {w w' : World} {g : Nat} {s : St} {P : Nat → Prop} {vin vin2 : Value} {o : Option (Int × List Int)} {s' : St} {e : Ending} (h0 : B ≤ g ∧ B ≤ w.heap.size) (hP : ∀ k, P k → B ≤ k ∧ k < w.heap.size ∧ k ≠ g) (hE : ∀ k, E k → ¬ P k ∧ k ≠ g ∧ k < w.heap.size) {v : Value}
    (he : e = .returned (.tuple #[.agg #[.int .u8 (kindO o), v], .bool o.isSome])) (hR : Kd.R (Kd.int .u8) 5 w' w.heap.size (fun k => w.heap.size ≤ k ∧ k < w'.heap.size) v (octO o)) (hA : At w' g vin2 s'.ones s'.found s'.n) {P2 : Nat → Prop} (hP2 : ∀ k, P2 k → P k ∨ (w.heap.size ≤ k ∧ o = none)) (hS : Spare w' P2 vin2 s'.inb) (ho : Only (fun k => k = g ∨ P k) w w') (hg : g < w.heap.size) :
    BitPost B E w g s' o e w' := by
  have hsz := ho.size
  refine ⟨⟨v, he, hR⟩, ⟨⟨h0.1, by omega⟩, fun k => P2 k ∧ k < w'.heap.size, vin2, fun k hk => ?_, fun k hk => ?_, hA, hS.mono (fun k hk hlt => ⟨hk, hlt⟩)⟩, ho.below (fun k hk => hk.elim (fun e => e ▸ h0.1) (fun hk => (hP k hk).1)) (Below.refl _ _) h0.2, fun k hk => ho.block k (hE k hk).2.2 (fun hp => hp.elim (hE k hk).2.1 (hE k hk).1)⟩
  · rcases hP2 k hk.1 with h | h
    · have := hP k h
      exact ⟨this.1, hk.2, this.2.2⟩
    · exact ⟨by omega, hk.2, by omega⟩
  · rcases hk with hk | ⟨hs, h1, h2⟩
    · have := hE k hk
      refine ⟨fun hp => ?_, this.2.1, by omega⟩
      rcases hP2 k hp.1 with h | h
      · exact this.1 h
      · omega
    · refine ⟨fun hp => ?_, by omega, h2⟩
      rcases hP2 k hp.1 with h | h
      · have := hP k h; omega
      · rw [h.2] at hs; simp at hs
theorem bit_is {J : List Bool → Option (List Int)} (HJ : JudgeOk J) {B : Nat} {E : Nat → Prop} {w : World} {g : Nat} {s : St} (t : Is B E w g s) (hI : Inv s) (ho : s.ones < 1000000000) (on : Bool) :
    Calls Try.prog 27 #[.pointer (some ⟨g, 0, none⟩), .bool on] w (BitPost B E w g (bitF J s on).1 (bitF J s on).2) := by
  obtain ⟨h0, P, vin, hP, hE, hA, hS⟩ := t
  obtain ⟨inb, ones, found, n⟩ := s
  have hg := hA.lt
  have hn : n < 128 := hI.n
  have nilR : ∀ w' : World, Kd.R (Kd.int .u8) 5 w' w.heap.size (fun k => w.heap.size ≤ k ∧ k < w'.heap.size) (.slice none 0 0) [] := fun w' => Kd.R_nil _ _ _ _ _
  have sub : ∀ {w' : World}, Only (fun k => k = g) w w' → Only (fun k => k = g ∨ P k) w w' := fun h => h.mono (fun k hk => Or.inl hk)
  have gone : ∀ w' : World, Spare w' (fun _ => False) (.slice none 0 0) [] := fun w' => Or.inl ⟨rfl, rfl⟩
  cases found with
  | false =>
    have hl : inb = [] := hI.lost rfl
    have keep : ∀ {w' : World}, Only (fun k => k = g) w w' → Spare w' P vin inb := fun h => hS.only h (fun k hk _ e => (hP k hk).2.2 e)
    cases on with
    | true =>
      by_cases h1 : n + 1 = 128
      · refine (bit_count g vin vin ones n ((ones + 1 : Nat) : Int) 0 2 false true true w hA (fun W hW => count_on_hit g vin ones n W hW ho h1)).mono ?_
        rintro e w' ⟨he, hA', ho'⟩
        have eb : bitF J ⟨inb, ones, false, n⟩ true = (⟨inb, ones + 1, false, 0⟩, some (2, [])) := by simp [bitF, h1]
        rw [eb]
        exact post_plain (s := ⟨inb, ones, false, n⟩) (vin := vin) (P2 := P) h0 hP hE he (nilR w') hA' (fun k hk => Or.inl hk) (keep ho') (sub ho') hg
      · refine (bit_count g vin vin ones n ((ones + 1 : Nat) : Int) ((n + 1 : Nat) : Int) 0 false false true w hA (fun W hW => count_on g vin ones n W hW ho (by omega))).mono ?_
        rintro e w' ⟨he, hA', ho'⟩
        have eb : bitF J ⟨inb, ones, false, n⟩ true = (⟨inb, ones + 1, false, n + 1⟩, none) := by simp [bitF, h1]
        rw [eb]
        exact post_plain (s := ⟨inb, ones, false, n⟩) (vin := vin) (P2 := P) h0 hP hE he (nilR w') hA' (fun k hk => Or.inl hk) (keep ho') (sub ho') hg
    | false =>
      by_cases h6 : ones = 6
      · refine (bit_count g vin (.slice none 0 0) ones n 0 0 0 true false false w hA (fun W hW => count_flag g vin ones n W hW ho h6)).mono ?_
        rintro e w' ⟨he, hA', ho'⟩
        have eb : bitF J ⟨inb, ones, false, n⟩ false = (⟨[], 0, true, 0⟩, none) := by simp [bitF, h6]
        rw [eb]
        exact post_plain (s := ⟨inb, ones, false, n⟩) (vin := vin) (P2 := fun _ => False) h0 hP hE he (nilR w') hA' (fun k hk => hk.elim) (gone w') (sub ho') hg
      · by_cases h1 : n + 1 = 128
        · refine (bit_count g vin vin ones n 0 0 2 false true false w hA (fun W hW => count_off_hit g vin ones n W hW ho h6 h1)).mono ?_
          rintro e w' ⟨he, hA', ho'⟩
          have eb : bitF J ⟨inb, ones, false, n⟩ false = (⟨inb, 0, false, 0⟩, some (2, [])) := by simp [bitF, h6, h1]
          rw [eb]
          exact post_plain (s := ⟨inb, ones, false, n⟩) (vin := vin) (P2 := P) h0 hP hE he (nilR w') hA' (fun k hk => Or.inl hk) (keep ho') (sub ho') hg
        · refine (bit_count g vin vin ones n 0 ((n + 1 : Nat) : Int) 0 false false false w hA (fun W hW => count_off g vin ones n W hW ho h6 (by omega))).mono ?_
          rintro e w' ⟨he, hA', ho'⟩
          have eb : bitF J ⟨inb, ones, false, n⟩ false = (⟨inb, 0, false, n + 1⟩, none) := by simp [bitF, h6, h1]
          rw [eb]
          exact post_plain (s := ⟨inb, ones, false, n⟩) (vin := vin) (P2 := P) h0 hP hE he (nilR w') hA' (fun k hk => Or.inl hk) (keep ho') (sub ho') hg
  | true =>
    have hf := hI.found rfl
    have hf1 : ones ≤ 6 := hf.1
    have hf2 : inb.length ≤ 2687 + ones := hf.2
    obtain ⟨A, c, rfl, _⟩ := hS.reads
    have hP' : ∀ k, P k → k ≠ g ∧ k < w.heap.size := fun k hk => ⟨(hP k hk).2.2, (hP k hk).2.1⟩
    cases on with
    | true =>
      by_cases h7 : 7 ≤ ones + 1
      · refine (bit_lost HJ g inb.length c A inb ones n P w hA rfl (by omega) hP' hS h7 hf1).mono ?_
        rintro e w' ⟨he, hA', ho'⟩
        have eb : bitF J ⟨inb, ones, true, n⟩ true = (⟨[], ones + 1, false, 0⟩, none) := by simp [bitF, h7]
        rw [eb]
        exact post_plain (s := ⟨inb, ones, true, n⟩) (vin := .slice none 0 0) (P2 := fun _ => False) h0 hP hE he (nilR w') hA' (fun k hk => hk.elim) (gone w') ho' hg
      · refine (bit_on HJ g inb.length c A inb ones n P w hA rfl (by omega) hP' hS (by omega)).mono ?_
        rintro e w' ⟨he, A1, c1, hA', hS', ho'⟩
        have eb : bitF J ⟨inb, ones, true, n⟩ true = (⟨inb ++ [true], ones + 1, true, n⟩, none) := by simp [bitF, h7]
        rw [eb]
        exact post_plain (s := ⟨inb, ones, true, n⟩) (vin := .slice none 0 0) (P2 := fun k => P k ∨ w.heap.size + 2 ≤ k) h0 hP hE he (nilR w') hA' (fun k hk => hk.elim Or.inl (fun h => Or.inr ⟨by omega, rfl⟩)) hS' ho' hg
    | false =>
      by_cases h6 : ones = 6
      · by_cases h8 : inb.length + 1 ≤ 8
        · refine (bit_flag_short HJ g inb.length c A inb ones n P w hA rfl (by omega) hP' hS h6 h8).mono ?_
          rintro e w' ⟨he, hA', ho'⟩
          have eb : bitF J ⟨inb, ones, true, n⟩ false = (⟨[], 0, true, n⟩, none) := by simp [bitF, h6, flagF, h8]
          rw [eb]
          exact post_plain (s := ⟨inb, ones, true, n⟩) (vin := .slice none 0 0) (P2 := fun _ => False) h0 hP hE he (nilR w') hA' (fun k hk => hk.elim) (gone w') ho' hg
        · cases hj : J ((inb ++ [false]).take (inb.length + 1 - 8)) with
          | none =>
            refine (bit_flag_wrong HJ g inb.length c A inb ones n P w hA rfl (by omega) hP' hS h6 (by omega) hj).mono ?_
            rintro e w' ⟨he, hA', ho'⟩
            have eb : bitF J ⟨inb, ones, true, n⟩ false = (⟨[], 0, true, n⟩, some (1, [])) := by
              simp only [bitF, if_true, h6]
              rw [if_neg (by simp)]
              simp only [flagF, List.length_append, List.length_singleton, if_neg h8, hj]
            rw [eb]
            exact post_plain (s := ⟨inb, ones, true, n⟩) (vin := .slice none 0 0) (P2 := fun _ => False) h0 hP hE he (nilR w') hA' (fun k hk => hk.elim) (gone w') ho' hg
          | some p =>
            refine (bit_flag_right HJ g inb.length c A inb ones n P w hA rfl (by omega) hP' hS h6 (by omega) p hj).mono ?_
            rintro e w' ⟨v, he, hR, hA', ho'⟩
            have eb : bitF J ⟨inb, ones, true, n⟩ false = (⟨[], 0, true, n⟩, some (0, p)) := by
              simp only [bitF, if_true, h6]
              rw [if_neg (by simp)]
              simp only [flagF, List.length_append, List.length_singleton, if_neg h8, hj]
            rw [eb]
            exact post_plain (s := ⟨inb, ones, true, n⟩) (vin := .slice none 0 0) (P2 := fun _ => False) h0 hP hE he hR hA' (fun k hk => hk.elim) (gone w') ho' hg
      · by_cases hl : 2687 < inb.length + 1
        · refine (bit_long HJ g inb.length c A inb ones n P w hA rfl (by omega) hP' hS h6 hf1 hl).mono ?_
          rintro e w' ⟨he, hA', ho'⟩
          have eb : bitF J ⟨inb, ones, true, n⟩ false = (⟨[], 0, false, 0⟩, none) := by simp [bitF, h6, hl]
          rw [eb]
          exact post_plain (s := ⟨inb, ones, true, n⟩) (vin := .slice none 0 0) (P2 := fun _ => False) h0 hP hE he (nilR w') hA' (fun k hk => hk.elim) (gone w') ho' hg
        · refine (bit_off HJ g inb.length c A inb ones n P w hA rfl (by omega) hP' hS h6 hf1 (by omega)).mono ?_
          rintro e w' ⟨he, A1, c1, hA', hS', ho'⟩
          have eb : bitF J ⟨inb, ones, true, n⟩ false = (⟨inb ++ [false], 0, true, n⟩, none) := by simp [bitF, h6, hl]
          rw [eb]
          exact post_plain (s := ⟨inb, ones, true, n⟩) (vin := .slice none 0 0) (P2 := fun k => P k ∨ w.heap.size + 2 ≤ k) h0 hP hE he (nilR w') hA' (fun k hk => hk.elim Or.inl (fun h => Or.inr ⟨by omega, rfl⟩)) hS' ho' hg
end Go.Proofs.Ytonhgiclaieamaa.Ear
