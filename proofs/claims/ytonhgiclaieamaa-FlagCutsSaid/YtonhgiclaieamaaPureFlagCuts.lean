/- The last step of the law FlagCuts: what the walk needs of the functions that it calls, and where in the bits the document's Hear tells what the ear, as a machine, hears. No condition. -/
import Derived.Test.YtonhgiclaieamaaMFlagCutsx
import Derived.Test.YtonhgiclaieamaaBase
import Derived.Laws.BitsAllLaws
namespace Go.Proofs.Ytonhgiclaieamaa.Pure
open Go Go.RowKit Go.Proofs.Ytonhgiclaieamaa.MFlagCuts Go.Proofs.YtonhgiclaieamaaW.PrintWords Go.Proofs.YtonhgiclaieamaaW.PrintLast Go.Proofs.YtonhgiclaieamaaW.PrintMore Go.Proofs.Ytonhgiclaieamaa.Base

theorem wf8 {x : Int} (h : (Lit.int .u8 x).wf = true) : 0 ≤ x ∧ x < 256 := by
  simp [Lit.wf, IntKind.min, IntKind.max, IntKind.signed, IntKind.bits] at h; omega
theorem wf8s {l : List Int} (h : ∀ x ∈ l, (Lit.int .u8 x).wf = true) : ∀ x ∈ l, 0 ≤ x ∧ x < 256 := fun x hx => wf8 (h x hx)

theorem bit_div (b : Int) (j : Nat) (h0 : 0 ≤ b) (h1 : b < 256) (hj : j < 8) :
    (shl .u8 1 (j : Int)) = 2 ^ j ∧ ((Int.tmod (IntKind.u8.wrap (Int.tdiv b (shl .u8 1 (j : Int)))) 2) == 1) = bitN b j := by
  have hp : (2 : Int) ^ j ≤ 128 := by
    have : (2 : Nat) ^ j ≤ 2 ^ 7 := Nat.pow_le_pow_right (by decide) (by omega)
    exact_mod_cast this
  have hp0 : (0 : Int) < 2 ^ j := Int.pow_pos (by decide)
  have es : shl .u8 1 (j : Int) = 2 ^ j := by
    unfold shl
    rw [IntKind.wrap_u8]
    have : min ((j : Int).toNat) IntKind.u8.bits = j := by show min ((j : Int).toNat) 8 = j; omega
    rw [this, Int.one_mul]; omega
  refine ⟨es, ?_⟩
  rw [es, Int.tdiv_eq_ediv_of_nonneg h0]
  have h2 : 0 ≤ b / 2 ^ j := Int.ediv_nonneg h0 (by omega)
  have h3 : b / 2 ^ j < 256 := by
    have := Int.ediv_le_self (2 ^ j) h0
    omega
  rw [IntKind.wrap_u8, Int.emod_eq_of_lt h2 h3, Int.tmod_eq_emod_of_nonneg h2]
  rfl
theorem RefBits_ev (l : List Int) (hl : l.length ≤ 10000000000000) (hb : ∀ x ∈ l, 0 ≤ x ∧ x < 256) : Ev (fun k => signalmanref01_Bits.f k l) (bitsOf l) := by
  have hL : (bitsOf l).length = 8 * l.length := bitsOf_length l
  refine count (8 * l.length) (fun i k => signalmanref01_Bits.l0 k l ((bitsOf l).take i) (i : Int)) (bitsOf l) ?_ ?_ |> fun z => Ev.to z (by funext k; simp [signalmanref01_Bits.f]) rfl
  · intro i hi hn
    have hq : i / 8 < l.length := by omega
    have hx := hb l[i / 8] (List.getElem_mem hq)
    have hi' : i < (bitsOf l).length := by omega
    have et : (bitsOf l).take (i + 1) = (bitsOf l).take i ++ [bitN l[i / 8] (i % 8)] := by
      rw [List.take_succ_eq_append_getElem hi', bitsOf_get l i hi' hq]
    have ed : wrap64 (Int.tdiv (i : Int) 8) = ((i / 8 : Nat) : Int) := by
      rw [Int.tdiv_eq_ediv_of_nonneg (by omega), w64 _ (by omega) (by omega)]; omega
    have em : Int.tmod (i : Int) 8 = ((i % 8 : Nat) : Int) := by
      rw [Int.tmod_eq_emod_of_nonneg (by omega)]; omega
    have hbit := bit_div l[i / 8] (i % 8) hx.1 hx.2 (by omega)
    have hp0 : (0 : Int) < 2 ^ (i % 8) := Int.pow_pos (by decide)
    refine Ev.step (fun k => ?_) hn
    simp only [signalmanref01_Bits.l0]
    rw [w64 (8 * (l.length : Int)) (by omega) (by omega), ed, em, if_pos (by omega), if_pos (by omega), if_pos (by omega), if_pos (by omega), if_neg (by rw [hbit.1]; omega),
      if_pos (by rw [List.length_take]; omega), rd_nat l (i / 8) hq, hbit.2, w64s i (by omega), et]
  · refine Ev.step (fun k => ?_) (Ev.now _)
    simp only [signalmanref01_Bits.l0]
    rw [w64 (8 * (l.length : Int)) (by omega) (by omega), if_neg (by omega), List.take_of_length_le (by omega)]

/-- Bits with a nought behind each five ones; 'n' ones stand ahead. -/
def stuffed : Nat → List Bool → List Bool
  | _, [] => []
  | n, b :: t => if b then (if n + 1 = 5 then true :: false :: stuffed 0 t else true :: stuffed (n + 1) t) else false :: stuffed 0 t
/-- And back. -/
def bared : Nat → List Bool → List Bool × Int
  | n, [] => if n = 5 then ([], 5) else ([], 0)
  | n, b :: t => if n = 5 then (if b then ([], 4) else bared 0 t)
      else (if (bared (if b then n + 1 else 0) t).2 = 0 then (b :: (bared (if b then n + 1 else 0) t).1, 0) else ([], (bared (if b then n + 1 else 0) t).2))
theorem bared_none (t : List Bool) : ∀ n, (bared n t).2 ≠ 0 → (bared n t).1 = [] := by
  induction t with
  | nil => intro n h; simp only [bared] at *; split <;> rfl
  | cons b t ih =>
    intro n h
    simp only [bared] at *
    by_cases h5 : n = 5
    · rw [if_pos h5] at *
      cases b
      · exact ih 0 (by simpa using h)
      · rfl
    · rw [if_neg h5] at *
      generalize bared (if b = true then n + 1 else 0) t = r at *
      split
      · rename_i h0; rw [if_pos h0] at h; exact absurd rfl h
      · rfl
theorem stuffed_lo (t : List Bool) : ∀ n, t.length ≤ (stuffed n t).length := by
  induction t with
  | nil => intro n; simp [stuffed]
  | cons b t ih =>
    intro n
    have h0 := ih 0
    have h1 := ih (n + 1)
    simp only [stuffed]
    split
    · split <;> simp only [List.length_cons] <;> omega
    · simp only [List.length_cons]; omega
theorem stuffed_hi (t : List Bool) : ∀ n, n < 5 → 5 * (stuffed n t).length ≤ 6 * t.length + n := by
  induction t with
  | nil => intro n _; simp [stuffed]
  | cons b t ih =>
    intro n hn
    have h0 := ih 0 (by omega)
    simp only [stuffed]
    split
    · split
      · simp only [List.length_cons]; omega
      · have h1 := ih (n + 1) (by omega)
        simp only [List.length_cons]; omega
    · simp only [List.length_cons]; omega
theorem bared_stuffed (t : List Bool) : ∀ n, n < 5 → bared n (stuffed n t) = (t, 0) := by
  induction t with
  | nil => intro n hn; simp only [stuffed, bared]; rw [if_neg (by omega)]
  | cons b t ih =>
    intro n hn
    have h0 := ih 0 (by omega)
    cases b with
    | false =>
      simp only [stuffed, Bool.false_eq_true, if_false]
      simp only [bared]
      rw [if_neg (by omega)]
      simp only [Bool.false_eq_true, if_false, h0, if_true]
    | true =>
      simp only [stuffed, if_true]
      by_cases h5 : n + 1 = 5
      · rw [if_pos h5]
        simp only [bared]
        rw [if_neg (by omega)]
        simp only [if_true, Bool.false_eq_true, if_false, h5, h0]
      · rw [if_neg h5]
        simp only [bared]
        rw [if_neg (by omega)]
        simp only [if_true, ih (n + 1) (by omega)]
theorem stuffed_bared (t : List Bool) : (∀ n u, n < 5 → bared n t = (u, 0) → stuffed n u = t) ∧ (∀ u, bared 5 t = (u, 0) → t = false :: stuffed 0 u) := by
  induction t with
  | nil =>
    refine ⟨fun n u hn h => ?_, fun u h => ?_⟩
    · simp only [bared] at h
      rw [if_neg (by omega)] at h
      rw [← (Prod.mk.inj h).1]; rfl
    · simp only [bared] at h
      rw [if_pos trivial] at h
      exact absurd (Prod.mk.inj h).2 (by decide)
  | cons b t ih =>
    refine ⟨fun n u hn h => ?_, fun u h => ?_⟩
    · simp only [bared] at h
      rw [if_neg (by omega)] at h
      cases b with
      | false =>
        simp only [Bool.false_eq_true, if_false] at h
        by_cases h0 : (bared 0 t).2 = 0
        · rw [if_pos h0] at h
          rw [← (Prod.mk.inj h).1]
          simp only [stuffed, Bool.false_eq_true, if_false]
          rw [ih.1 0 (bared 0 t).1 (by omega) (Prod.ext rfl h0)]
        · rw [if_neg h0] at h
          exact absurd (Prod.mk.inj h).2 h0
      | true =>
        simp only [if_true] at h
        by_cases h0 : (bared (n + 1) t).2 = 0
        · rw [if_pos h0] at h
          rw [← (Prod.mk.inj h).1]
          simp only [stuffed, if_true]
          by_cases h5 : n + 1 = 5
          · rw [if_pos h5]
            rw [h5] at h0 ⊢
            rw [← ih.2 (bared 5 t).1 (Prod.ext rfl h0)]
          · rw [if_neg h5, ih.1 (n + 1) (bared (n + 1) t).1 (by omega) (Prod.ext rfl h0)]
        · rw [if_neg h0] at h
          exact absurd (Prod.mk.inj h).2 h0
    · simp only [bared, if_true] at h
      cases b with
      | false =>
        simp only [Bool.false_eq_true, if_false] at h
        rw [ih.1 0 u (by omega) h]
      | true =>
        simp only [if_true] at h
        exact absurd (Prod.mk.inj h).2 (by decide)
theorem stuffed_app (a b : List Bool) : ∀ n, stuffed n (a ++ false :: b) = stuffed n (a ++ [false]) ++ stuffed 0 b := by
  induction a with
  | nil => intro n; simp [stuffed]
  | cons c a ih =>
    intro n
    simp only [List.cons_append, stuffed]
    split
    · split
      · rw [ih]; rfl
      · rw [ih]; rfl
    · rw [ih]; rfl
theorem stuffed_inj (a b : List Bool) (h : stuffed 0 a = stuffed 0 b) : a = b := by
  have ha := bared_stuffed a 0 (by omega)
  have hb := bared_stuffed b 0 (by omega)
  rw [h, hb] at ha
  exact (Prod.mk.inj ha).1.symm

theorem Put_in (t : List Bool) (hl : t.length < 1000000000000) : ∀ d i n acc, i + d = t.length → n < 5 → acc.length ≤ 2 * i →
    Ev (fun k => stuff_Put.l0 k acc ((n : Nat) : Int) t (t.length : Int) (i : Int)) (acc ++ stuffed n (t.drop i)) := by
  intro d
  induction d with
  | zero =>
    intro i n acc hi hn ha
    refine Ev.to (Ev.step (g := fun k => stuff_Put.l0 k acc ((n : Nat) : Int) t (t.length : Int) (i : Int)) (fun k => ?_) (Ev.now acc)) rfl ?_
    · simp only [stuff_Put.l0]
      rw [if_neg (by omega)]
    · rw [List.drop_of_length_le (by omega)]; simp [stuffed]
  | succ d ih =>
    intro i n acc hi hn ha
    have h1 : i < t.length := by omega
    have ea : t.drop i = t[i] :: t.drop (i + 1) := List.drop_eq_getElem_cons h1
    cases hti : t[i] with
    | false =>
      refine Ev.to (Ev.step (g := fun k => stuff_Put.l0 k acc ((n : Nat) : Int) t (t.length : Int) (i : Int)) (fun k => ?_) (ih (i + 1) 0 (acc ++ [false]) (by omega) (by omega) (by simp; omega))) rfl ?_
      · simp only [stuff_Put.l0]
        rw [if_pos (by omega), if_pos (by omega), if_pos (by omega), if_pos (by omega), rdOf_nat false t i h1, hti, w64s i (by omega), Option.bind_some, if_neg (by simp)]
        rfl
      · rw [ea, hti]; simp [stuffed]
    | true =>
      by_cases h5 : n + 1 = 5
      · refine Ev.to (Ev.step (g := fun k => stuff_Put.l0 k acc ((n : Nat) : Int) t (t.length : Int) (i : Int)) (fun k => ?_) (ih (i + 1) 0 (acc ++ [true] ++ [false]) (by omega) (by omega) (by simp; omega))) rfl ?_
        · simp only [stuff_Put.l0]
          rw [if_pos (by omega), if_pos (by omega), if_pos (by omega), if_pos (by omega), rdOf_nat false t i h1, hti, w64s i (by omega), w64s n (by omega), Option.bind_some, if_pos rfl, if_pos (by omega), if_pos (by simp; omega)]
          rfl
        · rw [ea, hti]; simp [stuffed, h5]
      · refine Ev.to (Ev.step (g := fun k => stuff_Put.l0 k acc ((n : Nat) : Int) t (t.length : Int) (i : Int)) (fun k => ?_) (ih (i + 1) (n + 1) (acc ++ [true]) (by omega) (by omega) (by simp; omega))) rfl ?_
        · simp only [stuff_Put.l0]
          rw [if_pos (by omega), if_pos (by omega), if_pos (by omega), if_pos (by omega), rdOf_nat false t i h1, hti, w64s i (by omega), w64s n (by omega), Option.bind_some, if_pos rfl, if_neg (by omega)]
        · rw [ea, hti]; simp [stuffed, h5]
theorem Put_ev (t : List Bool) (hl : t.length < 1000000000000) : Ev (fun k => stuff_Put.f k t) (stuffed 0 t) :=
  Ev.to (Put_in t hl t.length 0 0 [] (by omega) (by omega) (by simp)) (by funext k; rfl) (by simp)

theorem RefPut_in (t : List Bool) (hl : t.length < 1000000000000) : ∀ d i n acc, i + d = t.length → n < 5 → acc.length ≤ 2 * i →
    Ev (fun k => signalmanref01_Put.l0 k t acc ((n : Nat) : Int) (i : Int)) (acc ++ stuffed n (t.drop i)) := by
  intro d
  induction d with
  | zero =>
    intro i n acc hi hn ha
    refine Ev.to (Ev.step (g := fun k => signalmanref01_Put.l0 k t acc ((n : Nat) : Int) (i : Int)) (fun k => ?_) (Ev.now acc)) rfl ?_
    · simp only [signalmanref01_Put.l0]
      rw [if_neg (by omega)]
    · rw [List.drop_of_length_le (by omega)]; simp [stuffed]
  | succ d ih =>
    intro i n acc hi hn ha
    have h1 : i < t.length := by omega
    have ea : t.drop i = t[i] :: t.drop (i + 1) := List.drop_eq_getElem_cons h1
    cases hti : t[i] with
    | false =>
      refine Ev.to (Ev.step (g := fun k => signalmanref01_Put.l0 k t acc ((n : Nat) : Int) (i : Int)) (fun k => ?_) (ih (i + 1) 0 (acc ++ [false]) (by omega) (by omega) (by simp; omega))) rfl ?_
      · simp only [signalmanref01_Put.l0]
        rw [if_pos (by omega), if_pos (by omega), if_pos (by omega), rdOf_nat false t i h1, hti, w64s i (by omega), Option.bind_some, if_neg (by simp)]
        rfl
      · rw [ea, hti]; simp [stuffed]
    | true =>
      by_cases h5 : n + 1 = 5
      · refine Ev.to (Ev.step (g := fun k => signalmanref01_Put.l0 k t acc ((n : Nat) : Int) (i : Int)) (fun k => ?_) (ih (i + 1) 0 (acc ++ [true] ++ [false]) (by omega) (by omega) (by simp; omega))) rfl ?_
        · simp only [signalmanref01_Put.l0]
          rw [if_pos (by omega), if_pos (by omega), if_pos (by omega), rdOf_nat false t i h1, hti, w64s i (by omega), w64s n (by omega), Option.bind_some, if_pos rfl, if_pos (by omega), if_pos (by simp; omega)]
          rfl
        · rw [ea, hti]; simp [stuffed, h5]
      · refine Ev.to (Ev.step (g := fun k => signalmanref01_Put.l0 k t acc ((n : Nat) : Int) (i : Int)) (fun k => ?_) (ih (i + 1) (n + 1) (acc ++ [true]) (by omega) (by omega) (by simp; omega))) rfl ?_
        · simp only [signalmanref01_Put.l0]
          rw [if_pos (by omega), if_pos (by omega), if_pos (by omega), rdOf_nat false t i h1, hti, w64s i (by omega), w64s n (by omega), Option.bind_some, if_pos rfl, if_neg (by omega)]
        · rw [ea, hti]; simp [stuffed, h5]
theorem RefPut_ev (t : List Bool) (hl : t.length < 1000000000000) : Ev (fun k => signalmanref01_Put.f k t) (stuffed 0 t) :=
  Ev.to (RefPut_in t hl t.length 0 0 [] (by omega) (by omega) (by simp)) (by funext k; rfl) (by simp)

/-- What a loop has so far, and what it still gets. -/
def onto (acc : List Bool) (r : List Bool × Int) : List Bool × Int := if r.2 = 0 then (acc ++ r.1, 0) else ([], r.2)
theorem onto_nil (t : List Bool) (n : Nat) : onto [] (bared n t) = bared n t := by
  unfold onto
  split
  · rename_i h; exact Prod.ext rfl h.symm
  · rename_i h; exact Prod.ext (bared_none t n h).symm rfl
theorem onto_step (acc : List Bool) (b : Bool) (t : List Bool) (n : Nat) (h : n ≠ 5) : onto (acc ++ [b]) (bared (if b then n + 1 else 0) t) = onto acc (bared n (b :: t)) := by
  rw [show bared n (b :: t) = (if n = 5 then (if b then ([], 4) else bared 0 t)
      else (if (bared (if b then n + 1 else 0) t).2 = 0 then (b :: (bared (if b then n + 1 else 0) t).1, 0) else ([], (bared (if b then n + 1 else 0) t).2))) from rfl, if_neg h]
  generalize bared (if b = true then n + 1 else 0) t = r
  unfold onto
  by_cases h0 : r.2 = 0
  · rw [if_pos h0, if_pos h0, if_pos rfl]; simp
  · rw [if_neg h0, if_neg h0, if_neg (by exact h0)]
theorem Take_in (t : List Bool) (hl : t.length < 1000000000000) : ∀ d i n acc, i + d = t.length → n ≤ 5 → acc.length ≤ i →
    Ev (fun k => stuff_Take.l0 k acc ((n : Nat) : Int) t (t.length : Int) (i : Int)) (onto acc (bared n (t.drop i))) := by
  intro d
  induction d with
  | zero =>
    intro i n acc hi hn ha
    rw [List.drop_of_length_le (by omega)]
    refine Ev.to (Ev.step (g := fun k => stuff_Take.l0 k acc ((n : Nat) : Int) t (t.length : Int) (i : Int)) (fun k => ?_) (Ev.now (if n = 5 then ([], 5) else (acc, 0)))) rfl ?_
    · simp only [stuff_Take.l0]
      rw [if_neg (by omega)]
      by_cases h5 : n = 5
      · rw [if_pos (by omega), if_pos h5]
      · rw [if_neg (by omega), if_neg h5]
    · by_cases h5 : n = 5
      · simp [bared, h5, onto]
      · simp [bared, h5, onto]
  | succ d ih =>
    intro i n acc hi hn ha
    have h1 : i < t.length := by omega
    have ea : t.drop i = t[i] :: t.drop (i + 1) := List.drop_eq_getElem_cons h1
    rw [ea]
    by_cases h5 : n = 5
    · subst h5
      cases hti : t[i] with
      | true =>
        refine Ev.to (Ev.step (g := fun k => stuff_Take.l0 k acc ((5 : Nat) : Int) t (t.length : Int) (i : Int)) (fun k => ?_) (Ev.now ([], 4))) rfl ?_
        · simp only [stuff_Take.l0]
          rw [if_pos (by omega), if_pos (by omega), if_pos (by omega), if_pos (by omega), rdOf_nat false t i h1, hti, if_pos rfl]
        · simp [bared, onto]
      | false =>
        refine Ev.to (Ev.step (g := fun k => stuff_Take.l0 k acc ((5 : Nat) : Int) t (t.length : Int) (i : Int)) (fun k => ?_) (ih (i + 1) 0 acc (by omega) (by omega) (by omega))) rfl ?_
        · simp only [stuff_Take.l0]
          rw [if_pos (by omega), if_pos (by omega), if_pos (by omega), if_pos (by omega), rdOf_nat false t i h1, hti, if_neg (by simp), w64s i (by omega)]
          rfl
        · simp [bared]
    · rw [← onto_step acc t[i] _ n h5]
      cases hti : t[i] with
      | false =>
        refine Ev.step (fun k => ?_) (ih (i + 1) 0 (acc ++ [false]) (by omega) (by omega) (by simp; omega))
        simp only [stuff_Take.l0]
        rw [if_pos (by omega), if_pos (by omega), if_pos (by omega), if_neg (by omega), if_pos (by omega), rdOf_nat false t i h1, hti, w64s i (by omega), Option.bind_some, if_neg (by simp)]
        rfl
      | true =>
        refine Ev.step (fun k => ?_) (ih (i + 1) (n + 1) (acc ++ [true]) (by omega) (by omega) (by simp; omega))
        simp only [stuff_Take.l0]
        rw [if_pos (by omega), if_pos (by omega), if_pos (by omega), if_neg (by omega), if_pos (by omega), rdOf_nat false t i h1, hti, w64s i (by omega), w64s n (by omega), Option.bind_some, if_pos rfl]
theorem Take_ev (t : List Bool) (hl : t.length < 1000000000000) : Ev (fun k => stuff_Take.f k t) (bared 0 t) :=
  Ev.to (Take_in t hl t.length 0 0 [] (by omega) (by omega) (by simp)) (by funext k; rfl) (by simp [onto_nil])

theorem RefTake_in (t : List Bool) (hl : t.length < 1000000000000) : ∀ d i n acc, i + d = t.length → n ≤ 5 → acc.length ≤ i →
    Ev (fun k => signalmanref01_Take.l0 k t acc ((n : Nat) : Int) (i : Int)) (onto acc (bared n (t.drop i))) := by
  intro d
  induction d with
  | zero =>
    intro i n acc hi hn ha
    rw [List.drop_of_length_le (by omega)]
    refine Ev.to (Ev.step (g := fun k => signalmanref01_Take.l0 k t acc ((n : Nat) : Int) (i : Int)) (fun k => ?_) (Ev.now (if n = 5 then ([], 5) else (acc, 0)))) rfl ?_
    · simp only [signalmanref01_Take.l0]
      rw [if_neg (by omega)]
      by_cases h5 : n = 5
      · rw [if_pos (by omega), if_pos h5]
      · rw [if_neg (by omega), if_neg h5]
    · by_cases h5 : n = 5
      · simp [bared, h5, onto]
      · simp [bared, h5, onto]
  | succ d ih =>
    intro i n acc hi hn ha
    have h1 : i < t.length := by omega
    have ea : t.drop i = t[i] :: t.drop (i + 1) := List.drop_eq_getElem_cons h1
    rw [ea]
    by_cases h5 : n = 5
    · subst h5
      cases hti : t[i] with
      | true =>
        refine Ev.to (Ev.step (g := fun k => signalmanref01_Take.l0 k t acc ((5 : Nat) : Int) (i : Int)) (f := fun k => signalmanref01_Take.j1 k t acc ((5 : Nat) : Int) (i : Int) true) (fun k => ?_) (Ev.step (fun k => ?_) (Ev.now ([], 4)))) rfl ?_
        · simp only [signalmanref01_Take.l0]
          rw [if_pos (by omega), if_pos (by omega), if_pos (by omega), rdOf_nat false t i h1, hti]
        · simp only [signalmanref01_Take.j1]
          rw [if_pos trivial]
        · simp [bared, onto]
      | false =>
        refine Ev.to (Ev.step (g := fun k => signalmanref01_Take.l0 k t acc ((5 : Nat) : Int) (i : Int)) (f := fun k => signalmanref01_Take.j1 k t acc ((5 : Nat) : Int) (i : Int) false) (fun k => ?_) (Ev.step (fun k => ?_) (ih (i + 1) 0 acc (by omega) (by omega) (by omega)))) rfl ?_
        · simp only [signalmanref01_Take.l0]
          rw [if_pos (by omega), if_pos (by omega), if_pos (by omega), rdOf_nat false t i h1, hti]
        · simp only [signalmanref01_Take.j1]
          rw [if_neg (by simp), if_pos (by omega), w64s i (by omega)]
          rfl
        · simp [bared]
    · rw [← onto_step acc t[i] _ n h5]
      cases hti : t[i] with
      | false =>
        refine Ev.step (f := fun k => signalmanref01_Take.j1 k t acc ((n : Nat) : Int) (i : Int) false) (fun k => ?_) (Ev.step (fun k => ?_) (ih (i + 1) 0 (acc ++ [false]) (by omega) (by omega) (by simp; omega)))
        · simp only [signalmanref01_Take.l0]
          rw [if_pos (by omega), if_neg (by omega)]
        · simp only [signalmanref01_Take.j1]
          rw [if_neg (by simp), if_neg (by omega), if_pos (by omega), if_pos (by omega), if_pos (by omega), rdOf_nat false t i h1, hti, w64s i (by omega), Option.bind_some, if_neg (by simp)]
          rfl
      | true =>
        refine Ev.step (f := fun k => signalmanref01_Take.j1 k t acc ((n : Nat) : Int) (i : Int) false) (fun k => ?_) (Ev.step (fun k => ?_) (ih (i + 1) (n + 1) (acc ++ [true]) (by omega) (by omega) (by simp; omega)))
        · simp only [signalmanref01_Take.l0]
          rw [if_pos (by omega), if_neg (by omega)]
        · simp only [signalmanref01_Take.j1]
          rw [if_neg (by simp), if_neg (by omega), if_pos (by omega), if_pos (by omega), if_pos (by omega), rdOf_nat false t i h1, hti, w64s i (by omega), w64s n (by omega), Option.bind_some, if_pos rfl]
theorem RefTake_ev (t : List Bool) (hl : t.length < 1000000000000) : Ev (fun k => signalmanref01_Take.f k t) (bared 0 t) :=
  Ev.to (RefTake_in t hl t.length 0 0 [] (by omega) (by omega) (by simp)) (by funext k; rfl) (by simp [onto_nil])

theorem Low_ev (t : List Bool) (hl : t.length ≤ 140737488355328) : Ev (fun k => tape_Low.f k t) (low t) := by
  refine count t.length (fun i k => tape_Low.l0 k (low (t.take i)) t (t.length : Int) (i : Int)) (low t) ?_ ?_ |> fun z => Ev.to z (by funext k; simp [tape_Low.f, low, val]) rfl
  · intro i hi hn
    have et : t.take (i + 1) = t.take i ++ [t[i]] := List.take_succ_eq_append_getElem hi
    refine Ev.step (fun k => ?_) hn
    simp only [tape_Low.l0]
    rw [if_pos (by omega), if_pos (by omega), if_pos (by omega), rdOf_nat false t i hi, w64s i (by omega)]
    by_cases h8 : i < 8
    · have e8 : low (t.take (i + 1)) = low (t.take i) + (if t[i] then 2 ^ i else 0) := by
        unfold low
        rw [List.take_take, List.take_take, show min 8 (i + 1) = i + 1 from by omega, show min 8 i = i from by omega, et, val_snoc]
        have : (t.take i).length = i := by rw [List.length_take]; omega
        rw [this]
      cases hti : t[i] with
      | false => rw [if_neg (by simp), e8, hti]; simp
      | true =>
        rw [if_pos rfl, if_pos (by omega), e8, hti]
        have hv : low (t.take i) < 2 ^ i := by
          have := val_hi ((t.take i).take 8)
          have hle : ((t.take i).take 8).length = i := by simp; omega
          rw [hle] at this; exact this
        have hv0 := low_lo (t.take i)
        have hp : (2 : Int) ^ i ≤ 128 := by
          have : (2 : Nat) ^ i ≤ 2 ^ 7 := Nat.pow_le_pow_right (by decide) (by omega)
          exact_mod_cast this
        have hp0 : (0 : Int) < 2 ^ i := Int.pow_pos (by decide)
        have es : shl .u8 1 (i : Int) = 2 ^ i := by
          unfold shl
          rw [IntKind.wrap_u8]
          have : min ((i : Int).toNat) IntKind.u8.bits = i := by show min ((i : Int).toNat) 8 = i; omega
          rw [this, Int.one_mul]; omega
        rw [es]
        have ej : Go.bits .or .u8 (low (t.take i)) (2 ^ i) = low (t.take i) + 2 ^ i := by
          have := bits_join .u8 8 (by decide) wraps_u8 i (2 ^ i) (low (t.take i)) (by omega) (by simp) (by omega) hv0 hv (by omega)
          have comm : Go.bits .or .u8 (low (t.take i)) (2 ^ i) = Go.bits .or .u8 (2 ^ i) (low (t.take i)) := by
            simp only [Go.bits]; rw [BitVec.or_comm]
          rw [comm, this]; omega
        rw [ej]; simp
    · have e8 : low (t.take (i + 1)) = low (t.take i) := by
        unfold low
        rw [List.take_take, List.take_take, show min 8 (i + 1) = 8 from by omega, show min 8 i = 8 from by omega]
      rw [e8]
      cases hti : t[i] with
      | false => rw [if_neg (by simp)]
      | true => rw [if_pos rfl, if_neg (by omega)]
  · refine Ev.step (fun k => ?_) (Ev.now _)
    simp only [tape_Low.l0]
    rw [if_neg (by omega), List.take_length]

theorem Octets_ev (t : List Bool) (hl : t.length ≤ 140737488355328) : Ev (fun k => tape_Tape_Octets.f k t) (if t.length % 8 = 0 then (octs (t.length / 8) t, 0) else ([], 8)) := by
  by_cases h8 : t.length % 8 = 0
  · rw [if_pos h8]
    obtain ⟨n, hn⟩ : ∃ n, t.length = 8 * n := ⟨t.length / 8, by omega⟩
    have hq : t.length / 8 = n := by omega
    rw [hq]
    refine count n (fun i k => tape_Tape_Octets.l0 k t (octs i t) ((8 * i : Nat) : Int)) _ ?_ ?_ |> fun z => Ev.to z (by funext k; unfold tape_Tape_Octets.f; rw [if_pos (by omega)]; rfl) rfl
    · intro i hi hnx
      have ew : wrap64 (((8 * i : Nat) : Int) + 8) = ((8 * (i + 1) : Nat) : Int) := by rw [w64 _ (by omega) (by omega)]; omega
      have hlow : Ev (fun k => tape_Low.f k ((t.take (8 * (i + 1))).drop (8 * i))) (low (t.drop (8 * i))) := by
        refine Ev.to (Low_ev _ (by simp; omega)) rfl ?_
        unfold low
        congr 1
        rw [List.drop_take, List.take_take, show min 8 (8 * (i + 1) - 8 * i) = 8 from by omega]
      refine Ev.step (f := fun k => (tape_Low.f k ((t.take (8 * (i + 1))).drop (8 * i))).bind fun x => if (octs i t).length < 140737488355328 then tape_Tape_Octets.l0 k t (octs i t ++ [x]) ((8 * (i + 1) : Nat) : Int) else none) (fun k => ?_) ?_
      · simp only [tape_Tape_Octets.l0]
        rw [ew, if_pos (by omega), if_pos (by omega), if_pos (by omega), if_pos (by omega)]
        simp only [Int.toNat_natCast]
      · refine Ev.bind hlow ?_
        refine Ev.congr (fun k => ?_) hnx
        rw [if_pos (by rw [octs_length]; omega), octs_snoc]
    · refine Ev.step (fun k => ?_) (Ev.now _)
      simp only [tape_Tape_Octets.l0]
      rw [if_neg (by omega)]
  · rw [if_neg h8]
    refine Ev.congr (fun k => ?_) (Ev.now _)
    unfold tape_Tape_Octets.f
    rw [if_neg (by omega)]

theorem bit_and (b : Int) (j : Nat) (h0 : 0 ≤ b) (h1 : b < 256) (hj : j < 8) : ((Go.bits .and .u8 (shr .u8 b (j : Int)) 1) == 1) = bitN b j := by
  have e : shr .u8 b (j : Int) = b / 2 ^ j := shr_small (k := .u8) (x := b) (y := (j : Int)) rfl (by show (j : Int) ≤ 8; omega) ▸ rfl
  have h2 : 0 ≤ b / 2 ^ j := Int.ediv_nonneg h0 (Int.pow_nonneg (by decide))
  have h3 : b / 2 ^ j < 256 := by
    have := Int.ediv_le_self (2 ^ j) h0
    omega
  rw [e, show (1 : Int) = 2 ^ 1 - 1 from rfl, bits_mask .u8 8 (by decide) wraps_u8 1 (by decide) _ h2 h3]
  rfl

theorem Of_in (l : List Int) (i : Nat) (hi : i < l.length) (h0 : 0 ≤ l[i]) (h1 : l[i] < 256) (acc : List Bool) (r : List Bool) (hacc : acc.length + 8 < 140737488355328)
    (h : Ev (fun k => tape_Of.l0 k (acc ++ octet l[i]) l (l.length : Int) (wrap64 ((i : Int) + 1))) r) :
    Ev (fun k => tape_Of.l1 k acc l[i] l (l.length : Int) (i : Int) 0) r := by
  refine count 8 (fun j k => tape_Of.l1 k (acc ++ (List.range j).map (bitN l[i])) l[i] l (l.length : Int) (i : Int) (j : Int)) r ?_ ?_ |> fun z => Ev.to z (by funext k; simp) rfl
  · intro j hj hn
    refine Ev.step (fun k => ?_) hn
    have e : (List.range (j + 1)).map (bitN l[i]) = (List.range j).map (bitN l[i]) ++ [bitN l[i] j] := by rw [List.range_succ, List.map_append]; rfl
    simp only [tape_Of.l1]
    rw [if_pos (by omega), if_pos (by omega), if_pos (by simp; omega), bit_and _ _ h0 h1 hj, w64s j (by omega), e, List.append_assoc]
  · refine Ev.step (fun k => ?_) h
    simp only [tape_Of.l1]
    rw [if_neg (by decide)]
    rfl

theorem Of_ev (l : List Int) (hl : l.length ≤ 10000000000000) (hb : ∀ x ∈ l, 0 ≤ x ∧ x < 256) : Ev (fun k => tape_Of.f k l) (bitsOf l) := by
  refine count l.length (fun i k => tape_Of.l0 k (bitsOf (l.take i)) l (l.length : Int) (i : Int)) (bitsOf l) ?_ ?_ |> fun z => Ev.to z (by funext k; simp [tape_Of.f, bitsOf]) rfl
  · intro i hi hn
    have hx := hb l[i] (List.getElem_mem hi)
    have hlen : (bitsOf (l.take i)).length = 8 * i := by rw [bitsOf_length, List.length_take]; omega
    have key := Of_in l i hi hx.1 hx.2 (bitsOf (l.take i)) (bitsOf l) (by omega) (by rw [w64s i (by omega), ← bitsOf_take_succ l i hi]; exact hn)
    refine Ev.step (fun k => ?_) key
    simp only [tape_Of.l0]
    rw [if_pos (by omega), if_pos (by omega), if_pos (by omega), rd_nat l i hi]
  · refine Ev.step (fun k => ?_) (Ev.now _)
    simp only [tape_Of.l0]
    rw [if_neg (by omega), List.take_length]

theorem wraps_u16 (n : Int) (h0 : 0 ≤ n) (h1 : n < 2 ^ 16) : IntKind.u16.wrap n = n := by
  simp [IntKind.wrap, IntKind.bits, IntKind.signed]; omega
theorem Step_eq (r : Nat) (hr : r < 65536) (b : Bool) : rest_Step.f (r : Int) b = some ((Crc.stepN r b : Nat) : Int) := by
  have e2 : ((r : Int) / (2 : Int)) = (((r >>> 1) : Nat) : Int) := by rw [Nat.shiftRight_eq_div_pow]; omega
  have h2 : r >>> 1 < 65536 := by rw [Nat.shiftRight_eq_div_pow]; omega
  have hx : Go.bits .xor .u16 ((r >>> 1 : Nat) : Int) 33800 = (((r >>> 1) ^^^ 33800 : Nat) : Int) := u16_xor_nat (r >>> 1) 33800 h2 (by decide)
  have test : ∀ c : Nat, c < 2 → ((Go.bits .and .u16 (Go.bits .xor .u16 (r : Int) (c : Int)) 1) = 1 ↔ (r.testBit 0 != decide (c = 1)) = true) := by
    intro c hc
    rw [u16_xor_nat r c hr (by omega)]
    have hlt : r ^^^ c < 2 ^ 16 := Nat.xor_lt_two_pow hr (by omega)
    rw [show (1 : Int) = 2 ^ 1 - 1 from rfl, bits_mask .u16 16 (by decide) wraps_u16 1 (by decide) _ (by omega) (by exact_mod_cast hlt)]
    have e : (((r ^^^ c : Nat) : Int) % 2 ^ 1 = 2 ^ 1 - 1) ↔ (r ^^^ c) % 2 = 1 := by omega
    rw [e]
    have hb : (r ^^^ c).testBit 0 = (r.testBit 0 ^^ c.testBit 0) := Nat.testBit_xor ..
    have hc2 : c.testBit 0 = decide (c = 1) := by rw [Nat.testBit_zero]; rcases (show c = 0 ∨ c = 1 by omega) with rfl | rfl <;> rfl
    rw [Nat.testBit_zero, hc2] at hb
    rw [← decide_eq_true_iff (p := (r ^^^ c) % 2 = 1), hb]
  unfold rest_Step.f Crc.stepN
  rw [e2]
  cases b with
  | true =>
    have this : (Go.bits .and .u16 (Go.bits .xor .u16 (r : Int) 1) 1) = 1 ↔ (r.testBit 0 != true) = true := test 1 (by decide)
    rw [if_pos rfl]
    by_cases h : (r.testBit 0 != true) = true
    · rw [if_pos (this.mpr h), if_pos h, hx]
    · rw [if_neg (fun h' => h (this.mp h')), if_neg h]
  | false =>
    have this : (Go.bits .and .u16 (Go.bits .xor .u16 (r : Int) 0) 1) = 1 ↔ (r.testBit 0 != false) = true := test 0 (by decide)
    rw [if_neg (by decide)]
    by_cases h : (r.testBit 0 != false) = true
    · rw [if_pos (this.mpr h), if_pos h, hx]
    · rw [if_neg (fun h' => h (this.mp h')), if_neg h]
theorem CrcBits_ev (t : List Bool) (hl : t.length < 140737488355328) : Ev (fun k => rest_Bits.f k t) ((Crc.crc t : Nat) : Int) := by
  refine count t.length (fun i k => rest_Bits.l0 k ((Crc.run 65535 (t.take i) : Nat) : Int) t (t.length : Int) (i : Int)) _ ?_ ?_ |> fun z => Ev.to z (by funext k; simp [rest_Bits.f, Crc.run]) rfl
  · intro i hi hn
    have hr := Crc.run_lt (t.take i) 65535 (by decide)
    have et : Crc.run 65535 (t.take (i + 1)) = Crc.stepN (Crc.run 65535 (t.take i)) t[i] := foldl_take_succ _ _ _ _ hi
    refine Ev.step (fun k => ?_) hn
    simp only [rest_Bits.l0]
    rw [if_pos (by omega), if_pos (by omega), if_pos (by omega), rdOf_nat false t i hi, Step_eq _ hr, Option.bind_some, w64s i (by omega), et]
  · refine Ev.step (fun k => ?_) (Ev.now _)
    simp only [rest_Bits.l0]
    rw [if_neg (by omega), List.take_length]
    rfl

theorem RefOctets_in (t : List Bool) (ht : t.length ≤ 140737488355328) (i : Nat) (hi : 8 * i + 8 ≤ t.length) (acc : List Int) (hacc : acc.length < 140737488355328) (r : List Int)
    (h : Ev (fun k => signalmanref01_Octets.l0 k t (acc ++ [low (t.drop (8 * i))]) ((8 * (i + 1) : Nat) : Int)) r) :
    Ev (fun k => signalmanref01_Octets.l1 k t acc ((8 * i : Nat) : Int) 0 7) r := by
  refine count 8 (fun s k => signalmanref01_Octets.l1 k t acc ((8 * i : Nat) : Int) (val ((t.drop (8 * i + 8 - s)).take s)) (7 - (s : Int))) r ?_ ?_ |> fun z => Ev.to z (by funext k; simp [val]) rfl
  · intro s hs hn
    have hp : 8 * i + (7 - s) < t.length := by omega
    have e1 : t.drop (8 * i + 8 - (s + 1)) = t[8 * i + (7 - s)] :: t.drop (8 * i + 8 - s) := by
      rw [show 8 * i + 8 - (s + 1) = 8 * i + (7 - s) from by omega, List.drop_eq_getElem_cons hp, show 8 * i + (7 - s) + 1 = 8 * i + 8 - s from by omega]
    have e2 : val ((t.drop (8 * i + 8 - (s + 1))).take (s + 1)) = (if t[8 * i + (7 - s)] then 1 else 0) + 2 * val ((t.drop (8 * i + 8 - s)).take s) := by
      rw [e1, List.take_succ_cons]; rfl
    have hv0 := val_lo ((t.drop (8 * i + 8 - s)).take s)
    have hv : val ((t.drop (8 * i + 8 - s)).take s) < 128 := by
      have h1 := val_hi ((t.drop (8 * i + 8 - s)).take s)
      have h2 : ((t.drop (8 * i + 8 - s)).take s).length ≤ 7 := by simp; omega
      have h3 : (2 : Int) ^ ((t.drop (8 * i + 8 - s)).take s).length ≤ 2 ^ 7 := by exact_mod_cast Nat.pow_le_pow_right (by decide) h2
      omega
    refine Ev.step (fun k => ?_) hn
    simp only [signalmanref01_Octets.l1]
    have ew : wrap64 (((8 * i : Nat) : Int) + (7 - (s : Int))) = ((8 * i + (7 - s) : Nat) : Int) := by rw [w64 _ (by omega) (by omega)]; omega
    have ed : wrap64 (7 - (s : Int) - 1) = 7 - ((s + 1 : Nat) : Int) := by rw [w64 _ (by omega) (by omega)]; omega
    rw [if_pos (by omega), ew, if_pos (by omega), if_pos (by omega), rdOf_nat false t _ hp, ed, e2]
    cases hti : t[8 * i + (7 - s)] with
    | false => rw [if_neg (by simp), if_neg (by simp)]; congr 1; omega
    | true => rw [if_pos rfl, if_pos rfl]; congr 1; omega
  · refine Ev.step (fun k => ?_) h
    simp only [signalmanref01_Octets.l1]
    rw [if_neg (by omega), if_pos hacc, w64 _ (by omega) (by omega)]
    rfl
theorem RefOctets_ev (t : List Bool) (ht : t.length ≤ 140737488355328) : Ev (fun k => signalmanref01_Octets.f k t) (octs (t.length / 8) t) := by
  refine count (t.length / 8) (fun i k => signalmanref01_Octets.l0 k t (octs i t) ((8 * i : Nat) : Int)) _ ?_ ?_ |> fun z => Ev.to z (by funext k; rfl) rfl
  · intro i hi hn
    refine Ev.step (fun k => ?_) (RefOctets_in t ht i (by omega) (octs i t) (by rw [octs_length]; omega) _ (by rw [← octs_snoc]; exact hn))
    simp only [signalmanref01_Octets.l0]
    rw [w64 _ (by omega) (by omega), if_pos (by omega)]
  · refine Ev.step (fun k => ?_) (Ev.now _)
    simp only [signalmanref01_Octets.l0]
    rw [w64 _ (by omega) (by omega), if_neg (by omega)]

/-- The check of octets. -/
def chk (p : List Int) : List Int := octs 2 (Crc.tail (Crc.crc (bitsOf p)))
theorem chk_length (p : List Int) : (chk p).length = 2 := octs_length _ _
theorem chk_bits (p : List Int) : bitsOf (chk p) = Crc.tail (Crc.crc (bitsOf p)) := by
  unfold chk
  rw [bits_octs 2 _ (by rw [Crc.tail_length]; omega), List.take_of_length_le (by rw [Crc.tail_length]; omega)]
theorem chk_range (p : List Int) : ∀ x ∈ chk p, 0 ≤ x ∧ x < 256 := fun x hx => octs_range _ _ x hx
theorem RefCheck_ev (l : List Int) (hl : l.length ≤ 10000000000000) (hb : ∀ x ∈ l, 0 ≤ x ∧ x < 256) : Ev (fun k => signalmanref01_Check.f k l) (chk l) := by
  unfold signalmanref01_Check.f
  refine Ev.bind (RefBits_ev l hl hb) ?_
  refine Ev.to (RefOctets_ev (Crc.outBits (bitsOf l)) (by rw [Crc.outBits_tail, Crc.tail_length]; omega)) rfl ?_
  rw [Crc.outBits_tail, Crc.tail_length]; rfl
theorem crc_lt (t : List Bool) : Crc.crc t < 65536 := Crc.run_lt t 65535 (by decide)
theorem crc_append (s t : List Bool) : Crc.crc (s ++ t) = Crc.run (Crc.crc s) t := Crc.run_append _ s t
/-- Octets are right just if the last two are the check of the others. -/
theorem right_eq (q s : List Int) (hs : s.length = 2) (hb : ∀ x ∈ s, 0 ≤ x ∧ x < 256) : Crc.crc (bitsOf (q ++ s)) = 61624 ↔ chk q = s := by
  rw [bitsOf_append, crc_append, Crc.right_iff _ (crc_lt _) _ (by rw [bitsOf_length]; omega)]
  constructor
  · intro h
    unfold chk
    rw [← h]
    have := octs_bits' s hb
    rwa [hs] at this
  · intro h
    rw [← h, chk_bits]
theorem Right_ev (l : List Int) (hl : l.length ≤ 10000000000000) (hb : ∀ x ∈ l, 0 ≤ x ∧ x < 256) : Ev (fun k => rest_Right.f k l) (decide (2 ≤ l.length) && decide (Crc.crc (bitsOf l) = 61624)) := by
  unfold rest_Right.f
  by_cases h2 : 2 ≤ l.length
  · refine Ev.congr (fun k => if_pos (by omega)) ?_
    refine Ev.bind (Of_ev l hl hb) ?_
    refine Ev.bind (CrcBits_ev (bitsOf l) (by rw [bitsOf_length]; omega)) ?_
    refine Ev.to (Ev.now _) rfl ?_
    rw [decide_eq_true h2, Bool.true_and, Bool.eq_iff_iff]
    simp only [beq_iff_eq, decide_eq_true_eq]
    omega
  · refine Ev.congr (fun k => if_neg (by omega)) ?_
    rw [decide_eq_false h2, Bool.false_and]
    exact Ev.now _

theorem bitN_nat (m j : Nat) : bitN (m : Int) j = m.testBit j := by
  rw [Nat.testBit_eq_decide_div_mod_eq]
  unfold bitN
  have e : ((m : Int) / 2 ^ j % 2) = ((m / 2 ^ j % 2 : Nat) : Int) := by simp
  rw [e]
  have h2 : m / 2 ^ j % 2 = 0 ∨ m / 2 ^ j % 2 = 1 := by omega
  rcases h2 with h2 | h2 <;> rw [h2] <;> rfl
theorem tail_two (c : Nat) : bitsOf [(((65535 ^^^ c) % 256 : Nat) : Int), (((65535 ^^^ c) / 256 % 256 : Nat) : Int)] = Crc.tail c := by
  have e1 : ∀ j, j < 8 → bitN (((65535 ^^^ c) % 256 : Nat) : Int) j = !(c.testBit j) := by
    intro j hj
    rw [bitN_nat, show (256 : Nat) = 2 ^ 8 from rfl, Nat.testBit_mod_two_pow, Nat.testBit_xor, Crc.ones_bit ⟨j, by omega⟩, decide_eq_true hj]
    simp
  have e2 : ∀ j, j < 8 → bitN (((65535 ^^^ c) / 256 % 256 : Nat) : Int) j = !(c.testBit (8 + j)) := by
    intro j hj
    rw [bitN_nat, show (256 : Nat) = 2 ^ 8 from rfl, Nat.testBit_mod_two_pow, Nat.testBit_div_two_pow, Nat.testBit_xor, decide_eq_true hj]
    rw [show j + 8 = 8 + j from by omega, Crc.ones_bit ⟨8 + j, by omega⟩]
    simp
  apply List.ext_getElem
  · rw [bitsOf_length, Crc.tail_length]; rfl
  · intro i h1 h2
    have hi : i < 16 := by rw [Crc.tail_length] at h2; exact h2
    rw [bitsOf_get _ i h1 (by show i / 8 < 2; omega)]
    have et : (Crc.tail c)[i]'h2 = !(c.testBit i) := by simp [Crc.tail, Crc.bits16]
    rw [et]
    by_cases h8 : i < 8
    · have : i / 8 = 0 := by omega
      simp only [this]
      show bitN _ (i % 8) = _
      rw [show i % 8 = i from by omega]
      exact e1 i h8
    · have : i / 8 = 1 := by omega
      simp only [this]
      refine (e2 (i % 8) (by omega)).trans ?_
      rw [show 8 + i % 8 = i from by omega]
theorem Check_ev (l : List Int) (hl : l.length ≤ 10000000000000) (hb : ∀ x ∈ l, 0 ≤ x ∧ x < 256) : Ev (fun k => rest_Check.f k l) (chk l) := by
  unfold rest_Check.f
  refine Ev.bind (Of_ev l hl hb) ?_
  refine Ev.bind (CrcBits_ev (bitsOf l) (by rw [bitsOf_length]; omega)) ?_
  refine Ev.to (Ev.now _) rfl ?_
  have hc := crc_lt (bitsOf l)
  have hx : Go.bits .xor .u16 65535 ((Crc.crc (bitsOf l) : Nat) : Int) = ((65535 ^^^ Crc.crc (bitsOf l) : Nat) : Int) := u16_xor_nat 65535 _ (by decide) hc
  rw [hx]
  unfold chk
  rw [← tail_two]
  have hr : ∀ x ∈ [(((65535 ^^^ Crc.crc (bitsOf l)) % 256 : Nat) : Int), (((65535 ^^^ Crc.crc (bitsOf l)) / 256 % 256 : Nat) : Int)], 0 ≤ x ∧ x < 256 := by
    intro x hx
    simp only [List.mem_cons, List.not_mem_nil, or_false] at hx
    rcases hx with rfl | rfl <;> omega
  have := octs_bits' _ hr
  simp only [List.length_cons, List.length_nil, Nat.zero_add, Nat.reduceAdd] at this
  rw [this]
  simp
theorem With_ev (l : List Int) (hl : l.length ≤ 10000000000000) (hb : ∀ x ∈ l, 0 ≤ x ∧ x < 256) : Ev (fun k => rest_With.f k l) (l ++ chk l) := by
  unfold rest_With.f
  refine Ev.congr (f := fun k => (rest_Check.f k l).bind fun t129 => (if (([] : List Int) ++ l).length + t129.length < 140737488355328 then (some (([] : List Int) ++ l ++ t129)) else none)) (fun k => ?_) ?_
  · rw [if_pos (by simp; omega), Option.bind_some]
  · refine Ev.bind (Check_ev l hl hb) ?_
    refine Ev.congr (fun k => ?_) (Ev.now _)
    rw [if_pos (by rw [chk_length]; simp; omega), List.nil_append]

theorem RefWhole_ev (l : List Int) (hl : l.length ≤ 10000000000000) (hb : ∀ x ∈ l, 0 ≤ x ∧ x < 256) : Ev (fun k => signalmanref01_Whole.f k l) (l ++ chk l) := by
  unfold signalmanref01_Whole.f
  refine Ev.congr (f := fun k => (signalmanref01_Check.f k l).bind fun t129 => (if (([] : List Int) ++ l).length + t129.length < 140737488355328 then (some (([] : List Int) ++ l ++ t129)) else none)) (fun k => ?_) ?_
  · rw [if_pos (by simp; omega), Option.bind_some]
  · refine Ev.bind (RefCheck_ev l hl hb) ?_
    refine Ev.congr (fun k => ?_) (Ev.now _)
    rw [if_pos (by rw [chk_length]; simp; omega), List.nil_append]


/-- Octets as a text: unlike ones are unlike. -/
theorem str_inj (a b : List Int) (ha : ∀ x ∈ a, 0 ≤ x ∧ x < 256) (hb : ∀ x ∈ b, 0 ≤ x ∧ x < 256) (h : (strOfNums a).toList = (strOfNums b).toList) : a = b := by
  rw [ByteArray.toList_eq, ByteArray.toList_eq, strOfNums_toList, strOfNums_toList] at h
  revert b
  induction a with
  | nil => intro b _ h; cases b <;> simp_all
  | cons x a ih =>
    intro b hb h
    cases b with
    | nil => simp at h
    | cons y b =>
      simp only [List.map_cons, List.cons.injEq] at h
      have h1 := ha x (by simp)
      have h2 := hb y (by simp)
      have h3 : x = y := by
        have := congrArg UInt8.toNat h.1
        simp only [UInt8.toNat_ofNat'] at this
        omega
      rw [h3, ih (fun z hz => ha z (by simp [hz])) b (fun z hz => hb z (by simp [hz])) h.2]
theorem str_eq (a b : List Int) (ha : ∀ x ∈ a, 0 ≤ x ∧ x < 256) (hb : ∀ x ∈ b, 0 ≤ x ∧ x < 256) : ((strOfNums a).toList == (strOfNums b).toList) = (a == b) := by
  by_cases h : a = b
  · subst h; simp
  · rw [beq_eq_false_iff_ne.mpr (fun e => h (str_inj a b ha hb e)), beq_eq_false_iff_ne.mpr h]

theorem RefRight_ev (l : List Int) (hl : l.length ≤ 10000000000000) (hb : ∀ x ∈ l, 0 ≤ x ∧ x < 256) : Ev (fun k => signalmanref01_Right.f k l) (decide (2 ≤ l.length) && decide (Crc.crc (bitsOf l) = 61624)) := by
  unfold signalmanref01_Right.f
  by_cases h2 : 2 ≤ l.length
  · have ew : wrap64 ((l.length : Int) - 2) = ((l.length - 2 : Nat) : Int) := by rw [w64 _ (by omega) (by omega)]; omega
    refine Ev.congr (f := fun k => (signalmanref01_Check.f k (l.take (l.length - 2))).bind fun t => some ((strOfNums t).toList == (strOfNums (l.drop (l.length - 2))).toList)) (fun k => ?_) ?_
    · rw [if_pos (by omega), ew, if_pos (by omega), if_pos (by omega), Int.toNat_natCast]
    · refine Ev.bind (RefCheck_ev (l.take (l.length - 2)) (by rw [List.length_take]; omega) (fun x hx => hb x (List.mem_of_mem_take hx))) ?_
      refine Ev.to (Ev.now _) rfl ?_
      have hd : ∀ x ∈ l.drop (l.length - 2), 0 ≤ x ∧ x < 256 := fun x hx => hb x (List.mem_of_mem_drop hx)
      rw [str_eq _ _ (chk_range _) hd, decide_eq_true h2, Bool.true_and, Bool.eq_iff_iff]
      have := right_eq (l.take (l.length - 2)) (l.drop (l.length - 2)) (by rw [List.length_drop]; omega) hd
      rw [List.take_append_drop] at this
      simp only [beq_iff_eq, decide_eq_true_eq]
      exact this.symm
  · refine Ev.congr (fun k => if_neg (by omega)) ?_
    rw [decide_eq_false h2, Bool.false_and]
    exact Ev.now _

/-- What stands between two flags, judged. -/
def rightP (p : List Int) : Bool := decide (2 ≤ p.length) && decide (Crc.crc (bitsOf p) = 61624)
def judgedP (p : List Int) : List Int × Int := if p.length < 5 then ([], 5) else if 279 < p.length then ([], 6) else if rightP p = true then (p.take (p.length - 2), 0) else ([], 7)
def judged (t : List Bool) : List Int × Int :=
  if (bared 0 t).2 = 0 then (if (bared 0 t).1.length % 8 = 0 then judgedP (octs ((bared 0 t).1.length / 8) (bared 0 t).1) else ([], 8)) else ([], 4)
theorem bared_len_ (t : List Bool) : ∀ n, (bared n t).1.length ≤ t.length := by
  induction t with
  | nil => intro n; simp only [bared]; split <;> exact Nat.le_refl _
  | cons b t ih =>
    intro n
    simp only [bared, List.length_cons]
    have h0 := ih 0
    have h1 := ih (if b = true then n + 1 else 0)
    generalize bared (if b = true then n + 1 else 0) t = r at *
    split
    · split
      · exact Nat.zero_le _
      · omega
    · split
      · simp only [List.length_cons]; omega
      · exact Nat.zero_le _
theorem Judge_ev (t : List Bool) (ht : t.length ≤ 1000000) : Ev (fun k => flag_Judge.f k t) (judged t) := by
  have hl := bared_len_ t 0
  unfold flag_Judge.f judged
  refine Ev.bind (Take_ev t (by omega)) ?_
  generalize bared 0 t = r at *
  by_cases h : r.2 = 0
  · simp only [if_pos h]
    refine Ev.bind (Octets_ev r.1 (by omega)) ?_
    by_cases h8 : r.1.length % 8 = 0
    · simp only [if_pos h8, if_true]
      have hp := octs_length (r.1.length / 8) r.1
      have hb := octs_range (r.1.length / 8) r.1
      generalize octs (r.1.length / 8) r.1 = p at *
      unfold judgedP
      by_cases h5 : p.length < 5
      · simp only [if_pos h5, if_pos (show (p.length : Int) < 5 by omega)]
        exact Ev.now _
      · simp only [if_neg h5, if_neg (show ¬ (p.length : Int) < 5 by omega)]
        by_cases h9 : 279 < p.length
        · simp only [if_pos h9, if_pos (show (p.length : Int) > 279 by omega)]
          exact Ev.now _
        · simp only [if_neg h9, if_neg (show ¬ (p.length : Int) > 279 by omega)]
          refine Ev.bind (Right_ev p (by omega) hb) ?_
          unfold rightP
          have ew : wrap64 ((p.length : Int) - 2) = ((p.length - 2 : Nat) : Int) := by unfold wrap64; omega
          simp only [ew, if_pos (show 0 ≤ ((p.length - 2 : Nat) : Int) by omega), if_pos (show ((p.length - 2 : Nat) : Int) ≤ (p.length : Int) by omega), Int.toNat_natCast]
          by_cases hr : (decide (2 ≤ p.length) && decide (Crc.crc (bitsOf p) = 61624)) = true
          · simp only [if_pos hr]
            exact Ev.now _
          · simp only [if_neg hr]
            exact Ev.now _
    · simp only [if_neg h8, if_neg (show ¬ (8 : Int) = 0 by decide)]
      exact Ev.now _
  · simp only [if_neg h]
    exact Ev.now _
/-- One bound on the rounds for all lists up to a length. -/
theorem unif : ∀ (n : Nat) (Q : List Bool → Nat → Prop), (∀ t, t.length ≤ n → ∃ K, ∀ k, K ≤ k → Q t k) → ∃ K, ∀ t, t.length ≤ n → ∀ k, K ≤ k → Q t k := by
  intro n
  induction n with
  | zero =>
    intro Q h
    obtain ⟨K, hK⟩ := h [] (Nat.le_refl _)
    refine ⟨K, fun t ht k hk => ?_⟩
    obtain rfl : t = [] := List.eq_nil_of_length_eq_zero (by omega)
    exact hK k hk
  | succ n ih =>
    intro Q h
    obtain ⟨K, hK⟩ := h [] (Nat.zero_le _)
    obtain ⟨K1, h1⟩ := ih (fun t => Q (true :: t)) (fun t ht => h (true :: t) (by simp; omega))
    obtain ⟨K2, h2⟩ := ih (fun t => Q (false :: t)) (fun t ht => h (false :: t) (by simp; omega))
    refine ⟨max K (max K1 K2), fun t ht k hk => ?_⟩
    cases t with
    | nil => exact hK k (by omega)
    | cons b t =>
      simp only [List.length_cons] at ht
      cases b with
      | true => exact h1 t (by omega) k (by omega)
      | false => exact h2 t (by omega) k (by omega)
theorem Judge_all : ∃ K, ∀ t : List Bool, t.length ≤ 3000 → ∀ k, K ≤ k → flag_Judge.f k t = some (judged t) := unif 3000 (fun t k => flag_Judge.f k t = some (judged t)) (fun t ht => Judge_ev t (by omega))
theorem Full_ev : ∃ K, ∀ k, K ≤ k → signalmanlaw05_awake.Full k := by
  obtain ⟨K, h⟩ := Judge_all
  exact ⟨max K 200, fun k hk => ⟨by omega, fun t ht => ⟨_, h t ht k (by omega)⟩⟩⟩
theorem Awake_ev : Ev (fun k => signalmanlaw05_awake.f k) true := by
  obtain ⟨K, h⟩ := Full_ev
  refine ⟨K, fun k hk => ?_⟩
  exact (signalmanlaw05_awake.f_full k).2 (h k hk)

theorem RefJudge_ev (t : List Bool) (ht : t.length ≤ 1000000) : Ev (fun k => signalmanref01_Judge.f k t) (judged t) := by
  have hl := bared_len_ t 0
  unfold signalmanref01_Judge.f judged
  refine Ev.bind (RefTake_ev t (by omega)) ?_
  generalize bared 0 t = r at *
  by_cases h : r.2 = 0
  · simp only [if_pos h]
    by_cases h8 : r.1.length % 8 = 0
    · have ew : wrap64 ((r.1.length : Int) / 8) = ((r.1.length / 8 : Nat) : Int) := by unfold wrap64; omega
      have ew2 : wrap64 (((r.1.length / 8 : Nat) : Int) - 2) = ((r.1.length / 8 : Nat) : Int) - 2 := by unfold wrap64; omega
      simp only [if_pos h8, if_pos (show ((r.1.length : Int) % 8) = 0 by omega), ew, ew2]
      have hp := octs_length (r.1.length / 8) r.1
      have hb := octs_range (r.1.length / 8) r.1
      have hre := RefOctets_ev r.1 (by omega)
      generalize hn : r.1.length / 8 = n at *
      generalize octs n r.1 = p at *
      unfold judgedP
      rw [hp]
      by_cases h5 : n < 5
      · simp only [if_pos h5, if_pos (show (n : Int) < 5 by omega)]
        exact Ev.now _
      · simp only [if_neg h5, if_neg (show ¬ (n : Int) < 5 by omega)]
        by_cases h9 : 279 < n
        · simp only [if_pos h9, if_pos (show (n : Int) > 279 by omega)]
          exact Ev.now _
        · simp only [if_neg h9, if_neg (show ¬ (n : Int) > 279 by omega)]
          refine Ev.bind hre ?_
          refine Ev.bind (RefRight_ev p (by omega) hb) ?_
          unfold rightP
          by_cases hr : (decide (2 ≤ p.length) && decide (Crc.crc (bitsOf p) = 61624)) = true
          · simp only [if_pos hr, if_pos (show 0 ≤ (n : Int) - 2 by omega), if_pos (show (n : Int) - 2 ≤ (p.length : Int) by omega)]
            have e : ((n : Int) - 2).toNat = n - 2 := by omega
            rw [e]
            exact Ev.now _
          · simp only [if_neg hr]
            exact Ev.now _
    · simp only [if_neg h8, if_neg (show ¬ ((r.1.length : Int) % 8) = 0 by omega)]
      exact Ev.now _
  · simp only [if_neg h]
    exact Ev.now _

def flagBits : List Bool := [false, true, true, true, true, true, true, false]
theorem stuffed_len (t : List Bool) : ∀ n, (stuffed n t).length ≤ 2 * t.length := by
  induction t with
  | nil => intro n; simp [stuffed]
  | cons b t ih =>
    intro n
    have h0 := ih 0
    have h1 := ih (n + 1)
    simp only [stuffed, List.length_cons]
    repeat' split
    all_goals (simp only [List.length_cons] at *; omega)
theorem whole_range (q : List Int) (hb : ∀ x ∈ q, 0 ≤ x ∧ x < 256) : ∀ x ∈ q ++ chk q, 0 ≤ x ∧ x < 256 := by
  intro x hx
  rcases List.mem_append.1 hx with h | h
  · exact hb x h
  · exact chk_range q x h
theorem unit_len (q : List Int) (hq : q.length ≤ 1000) : (stuffed 0 (bitsOf (q ++ chk q))).length ≤ 20000 := by
  have h1 := stuffed_len (bitsOf (q ++ chk q)) 0
  have h2 := bitsOf_length (q ++ chk q)
  rw [List.length_append, chk_length] at h2
  omega
theorem Frame_ev (q : List Int) (hq : q.length ≤ 1000) (hb : ∀ x ∈ q, 0 ≤ x ∧ x < 256) : Ev (fun k => flag_Frame.f k q) (if q.length < 3 then ([], 5) else if 277 < q.length then ([], 6) else (stuffed 0 (bitsOf (q ++ chk q)) ++ flagBits, 0)) := by
  unfold flag_Frame.f
  have ew : wrap64 ((q.length : Int) + 2) = ((q.length + 2 : Nat) : Int) := by unfold wrap64; omega
  have hu := unit_len q hq
  by_cases h3 : q.length < 3
  · simp only [ew, if_pos h3, if_pos (show ((q.length + 2 : Nat) : Int) < 5 by omega)]
    exact Ev.now _
  · by_cases h9 : 277 < q.length
    · simp only [ew, if_neg h3, if_pos h9, if_neg (show ¬ ((q.length + 2 : Nat) : Int) < 5 by omega), if_pos (show ((q.length + 2 : Nat) : Int) > 279 by omega)]
      exact Ev.now _
    · simp only [ew, if_neg h3, if_neg h9, if_neg (show ¬ ((q.length + 2 : Nat) : Int) < 5 by omega), if_neg (show ¬ ((q.length + 2 : Nat) : Int) > 279 by omega)]
      refine Ev.bind (With_ev q (by omega) hb) ?_
      refine Ev.bind (Of_ev (q ++ chk q) (by rw [List.length_append, chk_length]; omega) (whole_range q hb)) ?_
      refine Ev.bind (Put_ev (bitsOf (q ++ chk q)) (by rw [bitsOf_length, List.length_append, chk_length]; omega)) ?_
      refine Ev.bind (show Ev (fun _ => flag_Flag.f) flagBits from Ev.now _) ?_
      have hf : flagBits.length = 8 := rfl
      simp only [hf, if_pos (show (stuffed 0 (bitsOf (q ++ chk q))).length + 8 < 140737488355328 by omega)]
      exact Ev.now _
theorem RefFrame_ev (q : List Int) (hq : q.length ≤ 1000) (hb : ∀ x ∈ q, 0 ≤ x ∧ x < 256) : Ev (fun k => signalmanref01_Frame.f k q) (stuffed 0 (bitsOf (q ++ chk q)) ++ flagBits) := by
  unfold signalmanref01_Frame.f
  have hu := unit_len q hq
  refine Ev.bind (RefWhole_ev q (by omega) hb) ?_
  refine Ev.bind (RefBits_ev (q ++ chk q) (by rw [List.length_append, chk_length]; omega) (whole_range q hb)) ?_
  refine Ev.bind (RefPut_ev (bitsOf (q ++ chk q)) (by rw [bitsOf_length, List.length_append, chk_length]; omega)) ?_
  refine Ev.bind (show Ev (fun _ => signalmanref01_Flag.f) flagBits from Ev.now _) ?_
  have hf : flagBits.length = 8 := rfl
  simp only [hf, if_pos (show (stuffed 0 (bitsOf (q ++ chk q))).length + 8 < 140737488355328 by omega)]
  exact Ev.now _
theorem judged_unit (q : List Int) (h3 : 3 ≤ q.length) (h9 : q.length ≤ 277) (hb : ∀ x ∈ q, 0 ≤ x ∧ x < 256) : judged (stuffed 0 (bitsOf (q ++ chk q))) = (q, 0) := by
  have hlen : (q ++ chk q).length = q.length + 2 := by rw [List.length_append, chk_length]
  have hbl := bitsOf_length (q ++ chk q)
  unfold judged
  rw [bared_stuffed _ 0 (by omega)]
  simp only [if_true]
  rw [if_pos (by omega)]
  have e8 : (bitsOf (q ++ chk q)).length / 8 = (q ++ chk q).length := by omega
  rw [e8, octs_bits' _ (whole_range q hb)]
  unfold judgedP
  rw [if_neg (by omega), if_neg (by omega)]
  have hr : rightP (q ++ chk q) = true := by
    unfold rightP
    rw [Bool.and_eq_true]
    exact ⟨decide_eq_true (by omega), decide_eq_true ((right_eq q (chk q) (chk_length q) (chk_range q)).2 rfl)⟩
  rw [if_pos hr]
  have et : (q ++ chk q).take ((q ++ chk q).length - 2) = q := by rw [show (q ++ chk q).length - 2 = q.length by omega]; exact List.take_left
  rw [et]

def shortP (ll : List (List Int)) : Bool := ll.all (fun q => decide (q.length ≤ 60)) && decide (ll.length ≤ 12)
theorem rd_L2_nat (ll : List (List Int)) (i : Nat) (h : i < ll.length) : rd_L2 ll (i : Int) = ll[i] := by
  simp [rd_L2, List.getD_eq_getElem?_getD, List.getElem?_eq_getElem h]
theorem Short_in (ll : List (List Int)) (hl : ll.length ≤ 9223372036854775807) : ∀ d i, i + d = ll.length → (∀ j (hj : j < ll.length), j < i → ll[j].length ≤ 60) → Ev (fun k => signalmanlaw05_short.l0 k ll (i : Int)) (shortP ll) := by
  intro d
  induction d with
  | zero =>
    intro i hi h
    obtain rfl : i = ll.length := by omega
    refine Ev.step (f := fun k => some (shortP ll)) (fun k => ?_) (Ev.now _)
    simp only [signalmanlaw05_short.l0]
    rw [if_neg (by omega)]
    have : ll.all (fun q => decide (q.length ≤ 60)) = true := by
      rw [List.all_eq_true]
      intro q hq
      obtain ⟨j, hj, rfl⟩ := List.getElem_of_mem hq
      exact decide_eq_true (h j hj hj)
    unfold shortP
    rw [this, Bool.true_and]
    congr 1
    exact decide_eq_decide.2 (by omega)
  | succ d ih =>
    intro i hi h
    have hlt : i < ll.length := by omega
    by_cases h6 : ll[i].length ≤ 60
    · have ih := ih (i + 1) (by omega) (fun j hj hji => by
        by_cases e : j = i
        · subst e; exact h6
        · exact h j hj (by omega))
      refine Ev.step (f := fun k => signalmanlaw05_short.l0 k ll ((i + 1 : Nat) : Int)) (fun k => ?_) ih
      simp only [signalmanlaw05_short.l0]
      rw [if_pos (by omega), if_pos (by omega), rd_L2_nat ll i hlt, if_neg (by omega), w64s i (by omega)]
    · have e : shortP ll = false := by
        unfold shortP
        rw [show ll.all (fun q => decide (q.length ≤ 60)) = false from by
          rw [List.all_eq_false]
          exact ⟨ll[i], List.getElem_mem _, by simpa using h6⟩]
        rfl
      rw [e]
      refine Ev.step (f := fun k => some false) (fun k => ?_) (Ev.now _)
      simp only [signalmanlaw05_short.l0]
      rw [if_pos (by omega), if_pos (by omega), rd_L2_nat ll i hlt, if_pos (by omega)]
theorem Short_ev (ll : List (List Int)) (hl : ll.length ≤ 9223372036854775807) : Ev (fun k => signalmanlaw05_short.f k ll) (shortP ll) :=
  Short_in ll hl ll.length 0 (by omega) (fun j _ h => absurd h (Nat.not_lt_zero j))
theorem short_spec {ll : List (List Int)} (h : shortP ll = true) : ll.length ≤ 12 ∧ ∀ i (hi : i < ll.length), ll[i].length ≤ 60 := by
  unfold shortP at h
  rw [Bool.and_eq_true, List.all_eq_true] at h
  exact ⟨of_decide_eq_true h.2, fun i hi => of_decide_eq_true (h.1 _ (List.getElem_mem hi))⟩
/-- One bound on the rounds for few things. -/
theorem all_ev (n : Nat) (Q : Nat → Nat → Prop) (h : ∀ i, i < n → ∃ K, ∀ k, K ≤ k → Q i k) : ∃ K, ∀ k, K ≤ k → ∀ i, i < n → Q i k := by
  induction n with
  | zero => exact ⟨0, fun k _ i hi => absurd hi (Nat.not_lt_zero i)⟩
  | succ n ih =>
    obtain ⟨K, hK⟩ := ih (fun i hi => h i (by omega))
    obtain ⟨L, hL⟩ := h n (by omega)
    refine ⟨max K L, fun k hk i hi => ?_⟩
    by_cases e : i = n
    · subst e; exact hL k (by omega)
    · exact hK k (by omega) i (by omega)

/-- It ends in an answer, and of that something is known. -/
def EvP {α : Type} (g : Nat → Option α) (Q : α → Prop) : Prop := ∃ r, Ev g r ∧ Q r
theorem EvP.step {α : Type} {g f : Nat → Option α} {Q : α → Prop} (h : ∀ k, g (k + 1) = f k) (k : EvP f Q) : EvP g Q := by
  obtain ⟨r, h1, h2⟩ := k
  exact ⟨r, Ev.step h h1, h2⟩
theorem EvP.bind {α β : Type} {g : Nat → Option α} {f : Nat → α → Option β} {a : α} {Q : β → Prop} (h : Ev g a) (k : EvP (fun n => f n a) Q) : EvP (fun n => (g n).bind (f n)) Q := by
  obtain ⟨r, h1, h2⟩ := k
  exact ⟨r, Ev.bind h h1, h2⟩
theorem tmod_nat (h m : Nat) (hh : h < 256) : Int.tmod (wrap64 (h : Int)) (m : Int) = ((h % m : Nat) : Int) := by
  have e1 : wrap64 (h : Int) = (h : Int) := by unfold wrap64; omega
  rw [e1, Int.tmod_eq_emod_of_nonneg (by omega)]
  omega
theorem Stream_ones (ll : List (List Int)) (p how : List Int) (acc : List Bool) (i h : Nat) (hh : h < 256) (ha : acc.length ≤ 1000000) (hi : i < 1000000) (Q : List Bool → Prop)
    (ih : ∀ acc' : List Bool, acc'.length ≤ acc.length + 5000 → EvP (fun k => signalmanlaw05_stream.l0 k ll p how acc' ((i + 1 : Nat) : Int)) Q) :
    ∀ d j (f : List Bool), j + d = 7 + h % 150 → f.length ≤ 1000 + j → EvP (fun k => signalmanlaw05_stream.l1 k ll p how acc (i : Int) (h : Int) f (j : Int)) Q := by
  have e7 : wrap64 (7 + Int.tmod (wrap64 (h : Int)) 150) = ((7 + h % 150 : Nat) : Int) := by
    have := tmod_nat h 150 hh
    rw [show ((150 : Nat) : Int) = 150 from rfl] at this
    rw [this]
    unfold wrap64; omega
  intro d
  induction d with
  | zero =>
    intro j f hj hf
    refine EvP.step (f := fun k => signalmanlaw05_stream.l0 k ll p how (acc ++ f) ((i + 1 : Nat) : Int)) (fun k => ?_) (ih _ (by rw [List.length_append]; omega))
    simp only [signalmanlaw05_stream.l1, e7]
    rw [if_neg (by omega), if_pos (by omega), w64s i (by omega)]
  | succ d ihd =>
    intro j f hj hf
    refine EvP.step (f := fun k => signalmanlaw05_stream.l1 k ll p how acc (i : Int) (h : Int) (f ++ [true]) ((j + 1 : Nat) : Int)) (fun k => ?_) (ihd (j + 1) (f ++ [true]) (by omega) (by rw [List.length_append, List.length_singleton]; omega))
    simp only [signalmanlaw05_stream.l1, e7]
    rw [if_pos (by omega), if_pos (by omega), w64s j (by omega)]
theorem Stream_one (ll : List (List Int)) (p how : List Int) (acc : List Bool) (i h : Nat) (hh : h < 256) (hlt : i < ll.length) (hq : ll[i].length ≤ 60) (hqb : ∀ x ∈ ll[i], 0 ≤ x ∧ x < 256) (hp : p.length ≤ 200) (hpb : ∀ x ∈ p, 0 ≤ x ∧ x < 256) (ha : acc.length ≤ 1000000) (hi : i < 1000000) (Q : List Bool → Prop)
    (ih : ∀ acc' : List Bool, acc'.length ≤ acc.length + 5000 → EvP (fun k => signalmanlaw05_stream.l0 k ll p how acc' ((i + 1 : Nat) : Int)) Q) :
    EvP (fun k => signalmanlaw05_stream.j1 k ll p how acc (i : Int) (h : Int)) Q := by
  have hfr := RefFrame_ev ll[i] (by omega) hqb
  have hlen : 8 ≤ (stuffed 0 (bitsOf (ll[i] ++ chk ll[i])) ++ flagBits).length ∧ (stuffed 0 (bitsOf (ll[i] ++ chk ll[i])) ++ flagBits).length ≤ 1000 := by
    have h1 := stuffed_len (bitsOf (ll[i] ++ chk ll[i])) 0
    rw [bitsOf_length, List.length_append, chk_length] at h1
    rw [List.length_append, show flagBits.length = 8 from rfl]
    omega
  generalize stuffed 0 (bitsOf (ll[i] ++ chk ll[i])) ++ flagBits = fr at hfr hlen
  have ew := w64s i (by omega)
  have em : Int.tmod (h : Int) 6 = ((h % 6 : Nat) : Int) := by rw [Int.tmod_eq_emod_of_nonneg (by omega)]; omega
  refine EvP.step (f := fun k => _) (fun k => by simp only [signalmanlaw05_stream.j1, if_pos (show 0 ≤ (i : Int) by omega), if_pos (show (i : Int) < (ll.length : Int) by omega), rd_L2_nat ll i hlt]; rfl) ?_
  refine EvP.bind hfr ?_
  have et := tmod_nat h fr.length hh
  have hmod := Nat.mod_lt h (show fr.length > 0 by omega)
  simp only [em, et, ew]
  by_cases h1 : h % 6 = 1
  · simp only [if_pos (show ((h % 6 : Nat) : Int) = 1 by omega), if_neg (show ¬ (fr.length : Int) = 0 by omega), if_pos (show 0 ≤ ((h % fr.length : Nat) : Int) by omega), if_pos (show ((h % fr.length : Nat) : Int) < (fr.length : Int) by omega), Option.bind_some, List.length_set, if_pos (show acc.length + fr.length < 140737488355328 by omega)]
    exact ih _ (by rw [List.length_append, List.length_set]; omega)
  by_cases h2 : h % 6 = 2
  · simp only [if_neg (show ¬ ((h % 6 : Nat) : Int) = 1 by omega), if_pos (show ((h % 6 : Nat) : Int) = 2 by omega)]
    refine EvP.bind (show Ev (fun _ => signalmanref01_Flag.f) flagBits from Ev.now _) ?_
    have hf : flagBits.length = 8 := rfl
    simp only [hf, if_pos (show 8 + fr.length < 140737488355328 by omega), Option.bind_some, List.length_append, if_pos (show acc.length + (8 + fr.length) < 140737488355328 by omega)]
    exact ih _ (by rw [List.length_append, List.length_append]; omega)
  by_cases h3 : h % 6 = 3
  · simp only [if_neg (show ¬ ((h % 6 : Nat) : Int) = 1 by omega), if_neg (show ¬ ((h % 6 : Nat) : Int) = 2 by omega), if_pos (show ((h % 6 : Nat) : Int) = 3 by omega)]
    refine EvP.bind (RefBits_ev p (by omega) hpb) ?_
    simp only [bitsOf_length, if_pos (show 8 * p.length + fr.length < 140737488355328 by omega), Option.bind_some, List.length_append, if_pos (show acc.length + (8 * p.length + fr.length) < 140737488355328 by omega)]
    exact ih _ (by rw [List.length_append, List.length_append, bitsOf_length]; omega)
  by_cases h4 : h % 6 = 4
  · simp only [if_neg (show ¬ ((h % 6 : Nat) : Int) = 1 by omega), if_neg (show ¬ ((h % 6 : Nat) : Int) = 2 by omega), if_neg (show ¬ ((h % 6 : Nat) : Int) = 3 by omega), if_pos (show ((h % 6 : Nat) : Int) = 4 by omega)]
    exact Stream_ones ll p how acc i h hh ha hi Q ih (7 + h % 150) 0 fr (by omega) (by omega)
  by_cases h5 : h % 6 = 5
  · have es : wrap64 ((fr.length : Int) - ((h % fr.length : Nat) : Int)) = ((fr.length - h % fr.length : Nat) : Int) := by unfold wrap64; omega
    simp only [es]
    simp only [if_neg (show ¬ ((h % 6 : Nat) : Int) = 1 by omega), if_neg (show ¬ ((h % 6 : Nat) : Int) = 2 by omega), if_neg (show ¬ ((h % 6 : Nat) : Int) = 3 by omega), if_neg (show ¬ ((h % 6 : Nat) : Int) = 4 by omega), if_pos (show ((h % 6 : Nat) : Int) = 5 by omega), if_neg (show ¬ (fr.length : Int) = 0 by omega), if_pos (show 0 ≤ ((fr.length - h % fr.length : Nat) : Int) by omega), if_pos (show ((fr.length - h % fr.length : Nat) : Int) ≤ (fr.length : Int) by omega), Option.bind_some, Int.toNat_natCast, List.length_take, if_pos (show acc.length + min (fr.length - h % fr.length) fr.length < 140737488355328 by omega)]
    exact ih _ (by rw [List.length_append, List.length_take]; omega)
  · simp only [if_neg (show ¬ ((h % 6 : Nat) : Int) = 1 by omega), if_neg (show ¬ ((h % 6 : Nat) : Int) = 2 by omega), if_neg (show ¬ ((h % 6 : Nat) : Int) = 3 by omega), if_neg (show ¬ ((h % 6 : Nat) : Int) = 4 by omega), if_neg (show ¬ ((h % 6 : Nat) : Int) = 5 by omega), if_pos (show acc.length + fr.length < 140737488355328 by omega)]
    exact ih _ (by rw [List.length_append]; omega)
set_option maxRecDepth 100000 in
theorem Stream_in (ll : List (List Int)) (p how : List Int) (hl : ll.length ≤ 12) (hq : ∀ i (hi : i < ll.length), ll[i].length ≤ 60) (hqb : ∀ q ∈ ll, ∀ x ∈ q, 0 ≤ x ∧ x < 256) (hp : p.length ≤ 200) (hpb : ∀ x ∈ p, 0 ≤ x ∧ x < 256) (hhb : ∀ x ∈ how, 0 ≤ x ∧ x < 256) :
    ∀ d i (acc : List Bool), i + d = ll.length → acc.length ≤ 8 + 5000 * i → EvP (fun k => signalmanlaw05_stream.l0 k ll p how acc (i : Int)) (fun t => t.length ≤ 100000) := by
  intro d
  induction d with
  | zero =>
    intro i acc hi ha
    refine ⟨acc, Ev.step (f := fun k => some acc) (fun k => ?_) (Ev.now _), by omega⟩
    simp only [signalmanlaw05_stream.l0]
    rw [if_neg (by omega)]
  | succ d ihd =>
    intro i acc hi ha
    have ih : ∀ acc' : List Bool, acc'.length ≤ acc.length + 5000 → EvP (fun k => signalmanlaw05_stream.l0 k ll p how acc' ((i + 1 : Nat) : Int)) (fun t => t.length ≤ 100000) := fun acc' h => ihd (i + 1) acc' (by omega) (by omega)
    by_cases hh : i < how.length
    · have hb := hhb how[i] (List.getElem_mem hh)
      obtain ⟨h, hh'⟩ := Int.eq_ofNat_of_zero_le hb.1
      have := Stream_one ll p how acc i h (by omega) (by omega) (hq i (by omega)) (hqb _ (List.getElem_mem (by omega))) hp hpb (by omega) (by omega) _ ih
      rw [← hh'] at this
      refine EvP.step (f := fun k => signalmanlaw05_stream.j1 k ll p how acc (i : Int) how[i]) (fun k => ?_) this
      simp only [signalmanlaw05_stream.l0]
      rw [if_pos (by omega), if_pos (by omega), if_pos (by omega), rd_nat how i hh]
    · have := Stream_one ll p how acc i 0 (by omega) (by omega) (hq i (by omega)) (hqb _ (List.getElem_mem (by omega))) hp hpb (by omega) (by omega) _ ih
      refine EvP.step (f := fun k => signalmanlaw05_stream.j1 k ll p how acc (i : Int) 0) (fun k => ?_) this
      simp only [signalmanlaw05_stream.l0]
      rw [if_pos (by omega), if_neg (by omega)]
theorem Stream_ev (ll : List (List Int)) (p how : List Int) (hl : ll.length ≤ 12) (hq : ∀ i (hi : i < ll.length), ll[i].length ≤ 60) (hqb : ∀ q ∈ ll, ∀ x ∈ q, 0 ≤ x ∧ x < 256) (hp : p.length ≤ 200) (hpb : ∀ x ∈ p, 0 ≤ x ∧ x < 256) (hhb : ∀ x ∈ how, 0 ≤ x ∧ x < 256) :
    ∃ t : List Bool, t.length ≤ 100000 ∧ Ev (fun k => signalmanlaw05_stream.f k ll p how) t := by
  obtain ⟨t, h1, h2⟩ := Stream_in ll p how hl hq hqb hp hpb hhb ll.length 0 flagBits (by omega) (by show 8 ≤ 8 + 5000 * 0; omega)
  refine ⟨t, h2, ?_⟩
  unfold signalmanlaw05_stream.f
  exact Ev.bind (show Ev (fun _ => signalmanref01_Flag.f) flagBits from Ev.now _) h1

/-- What judges, as the machine wants it. -/
def JJ (t : List Bool) : Option (List Int) := if (judged t).2 = 0 then some (judged t).1 else none
theorem runF_from (J : List Bool → Option (List Int)) : ∀ (b : List Bool) (s : Ear.St) (o : List (Int × List Int)), b.foldl (fun a on => ((Ear.bitF J a.1 on).1, a.2 ++ (Ear.bitF J a.1 on).2.toList)) (s, o) = ((Ear.runF J s b).1, o ++ (Ear.runF J s b).2) := by
  intro b
  induction b with
  | nil => intro s o; simp [Ear.runF]
  | cons x b ih =>
    intro s o
    have h1 := ih (Ear.bitF J s x).1 (o ++ (Ear.bitF J s x).2.toList)
    have h2 := ih (Ear.bitF J s x).1 ([] ++ (Ear.bitF J s x).2.toList)
    unfold Ear.runF
    rw [List.foldl_cons, List.foldl_cons, h1, h2]
    simp
theorem runF_append (J : List Bool → Option (List Int)) (s : Ear.St) (a b : List Bool) : Ear.runF J s (a ++ b) = ((Ear.runF J (Ear.runF J s a).1 b).1, (Ear.runF J s a).2 ++ (Ear.runF J (Ear.runF J s a).1 b).2) := by
  conv => lhs; unfold Ear.runF
  rw [List.foldl_append]
  exact runF_from J b _ _
theorem runF_cons (J : List Bool → Option (List Int)) (s : Ear.St) (x : Bool) (b : List Bool) : Ear.runF J s (x :: b) = ((Ear.runF J (Ear.bitF J s x).1 b).1, (Ear.bitF J s x).2.toList ++ (Ear.runF J (Ear.bitF J s x).1 b).2) := by
  have h := runF_append J s [x] b
  have e : Ear.runF J s [x] = ((Ear.bitF J s x).1, (Ear.bitF J s x).2.toList) := by simp [Ear.runF]
  rw [List.singleton_append, e] at h
  exact h
theorem bitF_same (J1 J2 : List Bool → Option (List Int)) (h : ∀ t : List Bool, t.length ≤ 3000 → J1 t = J2 t) (s : Ear.St) (hI : Ear.Inv s) (b : Bool) : Ear.bitF J1 s b = Ear.bitF J2 s b := by
  have hf : s.found = true → Ear.flagF J1 (s.inb ++ [false]) = Ear.flagF J2 (s.inb ++ [false]) := fun e => by
    have := hI.found e
    unfold Ear.flagF
    rw [h _ (by rw [List.length_take, List.length_append, List.length_singleton]; omega)]
  unfold Ear.bitF
  by_cases e : s.found = true
  · rw [if_pos e, if_pos e, hf e]
  · rw [if_neg e, if_neg e]
theorem runF_same (J1 J2 : List Bool → Option (List Int)) (h : ∀ t : List Bool, t.length ≤ 3000 → J1 t = J2 t) : ∀ (t : List Bool) (s : Ear.St), Ear.Inv s → Ear.runF J1 s t = Ear.runF J2 s t := by
  intro t
  induction t with
  | nil => intro s _; rfl
  | cons x t ih =>
    intro s hI
    rw [runF_cons, runF_cons, bitF_same J1 J2 h s hI x, ih _ (hI.step x)]
def toS (i : Nat) : Option (Int × List Int) → List S61
  | none => []
  | some h => [⟨h.1, h.2, (i : Int)⟩]
/-- What is heard, with how many bits there were. -/
def traceF : Ear.St → Nat → List Bool → List S61
  | _, _, [] => []
  | s, i, b :: t => toS (i + 1) (Ear.bitF JJ s b).2 ++ traceF (Ear.bitF JJ s b).1 (i + 1) t
theorem toS_map (i : Nat) (o : Option (Int × List Int)) : (toS i o).map (fun x => (x.f0, x.f1)) = o.toList := by cases o <;> rfl
theorem toS_len (i : Nat) (o : Option (Int × List Int)) : (toS i o).length ≤ 1 := by cases o <;> simp [toS]
theorem trace_out : ∀ (t : List Bool) (s : Ear.St) (i : Nat), (Ear.runF JJ s t).2 = (traceF s i t).map (fun x => (x.f0, x.f1)) := by
  intro t
  induction t with
  | nil => intro s i; rfl
  | cons x t ih =>
    intro s i
    rw [runF_cons]
    show _ ++ _ = (toS (i + 1) _ ++ _).map _
    rw [List.map_append, toS_map, ih _ (i + 1)]
theorem trace_len : ∀ (t : List Bool) (s : Ear.St) (i : Nat), (traceF s i t).length ≤ t.length := by
  intro t
  induction t with
  | nil => intro s i; exact Nat.le_refl _
  | cons x t ih =>
    intro s i
    show (toS (i + 1) _ ++ _).length ≤ _
    have h1 := toS_len (i + 1) (Ear.bitF JJ s x).2
    have h2 := ih (Ear.bitF JJ s x).1 (i + 1)
    rw [List.length_append, List.length_cons]
    omega
/-- The reference's variables, and the machine. -/
structure Rel (t : List Bool) (i frm ones : Nat) (lost : Bool) (s : Ear.St) : Prop where
  found : s.found = !lost
  ones : s.ones = ones
  le : frm ≤ i
  inb : lost = false → s.inb = (t.take i).drop frm
  n : lost = true → frm + s.n = i
  inv : Ear.Inv s
theorem Hear_step (t : List Bool) (ht : t.length ≤ 1000000) (i frm ones : Nat) (lost : Bool) (s : Ear.St) (l : List S61) (hi : i < t.length) (R : Rel t i frm ones lost s) (ho : ones ≤ i) (hl : l.length ≤ i) :
    ∃ frm' ones' lost', Rel t (i + 1) frm' ones' lost' (Ear.bitF JJ s t[i]).1 ∧ ones' ≤ i + 1 ∧ ∀ r, Ev (fun k => signalmanref01_Hear.l0 k t (l ++ toS (i + 1) (Ear.bitF JJ s t[i]).2) lost' (frm' : Int) (ones' : Int) ((i + 1 : Nat) : Int)) r → Ev (fun k => signalmanref01_Hear.l0 k t l lost (frm : Int) (ones : Int) (i : Int)) r := by
  obtain ⟨hf, hon, hle, hin, hn, hI⟩ := R
  have hI' := hI.step (J := JJ) t[i]
  have ei := w64s i (by omega)
  have eo := w64s ones (by omega)
  have ed : wrap64 (((i + 1 : Nat) : Int) - (frm : Int)) = ((i + 1 - frm : Nat) : Int) := by unfold wrap64; omega
  have erd := rdOf_nat false t i hi
  have hsuc : t.take (i + 1) = t.take i ++ [t[i]] := List.take_succ_eq_append_getElem hi
  have p0 : 0 ≤ (i : Int) := by omega
  have p1 : (i : Int) < (t.length : Int) := by omega
  generalize t[i] = x at hI' erd hsuc ⊢
  cases lost with
  | true =>
    have hf : s.found = false := hf
    have hn := hn rfl
    have hib := hI.lost hf
    cases x with
    | true =>
      by_cases h8 : s.n + 1 = 128
      · have eb : Ear.bitF JJ s true = (⟨s.inb, s.ones + 1, false, 0⟩, some (2, [])) := by simp only [Ear.bitF, hf, Bool.false_eq_true, if_false, if_true, h8]
        rw [eb] at hI' ⊢
        refine ⟨i + 1, ones + 1, true, ⟨rfl, by show s.ones + 1 = ones + 1; omega, Nat.le_refl _, fun h => by simp at h, fun _ => rfl, hI'⟩, by omega, fun r hr => ?_⟩
        refine Ev.step (f := fun k => signalmanref01_Hear.j1 k t l true (frm : Int) ((ones + 1 : Nat) : Int) (i : Int) false) (fun k => by simp only [signalmanref01_Hear.l0, if_pos p1, if_pos p0, erd, if_true, eo]) ?_
        refine Ev.step (fun k => ?_) hr
        simp only [signalmanref01_Hear.j1, Bool.false_eq_true, if_false, if_true, ei, ed]
        rw [if_pos (by omega), if_pos (by omega)]
        rfl
      · have eb : Ear.bitF JJ s true = (⟨s.inb, s.ones + 1, false, s.n + 1⟩, none) := by simp only [Ear.bitF, hf, Bool.false_eq_true, if_false, if_true, h8]
        rw [eb] at hI' ⊢
        refine ⟨frm, ones + 1, true, ⟨rfl, by show s.ones + 1 = ones + 1; omega, by omega, fun h => by simp at h, fun _ => by show frm + (s.n + 1) = i + 1; omega, hI'⟩, by omega, fun r hr => ?_⟩
        refine Ev.step (f := fun k => signalmanref01_Hear.j1 k t l true (frm : Int) ((ones + 1 : Nat) : Int) (i : Int) false) (fun k => by simp only [signalmanref01_Hear.l0, if_pos p1, if_pos p0, erd, if_true, eo]) ?_
        refine Ev.step (fun k => ?_) hr
        simp only [signalmanref01_Hear.j1, Bool.false_eq_true, if_false, if_true, ei, ed]
        rw [if_neg (by omega)]
        simp only [toS, List.append_nil]
    | false =>
      by_cases h6 : ones = 6
      · have eb : Ear.bitF JJ s false = (⟨[], 0, true, 0⟩, none) := by simp only [Ear.bitF, hf, Bool.false_eq_true, if_false, hon, h6, if_true]
        rw [eb] at hI' ⊢
        refine ⟨i + 1, 0, false, ⟨rfl, rfl, Nat.le_refl _, fun _ => by rw [List.drop_eq_nil_of_le (by rw [List.length_take]; omega)], fun h => by simp at h, hI'⟩, by omega, fun r hr => ?_⟩
        refine Ev.step (f := fun k => signalmanref01_Hear.j2 k t l (frm : Int) 0 (i : Int) false) (fun k => by simp only [signalmanref01_Hear.l0, if_pos p1, if_pos p0, erd, Bool.false_eq_true, if_false, if_true, if_pos (show (ones : Int) = 6 by omega)]) ?_
        refine Ev.step (fun k => ?_) hr
        simp only [signalmanref01_Hear.j2, Bool.false_eq_true, if_false, ei, toS, List.append_nil]
        rfl
      · have e6 : ¬ s.ones = 6 := by omega
        by_cases h8 : s.n + 1 = 128
        · have eb : Ear.bitF JJ s false = (⟨s.inb, 0, false, 0⟩, some (2, [])) := by simp only [Ear.bitF, hf, Bool.false_eq_true, if_false, e6, if_true, h8]
          rw [eb] at hI' ⊢
          refine ⟨i + 1, 0, true, ⟨rfl, rfl, Nat.le_refl _, fun h => by simp at h, fun _ => rfl, hI'⟩, by omega, fun r hr => ?_⟩
          refine Ev.step (f := fun k => signalmanref01_Hear.j3 k t l true (frm : Int) 0 (i : Int) false) (fun k => by simp only [signalmanref01_Hear.l0, if_pos p1, if_pos p0, erd, Bool.false_eq_true, if_false, if_true, if_neg (show ¬ (ones : Int) = 6 by omega)]) ?_
          refine Ev.step (fun k => ?_) hr
          simp only [signalmanref01_Hear.j3, Bool.false_eq_true, if_false, if_true, ei, ed]
          rw [if_pos (by omega), if_pos (by omega)]
          rfl
        · have eb : Ear.bitF JJ s false = (⟨s.inb, 0, false, s.n + 1⟩, none) := by simp only [Ear.bitF, hf, Bool.false_eq_true, if_false, e6, h8]
          rw [eb] at hI' ⊢
          refine ⟨frm, 0, true, ⟨rfl, rfl, by omega, fun h => by simp at h, fun _ => by show frm + (s.n + 1) = i + 1; omega, hI'⟩, by omega, fun r hr => ?_⟩
          refine Ev.step (f := fun k => signalmanref01_Hear.j3 k t l true (frm : Int) 0 (i : Int) false) (fun k => by simp only [signalmanref01_Hear.l0, if_pos p1, if_pos p0, erd, Bool.false_eq_true, if_false, if_true, if_neg (show ¬ (ones : Int) = 6 by omega)]) ?_
          refine Ev.step (fun k => ?_) hr
          simp only [signalmanref01_Hear.j3, Bool.false_eq_true, if_false, if_true, ei, ed]
          rw [if_neg (by omega)]
          simp only [toS, List.append_nil]
          rfl
  | false =>
    have hf : s.found = true := hf
    have hin := hin rfl
    have hfo := hI.found hf
    have hinl : s.inb.length = i - frm := by rw [hin, List.length_drop, List.length_take]; omega
    cases x with
    | true =>
      by_cases h7 : 7 ≤ s.ones + 1
      · have eb : Ear.bitF JJ s true = (⟨[], s.ones + 1, false, 0⟩, none) := by simp only [Ear.bitF, hf, if_true, h7]
        rw [eb] at hI' ⊢
        refine ⟨i + 1, ones + 1, true, ⟨rfl, by show s.ones + 1 = ones + 1; omega, Nat.le_refl _, fun h => by simp at h, fun _ => rfl, hI'⟩, by omega, fun r hr => ?_⟩
        refine Ev.step (f := fun k => signalmanref01_Hear.j1 k t l false (frm : Int) ((ones + 1 : Nat) : Int) (i : Int) true) (fun k => by
          simp only [signalmanref01_Hear.l0, if_pos p1, if_pos p0, erd, if_true, Bool.false_eq_true, if_false, eo]
          rw [show (((ones + 1 : Nat) : Int) == 7) = true from beq_iff_eq.2 (by omega)]) ?_
        refine Ev.step (fun k => ?_) hr
        simp only [signalmanref01_Hear.j1, if_true, ei, toS, List.append_nil]
      · have eb : Ear.bitF JJ s true = (⟨s.inb ++ [true], s.ones + 1, true, s.n⟩, none) := by simp only [Ear.bitF, hf, if_true, h7, if_false]
        rw [eb] at hI' ⊢
        refine ⟨frm, ones + 1, false, ⟨rfl, by show s.ones + 1 = ones + 1; omega, by omega, fun _ => ?_, fun h => by simp at h, hI'⟩, by omega, fun r hr => ?_⟩
        · show s.inb ++ [true] = _
          rw [hsuc, List.drop_append_of_le_length (by rw [List.length_take]; omega), hin]
        refine Ev.step (f := fun k => signalmanref01_Hear.j1 k t l false (frm : Int) ((ones + 1 : Nat) : Int) (i : Int) false) (fun k => by
          simp only [signalmanref01_Hear.l0, if_pos p1, if_pos p0, erd, if_true, Bool.false_eq_true, if_false, eo]
          rw [show (((ones + 1 : Nat) : Int) == 7) = false from beq_eq_false_iff_ne.2 (by omega)]) ?_
        refine Ev.step (fun k => ?_) hr
        simp only [signalmanref01_Hear.j1, Bool.false_eq_true, if_false, ei, toS, List.append_nil]
    | false =>
      by_cases h6 : s.ones = 6
      · have eb : Ear.bitF JJ s false = (⟨[], 0, true, s.n⟩, Ear.flagF JJ (s.inb ++ [false])) := by simp only [Ear.bitF, hf, if_true, Bool.false_eq_true, if_false, h6]
        rw [eb] at hI' ⊢
        refine ⟨i + 1, 0, false, ⟨rfl, rfl, Nat.le_refl _, fun _ => by rw [List.drop_eq_nil_of_le (by rw [List.length_take]; omega)], fun h => by simp at h, hI'⟩, by omega, fun r hr => ?_⟩
        have hlen : (s.inb ++ [false]).length = i + 1 - frm := by rw [List.length_append, List.length_singleton]; omega
        by_cases h8 : 8 < i + 1 - frm
        · refine Ev.step (f := fun k => signalmanref01_Hear.j2 k t l (frm : Int) 0 (i : Int) true) (fun k => by
            simp only [signalmanref01_Hear.l0, if_pos p1, if_pos p0, erd, Bool.false_eq_true, if_false, if_pos (show (ones : Int) = 6 by omega), ei, ed]
            rw [decide_eq_true (show ((i + 1 - frm : Nat) : Int) > 8 by omega)]) ?_
          have e7 : wrap64 ((i : Int) - 7) = ((i - 7 : Nat) : Int) := by unfold wrap64; omega
          have hcut : ((t.take (i - 7)).drop frm) = (s.inb ++ [false]).take ((s.inb ++ [false]).length - 8) := by
            rw [hlen]
            have e1 : s.inb ++ [false] = (t.take (i + 1)).drop frm := by rw [hsuc, List.drop_append_of_le_length (by rw [List.length_take]; omega), hin]
            rw [e1, List.take_drop, List.take_take]
            congr 2
            omega
          have hfl : Ear.flagF JJ (s.inb ++ [false]) = some (if (judged ((t.take (i - 7)).drop frm)).2 = 0 then (0, (judged ((t.take (i - 7)).drop frm)).1) else (1, [])) := by
            unfold Ear.flagF
            rw [if_neg (by omega), ← hcut]
            unfold JJ
            by_cases h0 : (judged ((t.take (i - 7)).drop frm)).2 = 0
            · rw [if_pos h0, if_pos h0]
            · rw [if_neg h0, if_neg h0]
          have hjd := RefJudge_ev ((t.take (i - 7)).drop frm) (by rw [List.length_drop, List.length_take]; omega)
          rw [hfl] at hr
          generalize judged ((t.take (i - 7)).drop frm) = jd at hr hjd
          refine Ev.step (f := fun k => _) (fun k => by simp only [signalmanref01_Hear.j2, if_true, e7, if_pos (show 0 ≤ (frm : Int) by omega), if_pos (show (frm : Int) ≤ ((i - 7 : Nat) : Int) by omega), if_pos (show ((i - 7 : Nat) : Int) ≤ (t.length : Int) by omega), Int.toNat_natCast, ei]; rfl) ?_
          refine Ev.bind hjd ?_
          by_cases h0 : jd.2 = 0
          · simp only [if_pos h0, if_pos (show l.length < 3518437208883 by omega)]
            simp only [if_pos h0] at hr
            exact hr
          · simp only [if_neg h0, if_pos (show l.length < 3518437208883 by omega)]
            simp only [if_neg h0] at hr
            exact hr
        · refine Ev.step (f := fun k => signalmanref01_Hear.j2 k t l (frm : Int) 0 (i : Int) false) (fun k => by
            simp only [signalmanref01_Hear.l0, if_pos p1, if_pos p0, erd, Bool.false_eq_true, if_false, if_pos (show (ones : Int) = 6 by omega), ei, ed]
            rw [decide_eq_false (show ¬ ((i + 1 - frm : Nat) : Int) > 8 by omega)]) ?_
          have hfl : Ear.flagF JJ (s.inb ++ [false]) = none := by
            unfold Ear.flagF
            rw [if_pos (by omega)]
          rw [hfl] at hr
          refine Ev.step (fun k => ?_) hr
          simp only [signalmanref01_Hear.j2, Bool.false_eq_true, if_false, ei, toS, List.append_nil]
          rfl
      · by_cases hb : 2687 < s.inb.length + 1
        · have eb : Ear.bitF JJ s false = (⟨[], 0, false, 0⟩, none) := by simp only [Ear.bitF, hf, if_true, Bool.false_eq_true, if_false, h6, hb]
          rw [eb] at hI' ⊢
          refine ⟨i + 1, 0, true, ⟨rfl, rfl, Nat.le_refl _, fun h => by simp at h, fun _ => rfl, hI'⟩, by omega, fun r hr => ?_⟩
          refine Ev.step (f := fun k => signalmanref01_Hear.j3 k t l false (frm : Int) 0 (i : Int) true) (fun k => by
            simp only [signalmanref01_Hear.l0, if_pos p1, if_pos p0, erd, Bool.false_eq_true, if_false, if_neg (show ¬ (ones : Int) = 6 by omega), ei, ed]
            rw [decide_eq_true (show ((i + 1 - frm : Nat) : Int) > 2687 by omega)]) ?_
          refine Ev.step (fun k => ?_) hr
          simp only [signalmanref01_Hear.j3, if_true, ei, toS, List.append_nil]
          rfl
        · have eb : Ear.bitF JJ s false = (⟨s.inb ++ [false], 0, true, s.n⟩, none) := by simp only [Ear.bitF, hf, if_true, Bool.false_eq_true, if_false, h6, hb]
          rw [eb] at hI' ⊢
          refine ⟨frm, 0, false, ⟨rfl, rfl, by omega, fun _ => ?_, fun h => by simp at h, hI'⟩, by omega, fun r hr => ?_⟩
          · show s.inb ++ [false] = _
            rw [hsuc, List.drop_append_of_le_length (by rw [List.length_take]; omega), hin]
          refine Ev.step (f := fun k => signalmanref01_Hear.j3 k t l false (frm : Int) 0 (i : Int) false) (fun k => by
            simp only [signalmanref01_Hear.l0, if_pos p1, if_pos p0, erd, Bool.false_eq_true, if_false, if_neg (show ¬ (ones : Int) = 6 by omega), ei, ed]
            rw [decide_eq_false (show ¬ ((i + 1 - frm : Nat) : Int) > 2687 by omega)]) ?_
          refine Ev.step (fun k => ?_) hr
          simp only [signalmanref01_Hear.j3, Bool.false_eq_true, if_false, ei, toS, List.append_nil]
          rfl
theorem Hear_in (t : List Bool) (ht : t.length ≤ 1000000) : ∀ d i frm ones lost s l, i + d = t.length → Rel t i frm ones lost s → ones ≤ i → l.length ≤ i →
    Ev (fun k => signalmanref01_Hear.l0 k t l lost (frm : Int) (ones : Int) (i : Int)) (l ++ traceF s i (t.drop i), !(Ear.runF JJ s (t.drop i)).1.found) := by
  intro d
  induction d with
  | zero =>
    intro i frm ones lost s l hi R ho hl
    rw [List.drop_eq_nil_of_le (by omega)]
    have e1 : traceF s i [] = [] := rfl
    have e2 : (Ear.runF JJ s []).1 = s := rfl
    rw [e1, e2, R.found, Bool.not_not, List.append_nil]
    refine Ev.step (f := fun k => some (l, lost)) (fun k => ?_) (Ev.now _)
    simp only [signalmanref01_Hear.l0]
    rw [if_neg (by omega)]
  | succ d ih =>
    intro i frm ones lost s l hi R ho hl
    have hlt : i < t.length := by omega
    obtain ⟨frm', ones', lost', R', ho', hev⟩ := Hear_step t ht i frm ones lost s l hlt R ho hl
    rw [List.drop_eq_getElem_cons hlt, runF_cons]
    refine hev _ ?_
    have := ih (i + 1) frm' ones' lost' _ (l ++ toS (i + 1) (Ear.bitF JJ s t[i]).2) (by omega) R' ho' (by rw [List.length_append]; have := toS_len (i + 1) (Ear.bitF JJ s t[i]).2; omega)
    rw [List.append_assoc] at this
    exact this
theorem Hear_ev (t : List Bool) (ht : t.length ≤ 1000000) : Ev (fun k => signalmanref01_Hear.f k t) (traceF ⟨[], 0, false, 0⟩ 0 t, !(Ear.runF JJ ⟨[], 0, false, 0⟩ t).1.found) :=
  Hear_in t ht t.length 0 0 0 true ⟨[], 0, false, 0⟩ [] (by omega) ⟨rfl, rfl, Nat.le_refl _, fun h => by simp at h, fun _ => rfl, Ear.inv0⟩ (Nat.le_refl _) (Nat.le_refl _)
theorem J_all {k : Nat} (h : ∀ t : List Bool, t.length ≤ 3000 → flag_Judge.f k t = some (judged t)) : ∀ t : List Bool, t.length ≤ 3000 → signalmanlaw05_awake.J k t = JJ t := by
  intro t ht
  unfold signalmanlaw05_awake.J JJ
  rw [h t ht]

theorem trace_append : ∀ (a : List Bool) (b : List Bool) (s : Ear.St) (i : Nat), traceF s i (a ++ b) = traceF s i a ++ traceF (Ear.runF JJ s a).1 (i + a.length) b := by
  intro a
  induction a with
  | nil => intro b s i; rfl
  | cons x a ih =>
    intro b s i
    rw [runF_cons]
    show toS (i + 1) _ ++ traceF _ (i + 1) (a ++ b) = (toS (i + 1) _ ++ traceF _ (i + 1) a) ++ _
    rw [ih, List.append_assoc, List.length_cons, show i + 1 + a.length = i + (a.length + 1) by omega]
theorem trace_lo : ∀ (t : List Bool) (s : Ear.St) (i : Nat), ∀ x ∈ traceF s i t, ((i + 1 : Nat) : Int) ≤ x.f2 := by
  intro t
  induction t with
  | nil => intro s i x hx; simp [traceF] at hx
  | cons y t ih =>
    intro s i x hx
    have hx : x ∈ toS (i + 1) (Ear.bitF JJ s y).2 ++ traceF (Ear.bitF JJ s y).1 (i + 1) t := hx
    rcases List.mem_append.1 hx with h | h
    · cases ho : (Ear.bitF JJ s y).2 with
      | none => rw [ho] at h; simp [toS] at h
      | some q =>
        rw [ho] at h
        simp only [toS, List.mem_singleton] at h
        subst h
        exact Int.le_refl _
    · have := ih _ _ x h
      omega
theorem rd_at (a : List S61) (x : S61) (b : List S61) : rd_T61 (a ++ x :: b) (a.length : Int) = x := by
  simp [rd_T61, List.getD_eq_getElem?_getD]
theorem Tells_all (t : List Bool) (i : Nat) (hi : i < t.length) :
    signalmanlaw05_FlagCuts.Tells (traceF ⟨[], 0, false, 0⟩ 0 t) i (Ear.bitF JJ (Ear.runF JJ ⟨[], 0, false, 0⟩ (t.take i)).1 t[i]).2 (traceF ⟨[], 0, false, 0⟩ 0 (t.take i)).length (traceF ⟨[], 0, false, 0⟩ 0 (t.take (i + 1))).length := by
  have e1 : traceF ⟨[], 0, false, 0⟩ 0 (t.take (i + 1)) = traceF ⟨[], 0, false, 0⟩ 0 (t.take i) ++ toS (i + 1) (Ear.bitF JJ (Ear.runF JJ ⟨[], 0, false, 0⟩ (t.take i)).1 t[i]).2 := by
    rw [List.take_succ_eq_append_getElem hi, trace_append]
    have : 0 + (t.take i).length = i := by rw [List.length_take]; omega
    rw [this]
    show _ ++ (toS (i + 1) _ ++ []) = _
    rw [List.append_nil]
  have e2 : traceF ⟨[], 0, false, 0⟩ 0 t = traceF ⟨[], 0, false, 0⟩ 0 (t.take (i + 1)) ++ traceF (Ear.runF JJ ⟨[], 0, false, 0⟩ (t.take (i + 1))).1 (i + 1) (t.drop (i + 1)) := by
    have h := trace_append (t.take (i + 1)) (t.drop (i + 1)) ⟨[], 0, false, 0⟩ 0
    rw [List.take_append_drop] at h
    have : 0 + (t.take (i + 1)).length = i + 1 := by rw [List.length_take]; omega
    rw [this] at h
    exact h
  have hlo := trace_lo (t.drop (i + 1)) (Ear.runF JJ ⟨[], 0, false, 0⟩ (t.take (i + 1))).1 (i + 1)
  generalize traceF (Ear.runF JJ ⟨[], 0, false, 0⟩ (t.take (i + 1))).1 (i + 1) (t.drop (i + 1)) = rest at e2 hlo
  rw [e2, e1]
  generalize traceF ⟨[], 0, false, 0⟩ 0 (t.take i) = a
  cases (Ear.bitF JJ (Ear.runF JJ ⟨[], 0, false, 0⟩ (t.take i)).1 t[i]).2 with
  | none =>
    refine Or.inl ⟨rfl, fun hl => ?_, by simp [toS]⟩
    simp only [toS, List.append_nil] at hl ⊢
    cases rest with
    | nil => rw [List.append_nil] at hl; exact absurd hl (Nat.lt_irrefl _)
    | cons x rest =>
      rw [rd_at]
      have := hlo x (List.mem_cons_self)
      omega
  | some h =>
    refine Or.inr ⟨h, rfl, ?_, ?_, ?_, ?_⟩
    · simp only [toS, List.length_append, List.length_cons, List.length_nil]; omega
    · simp only [toS, List.append_assoc, List.singleton_append, rd_at]
    · simp only [toS, List.append_assoc, List.singleton_append, rd_at]
    · simp only [toS, List.length_append, List.length_cons, List.length_nil]
theorem FlagCuts : signalmanlaw05_FlagCuts.Pure := by
  intro ll p how hw hp hh hl
  obtain ⟨K1, h1⟩ := Awake_ev
  obtain ⟨K2, h2⟩ := Short_ev ll hl
  obtain ⟨K3, h3⟩ := Judge_all
  by_cases hs : shortP ll = true ∧ p.length ≤ 200
  · obtain ⟨t, ht, K4, h4⟩ := Stream_ev ll p how (short_spec hs.1).1 (short_spec hs.1).2 hw hs.2 hp hh
    obtain ⟨K5, h5⟩ := Hear_ev t (by omega)
    obtain ⟨k, hk⟩ : ∃ k, k = max K1 (max K2 (max K3 (max K4 K5))) := ⟨_, rfl⟩
    have hJ := J_all (k := k) (fun t ht => h3 t ht k (by omega))
    have hrun := fun i => runF_same (signalmanlaw05_awake.J k) JJ hJ (t.take i) ⟨[], 0, false, 0⟩ Ear.inv0
    refine ⟨k, shortP ll, h1 k (by omega), h2 k (by omega), fun _ _ => ⟨t, _, _, h4 k (by omega), by omega, h5 k (by omega), ?_, ?_, fun i => (traceF ⟨[], 0, false, 0⟩ 0 (t.take i)).length, rfl, ?_, ?_, ?_⟩⟩
    · have := trace_len t ⟨[], 0, false, 0⟩ 0
      omega
    · unfold signalmanlaw05_FlagCuts.ou
      rw [hrun, List.take_length]
      exact trace_out t _ 0
    · show (traceF _ 0 (t.take t.length)).length = _
      rw [List.take_length]
    · intro i _
      have := trace_len (t.take i) ⟨[], 0, false, 0⟩ 0
      rw [List.length_take] at this
      show (traceF _ 0 (t.take i)).length ≤ i
      omega
    · intro i hi
      have hI : Ear.Inv (Ear.runF JJ ⟨[], 0, false, 0⟩ (t.take i)).1 := (Ear.inv0.run (J := JJ) (t.take i)).1
      unfold signalmanlaw05_FlagCuts.st
      rw [hrun i, bitF_same (signalmanlaw05_awake.J k) JJ hJ _ hI]
      exact Tells_all t i hi
  · obtain ⟨k, hk⟩ : ∃ k, k = max K1 K2 := ⟨_, rfl⟩
    exact ⟨k, shortP ll, h1 k (by omega), h2 k (by omega), fun ha hb => absurd ⟨ha, hb⟩ hs⟩

end Go.Proofs.Ytonhgiclaieamaa.Pure
