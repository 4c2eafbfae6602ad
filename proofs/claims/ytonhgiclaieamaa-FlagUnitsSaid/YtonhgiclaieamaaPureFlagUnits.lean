/- The last step of the law FlagUnits: what the walk needs of the functions that it calls, and of the ear as a machine: a whole frame from between two frames is heard as it is. No condition. -/
import Derived.Test.YtonhgiclaieamaaMFlagUnitsx
import Derived.Test.YtonhgiclaieamaaBase
import Derived.Laws.BitsAllLaws
namespace Go.Proofs.Ytonhgiclaieamaa.Pure
open Go Go.RowKit Go.Proofs.Ytonhgiclaieamaa.MFlagUnits Go.Proofs.YtonhgiclaieamaaW.PrintWords Go.Proofs.YtonhgiclaieamaaW.PrintLast Go.Proofs.YtonhgiclaieamaaW.PrintMore Go.Proofs.Ytonhgiclaieamaa.Base

theorem wf8 {x : Int} (h : (Lit.int .u8 x).wf = true) : 0 ≤ x ∧ x < 256 := by
  simp [Lit.wf, IntKind.min, IntKind.max, IntKind.signed, IntKind.bits] at h; omega
theorem wf8s {l : List Int} (h : ∀ x ∈ l, (Lit.int .u8 x).wf = true) : ∀ x ∈ l, 0 ≤ x ∧ x < 256 := fun x hx => wf8 (h x hx)

theorem bit_div (b : Int) (j : Nat) (h0 : 0 ≤ b) (h1 : b < 256) (hj : j < 8) :
    (shl .u8 1 (j : Int)) = 2 ^ j ∧ ((Int.tmod (IntKind.u8.wrap (Int.tdiv b (shl .u8 1 (j : Int)))) 2) == 1) = bitN b j := by
  have hp : (2 : Int) ^ j ≤ 128 := by
    have : (2 : Nat) ^ j ≤ 2 ^ 7 := Nat.pow_le_pow_right (by decide) (by omega)
    exact_mod_cast this
  have hp0 : (0 : Int) < 2 ^ j := Int.pow_pos (by decide)
  have es : shl .u8 1 (j : Int) = 2 ^ j := by
    unfold shl
    rw [IntKind.wrap_u8]
    have : min ((j : Int).toNat) IntKind.u8.bits = j := by show min ((j : Int).toNat) 8 = j; omega
    rw [this, Int.one_mul]; omega
  refine ⟨es, ?_⟩
  rw [es, Int.tdiv_eq_ediv_of_nonneg h0]
  have h2 : 0 ≤ b / 2 ^ j := Int.ediv_nonneg h0 (by omega)
  have h3 : b / 2 ^ j < 256 := by
    have := Int.ediv_le_self (2 ^ j) h0
    omega
  rw [IntKind.wrap_u8, Int.emod_eq_of_lt h2 h3, Int.tmod_eq_emod_of_nonneg h2]
  rfl
theorem RefBits_ev (l : List Int) (hl : l.length ≤ 10000000000000) (hb : ∀ x ∈ l, 0 ≤ x ∧ x < 256) : Ev (fun k => signalmanref01_Bits.f k l) (bitsOf l) := by
  have hL : (bitsOf l).length = 8 * l.length := bitsOf_length l
  refine count (8 * l.length) (fun i k => signalmanref01_Bits.l0 k l ((bitsOf l).take i) (i : Int)) (bitsOf l) ?_ ?_ |> fun z => Ev.to z (by funext k; simp [signalmanref01_Bits.f]) rfl
  · intro i hi hn
    have hq : i / 8 < l.length := by omega
    have hx := hb l[i / 8] (List.getElem_mem hq)
    have hi' : i < (bitsOf l).length := by omega
    have et : (bitsOf l).take (i + 1) = (bitsOf l).take i ++ [bitN l[i / 8] (i % 8)] := by
      rw [List.take_succ_eq_append_getElem hi', bitsOf_get l i hi' hq]
    have ed : wrap64 (Int.tdiv (i : Int) 8) = ((i / 8 : Nat) : Int) := by
      rw [Int.tdiv_eq_ediv_of_nonneg (by omega), w64 _ (by omega) (by omega)]; omega
    have em : Int.tmod (i : Int) 8 = ((i % 8 : Nat) : Int) := by
      rw [Int.tmod_eq_emod_of_nonneg (by omega)]; omega
    have hbit := bit_div l[i / 8] (i % 8) hx.1 hx.2 (by omega)
    have hp0 : (0 : Int) < 2 ^ (i % 8) := Int.pow_pos (by decide)
    refine Ev.step (fun k => ?_) hn
    simp only [signalmanref01_Bits.l0]
    rw [w64 (8 * (l.length : Int)) (by omega) (by omega), ed, em, if_pos (by omega), if_pos (by omega), if_pos (by omega), if_pos (by omega), if_neg (by rw [hbit.1]; omega),
      if_pos (by rw [List.length_take]; omega), rd_nat l (i / 8) hq, hbit.2, w64s i (by omega), et]
  · refine Ev.step (fun k => ?_) (Ev.now _)
    simp only [signalmanref01_Bits.l0]
    rw [w64 (8 * (l.length : Int)) (by omega) (by omega), if_neg (by omega), List.take_of_length_le (by omega)]

/-- Bits with a nought behind each five ones; 'n' ones stand ahead. -/
def stuffed : Nat → List Bool → List Bool
  | _, [] => []
  | n, b :: t => if b then (if n + 1 = 5 then true :: false :: stuffed 0 t else true :: stuffed (n + 1) t) else false :: stuffed 0 t
/-- And back. -/
def bared : Nat → List Bool → List Bool × Int
  | n, [] => if n = 5 then ([], 5) else ([], 0)
  | n, b :: t => if n = 5 then (if b then ([], 4) else bared 0 t)
      else (if (bared (if b then n + 1 else 0) t).2 = 0 then (b :: (bared (if b then n + 1 else 0) t).1, 0) else ([], (bared (if b then n + 1 else 0) t).2))
theorem bared_none (t : List Bool) : ∀ n, (bared n t).2 ≠ 0 → (bared n t).1 = [] := by
  induction t with
  | nil => intro n h; simp only [bared] at *; split <;> rfl
  | cons b t ih =>
    intro n h
    simp only [bared] at *
    by_cases h5 : n = 5
    · rw [if_pos h5] at *
      cases b
      · exact ih 0 (by simpa using h)
      · rfl
    · rw [if_neg h5] at *
      generalize bared (if b = true then n + 1 else 0) t = r at *
      split
      · rename_i h0; rw [if_pos h0] at h; exact absurd rfl h
      · rfl
theorem stuffed_lo (t : List Bool) : ∀ n, t.length ≤ (stuffed n t).length := by
  induction t with
  | nil => intro n; simp [stuffed]
  | cons b t ih =>
    intro n
    have h0 := ih 0
    have h1 := ih (n + 1)
    simp only [stuffed]
    split
    · split <;> simp only [List.length_cons] <;> omega
    · simp only [List.length_cons]; omega
theorem stuffed_hi (t : List Bool) : ∀ n, n < 5 → 5 * (stuffed n t).length ≤ 6 * t.length + n := by
  induction t with
  | nil => intro n _; simp [stuffed]
  | cons b t ih =>
    intro n hn
    have h0 := ih 0 (by omega)
    simp only [stuffed]
    split
    · split
      · simp only [List.length_cons]; omega
      · have h1 := ih (n + 1) (by omega)
        simp only [List.length_cons]; omega
    · simp only [List.length_cons]; omega
theorem bared_stuffed (t : List Bool) : ∀ n, n < 5 → bared n (stuffed n t) = (t, 0) := by
  induction t with
  | nil => intro n hn; simp only [stuffed, bared]; rw [if_neg (by omega)]
  | cons b t ih =>
    intro n hn
    have h0 := ih 0 (by omega)
    cases b with
    | false =>
      simp only [stuffed, Bool.false_eq_true, if_false]
      simp only [bared]
      rw [if_neg (by omega)]
      simp only [Bool.false_eq_true, if_false, h0, if_true]
    | true =>
      simp only [stuffed, if_true]
      by_cases h5 : n + 1 = 5
      · rw [if_pos h5]
        simp only [bared]
        rw [if_neg (by omega)]
        simp only [if_true, Bool.false_eq_true, if_false, h5, h0]
      · rw [if_neg h5]
        simp only [bared]
        rw [if_neg (by omega)]
        simp only [if_true, ih (n + 1) (by omega)]
theorem stuffed_bared (t : List Bool) : (∀ n u, n < 5 → bared n t = (u, 0) → stuffed n u = t) ∧ (∀ u, bared 5 t = (u, 0) → t = false :: stuffed 0 u) := by
  induction t with
  | nil =>
    refine ⟨fun n u hn h => ?_, fun u h => ?_⟩
    · simp only [bared] at h
      rw [if_neg (by omega)] at h
      rw [← (Prod.mk.inj h).1]; rfl
    · simp only [bared] at h
      rw [if_pos trivial] at h
      exact absurd (Prod.mk.inj h).2 (by decide)
  | cons b t ih =>
    refine ⟨fun n u hn h => ?_, fun u h => ?_⟩
    · simp only [bared] at h
      rw [if_neg (by omega)] at h
      cases b with
      | false =>
        simp only [Bool.false_eq_true, if_false] at h
        by_cases h0 : (bared 0 t).2 = 0
        · rw [if_pos h0] at h
          rw [← (Prod.mk.inj h).1]
          simp only [stuffed, Bool.false_eq_true, if_false]
          rw [ih.1 0 (bared 0 t).1 (by omega) (Prod.ext rfl h0)]
        · rw [if_neg h0] at h
          exact absurd (Prod.mk.inj h).2 h0
      | true =>
        simp only [if_true] at h
        by_cases h0 : (bared (n + 1) t).2 = 0
        · rw [if_pos h0] at h
          rw [← (Prod.mk.inj h).1]
          simp only [stuffed, if_true]
          by_cases h5 : n + 1 = 5
          · rw [if_pos h5]
            rw [h5] at h0 ⊢
            rw [← ih.2 (bared 5 t).1 (Prod.ext rfl h0)]
          · rw [if_neg h5, ih.1 (n + 1) (bared (n + 1) t).1 (by omega) (Prod.ext rfl h0)]
        · rw [if_neg h0] at h
          exact absurd (Prod.mk.inj h).2 h0
    · simp only [bared, if_true] at h
      cases b with
      | false =>
        simp only [Bool.false_eq_true, if_false] at h
        rw [ih.1 0 u (by omega) h]
      | true =>
        simp only [if_true] at h
        exact absurd (Prod.mk.inj h).2 (by decide)
theorem stuffed_app (a b : List Bool) : ∀ n, stuffed n (a ++ false :: b) = stuffed n (a ++ [false]) ++ stuffed 0 b := by
  induction a with
  | nil => intro n; simp [stuffed]
  | cons c a ih =>
    intro n
    simp only [List.cons_append, stuffed]
    split
    · split
      · rw [ih]; rfl
      · rw [ih]; rfl
    · rw [ih]; rfl
theorem stuffed_inj (a b : List Bool) (h : stuffed 0 a = stuffed 0 b) : a = b := by
  have ha := bared_stuffed a 0 (by omega)
  have hb := bared_stuffed b 0 (by omega)
  rw [h, hb] at ha
  exact (Prod.mk.inj ha).1.symm

theorem Put_in (t : List Bool) (hl : t.length < 1000000000000) : ∀ d i n acc, i + d = t.length → n < 5 → acc.length ≤ 2 * i →
    Ev (fun k => stuff_Put.l0 k acc ((n : Nat) : Int) t (t.length : Int) (i : Int)) (acc ++ stuffed n (t.drop i)) := by
  intro d
  induction d with
  | zero =>
    intro i n acc hi hn ha
    refine Ev.to (Ev.step (g := fun k => stuff_Put.l0 k acc ((n : Nat) : Int) t (t.length : Int) (i : Int)) (fun k => ?_) (Ev.now acc)) rfl ?_
    · simp only [stuff_Put.l0]
      rw [if_neg (by omega)]
    · rw [List.drop_of_length_le (by omega)]; simp [stuffed]
  | succ d ih =>
    intro i n acc hi hn ha
    have h1 : i < t.length := by omega
    have ea : t.drop i = t[i] :: t.drop (i + 1) := List.drop_eq_getElem_cons h1
    cases hti : t[i] with
    | false =>
      refine Ev.to (Ev.step (g := fun k => stuff_Put.l0 k acc ((n : Nat) : Int) t (t.length : Int) (i : Int)) (fun k => ?_) (ih (i + 1) 0 (acc ++ [false]) (by omega) (by omega) (by simp; omega))) rfl ?_
      · simp only [stuff_Put.l0]
        rw [if_pos (by omega), if_pos (by omega), if_pos (by omega), if_pos (by omega), rdOf_nat false t i h1, hti, w64s i (by omega), Option.bind_some, if_neg (by simp)]
        rfl
      · rw [ea, hti]; simp [stuffed]
    | true =>
      by_cases h5 : n + 1 = 5
      · refine Ev.to (Ev.step (g := fun k => stuff_Put.l0 k acc ((n : Nat) : Int) t (t.length : Int) (i : Int)) (fun k => ?_) (ih (i + 1) 0 (acc ++ [true] ++ [false]) (by omega) (by omega) (by simp; omega))) rfl ?_
        · simp only [stuff_Put.l0]
          rw [if_pos (by omega), if_pos (by omega), if_pos (by omega), if_pos (by omega), rdOf_nat false t i h1, hti, w64s i (by omega), w64s n (by omega), Option.bind_some, if_pos rfl, if_pos (by omega), if_pos (by simp; omega)]
          rfl
        · rw [ea, hti]; simp [stuffed, h5]
      · refine Ev.to (Ev.step (g := fun k => stuff_Put.l0 k acc ((n : Nat) : Int) t (t.length : Int) (i : Int)) (fun k => ?_) (ih (i + 1) (n + 1) (acc ++ [true]) (by omega) (by omega) (by simp; omega))) rfl ?_
        · simp only [stuff_Put.l0]
          rw [if_pos (by omega), if_pos (by omega), if_pos (by omega), if_pos (by omega), rdOf_nat false t i h1, hti, w64s i (by omega), w64s n (by omega), Option.bind_some, if_pos rfl, if_neg (by omega)]
        · rw [ea, hti]; simp [stuffed, h5]
theorem Put_ev (t : List Bool) (hl : t.length < 1000000000000) : Ev (fun k => stuff_Put.f k t) (stuffed 0 t) :=
  Ev.to (Put_in t hl t.length 0 0 [] (by omega) (by omega) (by simp)) (by funext k; rfl) (by simp)

theorem RefPut_in (t : List Bool) (hl : t.length < 1000000000000) : ∀ d i n acc, i + d = t.length → n < 5 → acc.length ≤ 2 * i →
    Ev (fun k => signalmanref01_Put.l0 k t acc ((n : Nat) : Int) (i : Int)) (acc ++ stuffed n (t.drop i)) := by
  intro d
  induction d with
  | zero =>
    intro i n acc hi hn ha
    refine Ev.to (Ev.step (g := fun k => signalmanref01_Put.l0 k t acc ((n : Nat) : Int) (i : Int)) (fun k => ?_) (Ev.now acc)) rfl ?_
    · simp only [signalmanref01_Put.l0]
      rw [if_neg (by omega)]
    · rw [List.drop_of_length_le (by omega)]; simp [stuffed]
  | succ d ih =>
    intro i n acc hi hn ha
    have h1 : i < t.length := by omega
    have ea : t.drop i = t[i] :: t.drop (i + 1) := List.drop_eq_getElem_cons h1
    cases hti : t[i] with
    | false =>
      refine Ev.to (Ev.step (g := fun k => signalmanref01_Put.l0 k t acc ((n : Nat) : Int) (i : Int)) (fun k => ?_) (ih (i + 1) 0 (acc ++ [false]) (by omega) (by omega) (by simp; omega))) rfl ?_
      · simp only [signalmanref01_Put.l0]
        rw [if_pos (by omega), if_pos (by omega), if_pos (by omega), rdOf_nat false t i h1, hti, w64s i (by omega), Option.bind_some, if_neg (by simp)]
        rfl
      · rw [ea, hti]; simp [stuffed]
    | true =>
      by_cases h5 : n + 1 = 5
      · refine Ev.to (Ev.step (g := fun k => signalmanref01_Put.l0 k t acc ((n : Nat) : Int) (i : Int)) (fun k => ?_) (ih (i + 1) 0 (acc ++ [true] ++ [false]) (by omega) (by omega) (by simp; omega))) rfl ?_
        · simp only [signalmanref01_Put.l0]
          rw [if_pos (by omega), if_pos (by omega), if_pos (by omega), rdOf_nat false t i h1, hti, w64s i (by omega), w64s n (by omega), Option.bind_some, if_pos rfl, if_pos (by omega), if_pos (by simp; omega)]
          rfl
        · rw [ea, hti]; simp [stuffed, h5]
      · refine Ev.to (Ev.step (g := fun k => signalmanref01_Put.l0 k t acc ((n : Nat) : Int) (i : Int)) (fun k => ?_) (ih (i + 1) (n + 1) (acc ++ [true]) (by omega) (by omega) (by simp; omega))) rfl ?_
        · simp only [signalmanref01_Put.l0]
          rw [if_pos (by omega), if_pos (by omega), if_pos (by omega), rdOf_nat false t i h1, hti, w64s i (by omega), w64s n (by omega), Option.bind_some, if_pos rfl, if_neg (by omega)]
        · rw [ea, hti]; simp [stuffed, h5]
theorem RefPut_ev (t : List Bool) (hl : t.length < 1000000000000) : Ev (fun k => signalmanref01_Put.f k t) (stuffed 0 t) :=
  Ev.to (RefPut_in t hl t.length 0 0 [] (by omega) (by omega) (by simp)) (by funext k; rfl) (by simp)

/-- What a loop has so far, and what it still gets. -/
def onto (acc : List Bool) (r : List Bool × Int) : List Bool × Int := if r.2 = 0 then (acc ++ r.1, 0) else ([], r.2)
theorem onto_nil (t : List Bool) (n : Nat) : onto [] (bared n t) = bared n t := by
  unfold onto
  split
  · rename_i h; exact Prod.ext rfl h.symm
  · rename_i h; exact Prod.ext (bared_none t n h).symm rfl
theorem onto_step (acc : List Bool) (b : Bool) (t : List Bool) (n : Nat) (h : n ≠ 5) : onto (acc ++ [b]) (bared (if b then n + 1 else 0) t) = onto acc (bared n (b :: t)) := by
  rw [show bared n (b :: t) = (if n = 5 then (if b then ([], 4) else bared 0 t)
      else (if (bared (if b then n + 1 else 0) t).2 = 0 then (b :: (bared (if b then n + 1 else 0) t).1, 0) else ([], (bared (if b then n + 1 else 0) t).2))) from rfl, if_neg h]
  generalize bared (if b = true then n + 1 else 0) t = r
  unfold onto
  by_cases h0 : r.2 = 0
  · rw [if_pos h0, if_pos h0, if_pos rfl]; simp
  · rw [if_neg h0, if_neg h0, if_neg (by exact h0)]
theorem Take_in (t : List Bool) (hl : t.length < 1000000000000) : ∀ d i n acc, i + d = t.length → n ≤ 5 → acc.length ≤ i →
    Ev (fun k => stuff_Take.l0 k acc ((n : Nat) : Int) t (t.length : Int) (i : Int)) (onto acc (bared n (t.drop i))) := by
  intro d
  induction d with
  | zero =>
    intro i n acc hi hn ha
    rw [List.drop_of_length_le (by omega)]
    refine Ev.to (Ev.step (g := fun k => stuff_Take.l0 k acc ((n : Nat) : Int) t (t.length : Int) (i : Int)) (fun k => ?_) (Ev.now (if n = 5 then ([], 5) else (acc, 0)))) rfl ?_
    · simp only [stuff_Take.l0]
      rw [if_neg (by omega)]
      by_cases h5 : n = 5
      · rw [if_pos (by omega), if_pos h5]
      · rw [if_neg (by omega), if_neg h5]
    · by_cases h5 : n = 5
      · simp [bared, h5, onto]
      · simp [bared, h5, onto]
  | succ d ih =>
    intro i n acc hi hn ha
    have h1 : i < t.length := by omega
    have ea : t.drop i = t[i] :: t.drop (i + 1) := List.drop_eq_getElem_cons h1
    rw [ea]
    by_cases h5 : n = 5
    · subst h5
      cases hti : t[i] with
      | true =>
        refine Ev.to (Ev.step (g := fun k => stuff_Take.l0 k acc ((5 : Nat) : Int) t (t.length : Int) (i : Int)) (fun k => ?_) (Ev.now ([], 4))) rfl ?_
        · simp only [stuff_Take.l0]
          rw [if_pos (by omega), if_pos (by omega), if_pos (by omega), if_pos (by omega), rdOf_nat false t i h1, hti, if_pos rfl]
        · simp [bared, onto]
      | false =>
        refine Ev.to (Ev.step (g := fun k => stuff_Take.l0 k acc ((5 : Nat) : Int) t (t.length : Int) (i : Int)) (fun k => ?_) (ih (i + 1) 0 acc (by omega) (by omega) (by omega))) rfl ?_
        · simp only [stuff_Take.l0]
          rw [if_pos (by omega), if_pos (by omega), if_pos (by omega), if_pos (by omega), rdOf_nat false t i h1, hti, if_neg (by simp), w64s i (by omega)]
          rfl
        · simp [bared]
    · rw [← onto_step acc t[i] _ n h5]
      cases hti : t[i] with
      | false =>
        refine Ev.step (fun k => ?_) (ih (i + 1) 0 (acc ++ [false]) (by omega) (by omega) (by simp; omega))
        simp only [stuff_Take.l0]
        rw [if_pos (by omega), if_pos (by omega), if_pos (by omega), if_neg (by omega), if_pos (by omega), rdOf_nat false t i h1, hti, w64s i (by omega), Option.bind_some, if_neg (by simp)]
        rfl
      | true =>
        refine Ev.step (fun k => ?_) (ih (i + 1) (n + 1) (acc ++ [true]) (by omega) (by omega) (by simp; omega))
        simp only [stuff_Take.l0]
        rw [if_pos (by omega), if_pos (by omega), if_pos (by omega), if_neg (by omega), if_pos (by omega), rdOf_nat false t i h1, hti, w64s i (by omega), w64s n (by omega), Option.bind_some, if_pos rfl]
theorem Take_ev (t : List Bool) (hl : t.length < 1000000000000) : Ev (fun k => stuff_Take.f k t) (bared 0 t) :=
  Ev.to (Take_in t hl t.length 0 0 [] (by omega) (by omega) (by simp)) (by funext k; rfl) (by simp [onto_nil])

theorem Low_ev (t : List Bool) (hl : t.length ≤ 140737488355328) : Ev (fun k => tape_Low.f k t) (low t) := by
  refine count t.length (fun i k => tape_Low.l0 k (low (t.take i)) t (t.length : Int) (i : Int)) (low t) ?_ ?_ |> fun z => Ev.to z (by funext k; simp [tape_Low.f, low, val]) rfl
  · intro i hi hn
    have et : t.take (i + 1) = t.take i ++ [t[i]] := List.take_succ_eq_append_getElem hi
    refine Ev.step (fun k => ?_) hn
    simp only [tape_Low.l0]
    rw [if_pos (by omega), if_pos (by omega), if_pos (by omega), rdOf_nat false t i hi, w64s i (by omega)]
    by_cases h8 : i < 8
    · have e8 : low (t.take (i + 1)) = low (t.take i) + (if t[i] then 2 ^ i else 0) := by
        unfold low
        rw [List.take_take, List.take_take, show min 8 (i + 1) = i + 1 from by omega, show min 8 i = i from by omega, et, val_snoc]
        have : (t.take i).length = i := by rw [List.length_take]; omega
        rw [this]
      cases hti : t[i] with
      | false => rw [if_neg (by simp), e8, hti]; simp
      | true =>
        rw [if_pos rfl, if_pos (by omega), e8, hti]
        have hv : low (t.take i) < 2 ^ i := by
          have := val_hi ((t.take i).take 8)
          have hle : ((t.take i).take 8).length = i := by simp; omega
          rw [hle] at this; exact this
        have hv0 := low_lo (t.take i)
        have hp : (2 : Int) ^ i ≤ 128 := by
          have : (2 : Nat) ^ i ≤ 2 ^ 7 := Nat.pow_le_pow_right (by decide) (by omega)
          exact_mod_cast this
        have hp0 : (0 : Int) < 2 ^ i := Int.pow_pos (by decide)
        have es : shl .u8 1 (i : Int) = 2 ^ i := by
          unfold shl
          rw [IntKind.wrap_u8]
          have : min ((i : Int).toNat) IntKind.u8.bits = i := by show min ((i : Int).toNat) 8 = i; omega
          rw [this, Int.one_mul]; omega
        rw [es]
        have ej : Go.bits .or .u8 (low (t.take i)) (2 ^ i) = low (t.take i) + 2 ^ i := by
          have := bits_join .u8 8 (by decide) wraps_u8 i (2 ^ i) (low (t.take i)) (by omega) (by simp) (by omega) hv0 hv (by omega)
          have comm : Go.bits .or .u8 (low (t.take i)) (2 ^ i) = Go.bits .or .u8 (2 ^ i) (low (t.take i)) := by
            simp only [Go.bits]; rw [BitVec.or_comm]
          rw [comm, this]; omega
        rw [ej]; simp
    · have e8 : low (t.take (i + 1)) = low (t.take i) := by
        unfold low
        rw [List.take_take, List.take_take, show min 8 (i + 1) = 8 from by omega, show min 8 i = 8 from by omega]
      rw [e8]
      cases hti : t[i] with
      | false => rw [if_neg (by simp)]
      | true => rw [if_pos rfl, if_neg (by omega)]
  · refine Ev.step (fun k => ?_) (Ev.now _)
    simp only [tape_Low.l0]
    rw [if_neg (by omega), List.take_length]

theorem Octets_ev (t : List Bool) (hl : t.length ≤ 140737488355328) : Ev (fun k => tape_Tape_Octets.f k t) (if t.length % 8 = 0 then (octs (t.length / 8) t, 0) else ([], 8)) := by
  by_cases h8 : t.length % 8 = 0
  · rw [if_pos h8]
    obtain ⟨n, hn⟩ : ∃ n, t.length = 8 * n := ⟨t.length / 8, by omega⟩
    have hq : t.length / 8 = n := by omega
    rw [hq]
    refine count n (fun i k => tape_Tape_Octets.l0 k t (octs i t) ((8 * i : Nat) : Int)) _ ?_ ?_ |> fun z => Ev.to z (by funext k; unfold tape_Tape_Octets.f; rw [if_pos (by omega)]; rfl) rfl
    · intro i hi hnx
      have ew : wrap64 (((8 * i : Nat) : Int) + 8) = ((8 * (i + 1) : Nat) : Int) := by rw [w64 _ (by omega) (by omega)]; omega
      have hlow : Ev (fun k => tape_Low.f k ((t.take (8 * (i + 1))).drop (8 * i))) (low (t.drop (8 * i))) := by
        refine Ev.to (Low_ev _ (by simp; omega)) rfl ?_
        unfold low
        congr 1
        rw [List.drop_take, List.take_take, show min 8 (8 * (i + 1) - 8 * i) = 8 from by omega]
      refine Ev.step (f := fun k => (tape_Low.f k ((t.take (8 * (i + 1))).drop (8 * i))).bind fun x => if (octs i t).length < 140737488355328 then tape_Tape_Octets.l0 k t (octs i t ++ [x]) ((8 * (i + 1) : Nat) : Int) else none) (fun k => ?_) ?_
      · simp only [tape_Tape_Octets.l0]
        rw [ew, if_pos (by omega), if_pos (by omega), if_pos (by omega), if_pos (by omega)]
        simp only [Int.toNat_natCast]
      · refine Ev.bind hlow ?_
        refine Ev.congr (fun k => ?_) hnx
        rw [if_pos (by rw [octs_length]; omega), octs_snoc]
    · refine Ev.step (fun k => ?_) (Ev.now _)
      simp only [tape_Tape_Octets.l0]
      rw [if_neg (by omega)]
  · rw [if_neg h8]
    refine Ev.congr (fun k => ?_) (Ev.now _)
    unfold tape_Tape_Octets.f
    rw [if_neg (by omega)]

theorem bit_and (b : Int) (j : Nat) (h0 : 0 ≤ b) (h1 : b < 256) (hj : j < 8) : ((Go.bits .and .u8 (shr .u8 b (j : Int)) 1) == 1) = bitN b j := by
  have e : shr .u8 b (j : Int) = b / 2 ^ j := shr_small (k := .u8) (x := b) (y := (j : Int)) rfl (by show (j : Int) ≤ 8; omega) ▸ rfl
  have h2 : 0 ≤ b / 2 ^ j := Int.ediv_nonneg h0 (Int.pow_nonneg (by decide))
  have h3 : b / 2 ^ j < 256 := by
    have := Int.ediv_le_self (2 ^ j) h0
    omega
  rw [e, show (1 : Int) = 2 ^ 1 - 1 from rfl, bits_mask .u8 8 (by decide) wraps_u8 1 (by decide) _ h2 h3]
  rfl

theorem Of_in (l : List Int) (i : Nat) (hi : i < l.length) (h0 : 0 ≤ l[i]) (h1 : l[i] < 256) (acc : List Bool) (r : List Bool) (hacc : acc.length + 8 < 140737488355328)
    (h : Ev (fun k => tape_Of.l0 k (acc ++ octet l[i]) l (l.length : Int) (wrap64 ((i : Int) + 1))) r) :
    Ev (fun k => tape_Of.l1 k acc l[i] l (l.length : Int) (i : Int) 0) r := by
  refine count 8 (fun j k => tape_Of.l1 k (acc ++ (List.range j).map (bitN l[i])) l[i] l (l.length : Int) (i : Int) (j : Int)) r ?_ ?_ |> fun z => Ev.to z (by funext k; simp) rfl
  · intro j hj hn
    refine Ev.step (fun k => ?_) hn
    have e : (List.range (j + 1)).map (bitN l[i]) = (List.range j).map (bitN l[i]) ++ [bitN l[i] j] := by rw [List.range_succ, List.map_append]; rfl
    simp only [tape_Of.l1]
    rw [if_pos (by omega), if_pos (by omega), if_pos (by simp; omega), bit_and _ _ h0 h1 hj, w64s j (by omega), e, List.append_assoc]
  · refine Ev.step (fun k => ?_) h
    simp only [tape_Of.l1]
    rw [if_neg (by decide)]
    rfl

theorem Of_ev (l : List Int) (hl : l.length ≤ 10000000000000) (hb : ∀ x ∈ l, 0 ≤ x ∧ x < 256) : Ev (fun k => tape_Of.f k l) (bitsOf l) := by
  refine count l.length (fun i k => tape_Of.l0 k (bitsOf (l.take i)) l (l.length : Int) (i : Int)) (bitsOf l) ?_ ?_ |> fun z => Ev.to z (by funext k; simp [tape_Of.f, bitsOf]) rfl
  · intro i hi hn
    have hx := hb l[i] (List.getElem_mem hi)
    have hlen : (bitsOf (l.take i)).length = 8 * i := by rw [bitsOf_length, List.length_take]; omega
    have key := Of_in l i hi hx.1 hx.2 (bitsOf (l.take i)) (bitsOf l) (by omega) (by rw [w64s i (by omega), ← bitsOf_take_succ l i hi]; exact hn)
    refine Ev.step (fun k => ?_) key
    simp only [tape_Of.l0]
    rw [if_pos (by omega), if_pos (by omega), if_pos (by omega), rd_nat l i hi]
  · refine Ev.step (fun k => ?_) (Ev.now _)
    simp only [tape_Of.l0]
    rw [if_neg (by omega), List.take_length]

theorem wraps_u16 (n : Int) (h0 : 0 ≤ n) (h1 : n < 2 ^ 16) : IntKind.u16.wrap n = n := by
  simp [IntKind.wrap, IntKind.bits, IntKind.signed]; omega
theorem Step_eq (r : Nat) (hr : r < 65536) (b : Bool) : rest_Step.f (r : Int) b = some ((Crc.stepN r b : Nat) : Int) := by
  have e2 : ((r : Int) / (2 : Int)) = (((r >>> 1) : Nat) : Int) := by rw [Nat.shiftRight_eq_div_pow]; omega
  have h2 : r >>> 1 < 65536 := by rw [Nat.shiftRight_eq_div_pow]; omega
  have hx : Go.bits .xor .u16 ((r >>> 1 : Nat) : Int) 33800 = (((r >>> 1) ^^^ 33800 : Nat) : Int) := u16_xor_nat (r >>> 1) 33800 h2 (by decide)
  have test : ∀ c : Nat, c < 2 → ((Go.bits .and .u16 (Go.bits .xor .u16 (r : Int) (c : Int)) 1) = 1 ↔ (r.testBit 0 != decide (c = 1)) = true) := by
    intro c hc
    rw [u16_xor_nat r c hr (by omega)]
    have hlt : r ^^^ c < 2 ^ 16 := Nat.xor_lt_two_pow hr (by omega)
    rw [show (1 : Int) = 2 ^ 1 - 1 from rfl, bits_mask .u16 16 (by decide) wraps_u16 1 (by decide) _ (by omega) (by exact_mod_cast hlt)]
    have e : (((r ^^^ c : Nat) : Int) % 2 ^ 1 = 2 ^ 1 - 1) ↔ (r ^^^ c) % 2 = 1 := by omega
    rw [e]
    have hb : (r ^^^ c).testBit 0 = (r.testBit 0 ^^ c.testBit 0) := Nat.testBit_xor ..
    have hc2 : c.testBit 0 = decide (c = 1) := by rw [Nat.testBit_zero]; rcases (show c = 0 ∨ c = 1 by omega) with rfl | rfl <;> rfl
    rw [Nat.testBit_zero, hc2] at hb
    rw [← decide_eq_true_iff (p := (r ^^^ c) % 2 = 1), hb]
  unfold rest_Step.f Crc.stepN
  rw [e2]
  cases b with
  | true =>
    have this : (Go.bits .and .u16 (Go.bits .xor .u16 (r : Int) 1) 1) = 1 ↔ (r.testBit 0 != true) = true := test 1 (by decide)
    rw [if_pos rfl]
    by_cases h : (r.testBit 0 != true) = true
    · rw [if_pos (this.mpr h), if_pos h, hx]
    · rw [if_neg (fun h' => h (this.mp h')), if_neg h]
  | false =>
    have this : (Go.bits .and .u16 (Go.bits .xor .u16 (r : Int) 0) 1) = 1 ↔ (r.testBit 0 != false) = true := test 0 (by decide)
    rw [if_neg (by decide)]
    by_cases h : (r.testBit 0 != false) = true
    · rw [if_pos (this.mpr h), if_pos h, hx]
    · rw [if_neg (fun h' => h (this.mp h')), if_neg h]
theorem CrcBits_ev (t : List Bool) (hl : t.length < 140737488355328) : Ev (fun k => rest_Bits.f k t) ((Crc.crc t : Nat) : Int) := by
  refine count t.length (fun i k => rest_Bits.l0 k ((Crc.run 65535 (t.take i) : Nat) : Int) t (t.length : Int) (i : Int)) _ ?_ ?_ |> fun z => Ev.to z (by funext k; simp [rest_Bits.f, Crc.run]) rfl
  · intro i hi hn
    have hr := Crc.run_lt (t.take i) 65535 (by decide)
    have et : Crc.run 65535 (t.take (i + 1)) = Crc.stepN (Crc.run 65535 (t.take i)) t[i] := foldl_take_succ _ _ _ _ hi
    refine Ev.step (fun k => ?_) hn
    simp only [rest_Bits.l0]
    rw [if_pos (by omega), if_pos (by omega), if_pos (by omega), rdOf_nat false t i hi, Step_eq _ hr, Option.bind_some, w64s i (by omega), et]
  · refine Ev.step (fun k => ?_) (Ev.now _)
    simp only [rest_Bits.l0]
    rw [if_neg (by omega), List.take_length]
    rfl

theorem RefOctets_in (t : List Bool) (ht : t.length ≤ 140737488355328) (i : Nat) (hi : 8 * i + 8 ≤ t.length) (acc : List Int) (hacc : acc.length < 140737488355328) (r : List Int)
    (h : Ev (fun k => signalmanref01_Octets.l0 k t (acc ++ [low (t.drop (8 * i))]) ((8 * (i + 1) : Nat) : Int)) r) :
    Ev (fun k => signalmanref01_Octets.l1 k t acc ((8 * i : Nat) : Int) 0 7) r := by
  refine count 8 (fun s k => signalmanref01_Octets.l1 k t acc ((8 * i : Nat) : Int) (val ((t.drop (8 * i + 8 - s)).take s)) (7 - (s : Int))) r ?_ ?_ |> fun z => Ev.to z (by funext k; simp [val]) rfl
  · intro s hs hn
    have hp : 8 * i + (7 - s) < t.length := by omega
    have e1 : t.drop (8 * i + 8 - (s + 1)) = t[8 * i + (7 - s)] :: t.drop (8 * i + 8 - s) := by
      rw [show 8 * i + 8 - (s + 1) = 8 * i + (7 - s) from by omega, List.drop_eq_getElem_cons hp, show 8 * i + (7 - s) + 1 = 8 * i + 8 - s from by omega]
    have e2 : val ((t.drop (8 * i + 8 - (s + 1))).take (s + 1)) = (if t[8 * i + (7 - s)] then 1 else 0) + 2 * val ((t.drop (8 * i + 8 - s)).take s) := by
      rw [e1, List.take_succ_cons]; rfl
    have hv0 := val_lo ((t.drop (8 * i + 8 - s)).take s)
    have hv : val ((t.drop (8 * i + 8 - s)).take s) < 128 := by
      have h1 := val_hi ((t.drop (8 * i + 8 - s)).take s)
      have h2 : ((t.drop (8 * i + 8 - s)).take s).length ≤ 7 := by simp; omega
      have h3 : (2 : Int) ^ ((t.drop (8 * i + 8 - s)).take s).length ≤ 2 ^ 7 := by exact_mod_cast Nat.pow_le_pow_right (by decide) h2
      omega
    refine Ev.step (fun k => ?_) hn
    simp only [signalmanref01_Octets.l1]
    have ew : wrap64 (((8 * i : Nat) : Int) + (7 - (s : Int))) = ((8 * i + (7 - s) : Nat) : Int) := by rw [w64 _ (by omega) (by omega)]; omega
    have ed : wrap64 (7 - (s : Int) - 1) = 7 - ((s + 1 : Nat) : Int) := by rw [w64 _ (by omega) (by omega)]; omega
    rw [if_pos (by omega), ew, if_pos (by omega), if_pos (by omega), rdOf_nat false t _ hp, ed, e2]
    cases hti : t[8 * i + (7 - s)] with
    | false => rw [if_neg (by simp), if_neg (by simp)]; congr 1; omega
    | true => rw [if_pos rfl, if_pos rfl]; congr 1; omega
  · refine Ev.step (fun k => ?_) h
    simp only [signalmanref01_Octets.l1]
    rw [if_neg (by omega), if_pos hacc, w64 _ (by omega) (by omega)]
    rfl
theorem RefOctets_ev (t : List Bool) (ht : t.length ≤ 140737488355328) : Ev (fun k => signalmanref01_Octets.f k t) (octs (t.length / 8) t) := by
  refine count (t.length / 8) (fun i k => signalmanref01_Octets.l0 k t (octs i t) ((8 * i : Nat) : Int)) _ ?_ ?_ |> fun z => Ev.to z (by funext k; rfl) rfl
  · intro i hi hn
    refine Ev.step (fun k => ?_) (RefOctets_in t ht i (by omega) (octs i t) (by rw [octs_length]; omega) _ (by rw [← octs_snoc]; exact hn))
    simp only [signalmanref01_Octets.l0]
    rw [w64 _ (by omega) (by omega), if_pos (by omega)]
  · refine Ev.step (fun k => ?_) (Ev.now _)
    simp only [signalmanref01_Octets.l0]
    rw [w64 _ (by omega) (by omega), if_neg (by omega)]

/-- The check of octets. -/
def chk (p : List Int) : List Int := octs 2 (Crc.tail (Crc.crc (bitsOf p)))
theorem chk_length (p : List Int) : (chk p).length = 2 := octs_length _ _
theorem chk_bits (p : List Int) : bitsOf (chk p) = Crc.tail (Crc.crc (bitsOf p)) := by
  unfold chk
  rw [bits_octs 2 _ (by rw [Crc.tail_length]; omega), List.take_of_length_le (by rw [Crc.tail_length]; omega)]
theorem chk_range (p : List Int) : ∀ x ∈ chk p, 0 ≤ x ∧ x < 256 := fun x hx => octs_range _ _ x hx
theorem RefCheck_ev (l : List Int) (hl : l.length ≤ 10000000000000) (hb : ∀ x ∈ l, 0 ≤ x ∧ x < 256) : Ev (fun k => signalmanref01_Check.f k l) (chk l) := by
  unfold signalmanref01_Check.f
  refine Ev.bind (RefBits_ev l hl hb) ?_
  refine Ev.to (RefOctets_ev (Crc.outBits (bitsOf l)) (by rw [Crc.outBits_tail, Crc.tail_length]; omega)) rfl ?_
  rw [Crc.outBits_tail, Crc.tail_length]; rfl
theorem crc_lt (t : List Bool) : Crc.crc t < 65536 := Crc.run_lt t 65535 (by decide)
theorem crc_append (s t : List Bool) : Crc.crc (s ++ t) = Crc.run (Crc.crc s) t := Crc.run_append _ s t
/-- Octets are right just if the last two are the check of the others. -/
theorem right_eq (q s : List Int) (hs : s.length = 2) (hb : ∀ x ∈ s, 0 ≤ x ∧ x < 256) : Crc.crc (bitsOf (q ++ s)) = 61624 ↔ chk q = s := by
  rw [bitsOf_append, crc_append, Crc.right_iff _ (crc_lt _) _ (by rw [bitsOf_length]; omega)]
  constructor
  · intro h
    unfold chk
    rw [← h]
    have := octs_bits' s hb
    rwa [hs] at this
  · intro h
    rw [← h, chk_bits]
theorem Right_ev (l : List Int) (hl : l.length ≤ 10000000000000) (hb : ∀ x ∈ l, 0 ≤ x ∧ x < 256) : Ev (fun k => rest_Right.f k l) (decide (2 ≤ l.length) && decide (Crc.crc (bitsOf l) = 61624)) := by
  unfold rest_Right.f
  by_cases h2 : 2 ≤ l.length
  · refine Ev.congr (fun k => if_pos (by omega)) ?_
    refine Ev.bind (Of_ev l hl hb) ?_
    refine Ev.bind (CrcBits_ev (bitsOf l) (by rw [bitsOf_length]; omega)) ?_
    refine Ev.to (Ev.now _) rfl ?_
    rw [decide_eq_true h2, Bool.true_and, Bool.eq_iff_iff]
    simp only [beq_iff_eq, decide_eq_true_eq]
    omega
  · refine Ev.congr (fun k => if_neg (by omega)) ?_
    rw [decide_eq_false h2, Bool.false_and]
    exact Ev.now _

theorem bitN_nat (m j : Nat) : bitN (m : Int) j = m.testBit j := by
  rw [Nat.testBit_eq_decide_div_mod_eq]
  unfold bitN
  have e : ((m : Int) / 2 ^ j % 2) = ((m / 2 ^ j % 2 : Nat) : Int) := by simp
  rw [e]
  have h2 : m / 2 ^ j % 2 = 0 ∨ m / 2 ^ j % 2 = 1 := by omega
  rcases h2 with h2 | h2 <;> rw [h2] <;> rfl
theorem tail_two (c : Nat) : bitsOf [(((65535 ^^^ c) % 256 : Nat) : Int), (((65535 ^^^ c) / 256 % 256 : Nat) : Int)] = Crc.tail c := by
  have e1 : ∀ j, j < 8 → bitN (((65535 ^^^ c) % 256 : Nat) : Int) j = !(c.testBit j) := by
    intro j hj
    rw [bitN_nat, show (256 : Nat) = 2 ^ 8 from rfl, Nat.testBit_mod_two_pow, Nat.testBit_xor, Crc.ones_bit ⟨j, by omega⟩, decide_eq_true hj]
    simp
  have e2 : ∀ j, j < 8 → bitN (((65535 ^^^ c) / 256 % 256 : Nat) : Int) j = !(c.testBit (8 + j)) := by
    intro j hj
    rw [bitN_nat, show (256 : Nat) = 2 ^ 8 from rfl, Nat.testBit_mod_two_pow, Nat.testBit_div_two_pow, Nat.testBit_xor, decide_eq_true hj]
    rw [show j + 8 = 8 + j from by omega, Crc.ones_bit ⟨8 + j, by omega⟩]
    simp
  apply List.ext_getElem
  · rw [bitsOf_length, Crc.tail_length]; rfl
  · intro i h1 h2
    have hi : i < 16 := by rw [Crc.tail_length] at h2; exact h2
    rw [bitsOf_get _ i h1 (by show i / 8 < 2; omega)]
    have et : (Crc.tail c)[i]'h2 = !(c.testBit i) := by simp [Crc.tail, Crc.bits16]
    rw [et]
    by_cases h8 : i < 8
    · have : i / 8 = 0 := by omega
      simp only [this]
      show bitN _ (i % 8) = _
      rw [show i % 8 = i from by omega]
      exact e1 i h8
    · have : i / 8 = 1 := by omega
      simp only [this]
      refine (e2 (i % 8) (by omega)).trans ?_
      rw [show 8 + i % 8 = i from by omega]
theorem Check_ev (l : List Int) (hl : l.length ≤ 10000000000000) (hb : ∀ x ∈ l, 0 ≤ x ∧ x < 256) : Ev (fun k => rest_Check.f k l) (chk l) := by
  unfold rest_Check.f
  refine Ev.bind (Of_ev l hl hb) ?_
  refine Ev.bind (CrcBits_ev (bitsOf l) (by rw [bitsOf_length]; omega)) ?_
  refine Ev.to (Ev.now _) rfl ?_
  have hc := crc_lt (bitsOf l)
  have hx : Go.bits .xor .u16 65535 ((Crc.crc (bitsOf l) : Nat) : Int) = ((65535 ^^^ Crc.crc (bitsOf l) : Nat) : Int) := u16_xor_nat 65535 _ (by decide) hc
  rw [hx]
  unfold chk
  rw [← tail_two]
  have hr : ∀ x ∈ [(((65535 ^^^ Crc.crc (bitsOf l)) % 256 : Nat) : Int), (((65535 ^^^ Crc.crc (bitsOf l)) / 256 % 256 : Nat) : Int)], 0 ≤ x ∧ x < 256 := by
    intro x hx
    simp only [List.mem_cons, List.not_mem_nil, or_false] at hx
    rcases hx with rfl | rfl <;> omega
  have := octs_bits' _ hr
  simp only [List.length_cons, List.length_nil, Nat.zero_add, Nat.reduceAdd] at this
  rw [this]
  simp
theorem With_ev (l : List Int) (hl : l.length ≤ 10000000000000) (hb : ∀ x ∈ l, 0 ≤ x ∧ x < 256) : Ev (fun k => rest_With.f k l) (l ++ chk l) := by
  unfold rest_With.f
  refine Ev.congr (f := fun k => (rest_Check.f k l).bind fun t129 => (if (([] : List Int) ++ l).length + t129.length < 140737488355328 then (some (([] : List Int) ++ l ++ t129)) else none)) (fun k => ?_) ?_
  · rw [if_pos (by simp; omega), Option.bind_some]
  · refine Ev.bind (Check_ev l hl hb) ?_
    refine Ev.congr (fun k => ?_) (Ev.now _)
    rw [if_pos (by rw [chk_length]; simp; omega), List.nil_append]

theorem RefWhole_ev (l : List Int) (hl : l.length ≤ 10000000000000) (hb : ∀ x ∈ l, 0 ≤ x ∧ x < 256) : Ev (fun k => signalmanref01_Whole.f k l) (l ++ chk l) := by
  unfold signalmanref01_Whole.f
  refine Ev.congr (f := fun k => (signalmanref01_Check.f k l).bind fun t129 => (if (([] : List Int) ++ l).length + t129.length < 140737488355328 then (some (([] : List Int) ++ l ++ t129)) else none)) (fun k => ?_) ?_
  · rw [if_pos (by simp; omega), Option.bind_some]
  · refine Ev.bind (RefCheck_ev l hl hb) ?_
    refine Ev.congr (fun k => ?_) (Ev.now _)
    rw [if_pos (by rw [chk_length]; simp; omega), List.nil_append]


/-- What stands between two flags, judged. -/
def rightP (p : List Int) : Bool := decide (2 ≤ p.length) && decide (Crc.crc (bitsOf p) = 61624)
def judgedP (p : List Int) : List Int × Int := if p.length < 5 then ([], 5) else if 279 < p.length then ([], 6) else if rightP p = true then (p.take (p.length - 2), 0) else ([], 7)
def judged (t : List Bool) : List Int × Int :=
  if (bared 0 t).2 = 0 then (if (bared 0 t).1.length % 8 = 0 then judgedP (octs ((bared 0 t).1.length / 8) (bared 0 t).1) else ([], 8)) else ([], 4)
theorem bared_len_ (t : List Bool) : ∀ n, (bared n t).1.length ≤ t.length := by
  induction t with
  | nil => intro n; simp only [bared]; split <;> exact Nat.le_refl _
  | cons b t ih =>
    intro n
    simp only [bared, List.length_cons]
    have h0 := ih 0
    have h1 := ih (if b = true then n + 1 else 0)
    generalize bared (if b = true then n + 1 else 0) t = r at *
    split
    · split
      · exact Nat.zero_le _
      · omega
    · split
      · simp only [List.length_cons]; omega
      · exact Nat.zero_le _
theorem Judge_ev (t : List Bool) (ht : t.length ≤ 1000000) : Ev (fun k => flag_Judge.f k t) (judged t) := by
  have hl := bared_len_ t 0
  unfold flag_Judge.f judged
  refine Ev.bind (Take_ev t (by omega)) ?_
  generalize bared 0 t = r at *
  by_cases h : r.2 = 0
  · simp only [if_pos h]
    refine Ev.bind (Octets_ev r.1 (by omega)) ?_
    by_cases h8 : r.1.length % 8 = 0
    · simp only [if_pos h8, if_true]
      have hp := octs_length (r.1.length / 8) r.1
      have hb := octs_range (r.1.length / 8) r.1
      generalize octs (r.1.length / 8) r.1 = p at *
      unfold judgedP
      by_cases h5 : p.length < 5
      · simp only [if_pos h5, if_pos (show (p.length : Int) < 5 by omega)]
        exact Ev.now _
      · simp only [if_neg h5, if_neg (show ¬ (p.length : Int) < 5 by omega)]
        by_cases h9 : 279 < p.length
        · simp only [if_pos h9, if_pos (show (p.length : Int) > 279 by omega)]
          exact Ev.now _
        · simp only [if_neg h9, if_neg (show ¬ (p.length : Int) > 279 by omega)]
          refine Ev.bind (Right_ev p (by omega) hb) ?_
          unfold rightP
          have ew : wrap64 ((p.length : Int) - 2) = ((p.length - 2 : Nat) : Int) := by unfold wrap64; omega
          simp only [ew, if_pos (show 0 ≤ ((p.length - 2 : Nat) : Int) by omega), if_pos (show ((p.length - 2 : Nat) : Int) ≤ (p.length : Int) by omega), Int.toNat_natCast]
          by_cases hr : (decide (2 ≤ p.length) && decide (Crc.crc (bitsOf p) = 61624)) = true
          · simp only [if_pos hr]
            exact Ev.now _
          · simp only [if_neg hr]
            exact Ev.now _
    · simp only [if_neg h8, if_neg (show ¬ (8 : Int) = 0 by decide)]
      exact Ev.now _
  · simp only [if_neg h]
    exact Ev.now _
/-- One bound on the rounds for all lists up to a length. -/
theorem unif : ∀ (n : Nat) (Q : List Bool → Nat → Prop), (∀ t, t.length ≤ n → ∃ K, ∀ k, K ≤ k → Q t k) → ∃ K, ∀ t, t.length ≤ n → ∀ k, K ≤ k → Q t k := by
  intro n
  induction n with
  | zero =>
    intro Q h
    obtain ⟨K, hK⟩ := h [] (Nat.le_refl _)
    refine ⟨K, fun t ht k hk => ?_⟩
    obtain rfl : t = [] := List.eq_nil_of_length_eq_zero (by omega)
    exact hK k hk
  | succ n ih =>
    intro Q h
    obtain ⟨K, hK⟩ := h [] (Nat.zero_le _)
    obtain ⟨K1, h1⟩ := ih (fun t => Q (true :: t)) (fun t ht => h (true :: t) (by simp; omega))
    obtain ⟨K2, h2⟩ := ih (fun t => Q (false :: t)) (fun t ht => h (false :: t) (by simp; omega))
    refine ⟨max K (max K1 K2), fun t ht k hk => ?_⟩
    cases t with
    | nil => exact hK k (by omega)
    | cons b t =>
      simp only [List.length_cons] at ht
      cases b with
      | true => exact h1 t (by omega) k (by omega)
      | false => exact h2 t (by omega) k (by omega)
theorem Judge_all : ∃ K, ∀ t : List Bool, t.length ≤ 3000 → ∀ k, K ≤ k → flag_Judge.f k t = some (judged t) := unif 3000 (fun t k => flag_Judge.f k t = some (judged t)) (fun t ht => Judge_ev t (by omega))
theorem Full_ev : ∃ K, ∀ k, K ≤ k → signalmanlaw05_awake.Full k := by
  obtain ⟨K, h⟩ := Judge_all
  exact ⟨max K 200, fun k hk => ⟨by omega, fun t ht => ⟨_, h t ht k (by omega)⟩⟩⟩
theorem Awake_ev : Ev (fun k => signalmanlaw05_awake.f k) true := by
  obtain ⟨K, h⟩ := Full_ev
  refine ⟨K, fun k hk => ?_⟩
  exact (signalmanlaw05_awake.f_full k).2 (h k hk)

def flagBits : List Bool := [false, true, true, true, true, true, true, false]
theorem stuffed_len (t : List Bool) : ∀ n, (stuffed n t).length ≤ 2 * t.length := by
  induction t with
  | nil => intro n; simp [stuffed]
  | cons b t ih =>
    intro n
    have h0 := ih 0
    have h1 := ih (n + 1)
    simp only [stuffed, List.length_cons]
    repeat' split
    all_goals (simp only [List.length_cons] at *; omega)
theorem whole_range (q : List Int) (hb : ∀ x ∈ q, 0 ≤ x ∧ x < 256) : ∀ x ∈ q ++ chk q, 0 ≤ x ∧ x < 256 := by
  intro x hx
  rcases List.mem_append.1 hx with h | h
  · exact hb x h
  · exact chk_range q x h
theorem unit_len (q : List Int) (hq : q.length ≤ 1000) : (stuffed 0 (bitsOf (q ++ chk q))).length ≤ 20000 := by
  have h1 := stuffed_len (bitsOf (q ++ chk q)) 0
  have h2 := bitsOf_length (q ++ chk q)
  rw [List.length_append, chk_length] at h2
  omega
theorem Frame_ev (q : List Int) (hq : q.length ≤ 1000) (hb : ∀ x ∈ q, 0 ≤ x ∧ x < 256) : Ev (fun k => flag_Frame.f k q) (if q.length < 3 then ([], 5) else if 277 < q.length then ([], 6) else (stuffed 0 (bitsOf (q ++ chk q)) ++ flagBits, 0)) := by
  unfold flag_Frame.f
  have ew : wrap64 ((q.length : Int) + 2) = ((q.length + 2 : Nat) : Int) := by unfold wrap64; omega
  have hu := unit_len q hq
  by_cases h3 : q.length < 3
  · simp only [ew, if_pos h3, if_pos (show ((q.length + 2 : Nat) : Int) < 5 by omega)]
    exact Ev.now _
  · by_cases h9 : 277 < q.length
    · simp only [ew, if_neg h3, if_pos h9, if_neg (show ¬ ((q.length + 2 : Nat) : Int) < 5 by omega), if_pos (show ((q.length + 2 : Nat) : Int) > 279 by omega)]
      exact Ev.now _
    · simp only [ew, if_neg h3, if_neg h9, if_neg (show ¬ ((q.length + 2 : Nat) : Int) < 5 by omega), if_neg (show ¬ ((q.length + 2 : Nat) : Int) > 279 by omega)]
      refine Ev.bind (With_ev q (by omega) hb) ?_
      refine Ev.bind (Of_ev (q ++ chk q) (by rw [List.length_append, chk_length]; omega) (whole_range q hb)) ?_
      refine Ev.bind (Put_ev (bitsOf (q ++ chk q)) (by rw [bitsOf_length, List.length_append, chk_length]; omega)) ?_
      refine Ev.bind (show Ev (fun _ => flag_Flag.f) flagBits from Ev.now _) ?_
      have hf : flagBits.length = 8 := rfl
      simp only [hf, if_pos (show (stuffed 0 (bitsOf (q ++ chk q))).length + 8 < 140737488355328 by omega)]
      exact Ev.now _
theorem RefFrame_ev (q : List Int) (hq : q.length ≤ 1000) (hb : ∀ x ∈ q, 0 ≤ x ∧ x < 256) : Ev (fun k => signalmanref01_Frame.f k q) (stuffed 0 (bitsOf (q ++ chk q)) ++ flagBits) := by
  unfold signalmanref01_Frame.f
  have hu := unit_len q hq
  refine Ev.bind (RefWhole_ev q (by omega) hb) ?_
  refine Ev.bind (RefBits_ev (q ++ chk q) (by rw [List.length_append, chk_length]; omega) (whole_range q hb)) ?_
  refine Ev.bind (RefPut_ev (bitsOf (q ++ chk q)) (by rw [bitsOf_length, List.length_append, chk_length]; omega)) ?_
  refine Ev.bind (show Ev (fun _ => signalmanref01_Flag.f) flagBits from Ev.now _) ?_
  have hf : flagBits.length = 8 := rfl
  simp only [hf, if_pos (show (stuffed 0 (bitsOf (q ++ chk q))).length + 8 < 140737488355328 by omega)]
  exact Ev.now _
theorem judged_unit (q : List Int) (h3 : 3 ≤ q.length) (h9 : q.length ≤ 277) (hb : ∀ x ∈ q, 0 ≤ x ∧ x < 256) : judged (stuffed 0 (bitsOf (q ++ chk q))) = (q, 0) := by
  have hlen : (q ++ chk q).length = q.length + 2 := by rw [List.length_append, chk_length]
  have hbl := bitsOf_length (q ++ chk q)
  unfold judged
  rw [bared_stuffed _ 0 (by omega)]
  simp only [if_true]
  rw [if_pos (by omega)]
  have e8 : (bitsOf (q ++ chk q)).length / 8 = (q ++ chk q).length := by omega
  rw [e8, octs_bits' _ (whole_range q hb)]
  unfold judgedP
  rw [if_neg (by omega), if_neg (by omega)]
  have hr : rightP (q ++ chk q) = true := by
    unfold rightP
    rw [Bool.and_eq_true]
    exact ⟨decide_eq_true (by omega), decide_eq_true ((right_eq q (chk q) (chk_length q) (chk_range q)).2 rfl)⟩
  rw [if_pos hr]
  have et : (q ++ chk q).take ((q ++ chk q).length - 2) = q := by rw [show (q ++ chk q).length - 2 = q.length by omega]; exact List.take_left
  rw [et]

/-! The ear as a machine, over whole frames. -/
theorem runF_from (J : List Bool → Option (List Int)) : ∀ (b : List Bool) (s : Ear.St) (o : List (Int × List Int)), b.foldl (fun a on => ((Ear.bitF J a.1 on).1, a.2 ++ (Ear.bitF J a.1 on).2.toList)) (s, o) = ((Ear.runF J s b).1, o ++ (Ear.runF J s b).2) := by
  intro b
  induction b with
  | nil => intro s o; simp [Ear.runF]
  | cons x b ih =>
    intro s o
    have h1 := ih (Ear.bitF J s x).1 (o ++ (Ear.bitF J s x).2.toList)
    have h2 := ih (Ear.bitF J s x).1 ([] ++ (Ear.bitF J s x).2.toList)
    unfold Ear.runF
    rw [List.foldl_cons, List.foldl_cons, h1, h2]
    simp
theorem runF_append (J : List Bool → Option (List Int)) (s : Ear.St) (a b : List Bool) : Ear.runF J s (a ++ b) = ((Ear.runF J (Ear.runF J s a).1 b).1, (Ear.runF J s a).2 ++ (Ear.runF J (Ear.runF J s a).1 b).2) := by
  conv => lhs; unfold Ear.runF
  rw [List.foldl_append]
  exact runF_from J b _ _
theorem runF_cons (J : List Bool → Option (List Int)) (s : Ear.St) (x : Bool) (b : List Bool) : Ear.runF J s (x :: b) = ((Ear.runF J (Ear.bitF J s x).1 b).1, (Ear.bitF J s x).2.toList ++ (Ear.runF J (Ear.bitF J s x).1 b).2) := by
  have h := runF_append J s [x] b
  have e : Ear.runF J s [x] = ((Ear.bitF J s x).1, (Ear.bitF J s x).2.toList) := by simp [Ear.runF]
  rw [List.singleton_append, e] at h
  exact h
def trail : Nat → List Bool → Nat
  | n, [] => n
  | n, b :: t => if b = true then (if n + 1 = 5 then trail 0 t else trail (n + 1) t) else trail 0 t
theorem trail_lt (t : List Bool) : ∀ n, n < 5 → trail n t < 5 := by
  induction t with
  | nil => intro n h; exact h
  | cons b t ih =>
    intro n h
    unfold trail
    split
    · split
      · exact ih 0 (by omega)
      · exact ih (n + 1) (by omega)
    · exact ih 0 (by omega)
theorem bit_one (J : List Bool → Option (List Int)) (v : List Bool) (n m : Nat) (h : n < 6) : Ear.bitF J ⟨v, n, true, m⟩ true = (⟨v ++ [true], n + 1, true, m⟩, none) := by
  simp only [Ear.bitF, if_true]
  rw [if_neg (by omega)]
theorem bit_nought (J : List Bool → Option (List Int)) (v : List Bool) (n m : Nat) (h : n < 6) (hv : v.length ≤ 2686) : Ear.bitF J ⟨v, n, true, m⟩ false = (⟨v ++ [false], 0, true, m⟩, none) := by
  simp only [Ear.bitF, if_true]
  rw [if_neg (by simp), if_neg (by omega), if_neg (by omega)]
theorem run_stuffed (J : List Bool → Option (List Int)) (m : Nat) (t : List Bool) : ∀ n v, n < 5 → v.length + 2 * t.length ≤ 2600 → Ear.runF J ⟨v, n, true, m⟩ (stuffed n t) = (⟨v ++ stuffed n t, trail n t, true, m⟩, []) := by
  induction t with
  | nil => intro n v h _; simp [stuffed, Ear.runF, trail]
  | cons b t ih =>
    intro n v h hl
    simp only [List.length_cons] at hl
    cases b with
    | false =>
      have e : stuffed n (false :: t) = false :: stuffed 0 t := by simp [stuffed]
      rw [e, runF_cons, bit_nought J v n m (by omega) (by omega), ih 0 (v ++ [false]) (by omega) (by rw [List.length_append, List.length_singleton]; omega)]
      simp [trail]
    | true =>
      by_cases h5 : n + 1 = 5
      · have e : stuffed n (true :: t) = true :: false :: stuffed 0 t := by simp [stuffed, h5]
        rw [e, runF_cons, bit_one J v n m (by omega), runF_cons, bit_nought J _ (n + 1) m (by omega) (by rw [List.length_append, List.length_singleton]; omega), ih 0 (v ++ [true] ++ [false]) (by omega) (by simp only [List.length_append, List.length_singleton]; omega)]
        simp [trail, h5]
      · have e : stuffed n (true :: t) = true :: stuffed (n + 1) t := by simp [stuffed, h5]
        rw [e, runF_cons, bit_one J v n m (by omega), ih (n + 1) (v ++ [true]) (by omega) (by rw [List.length_append, List.length_singleton]; omega)]
        simp [trail, h5]
theorem bit_flag (J : List Bool → Option (List Int)) (v : List Bool) (m : Nat) : Ear.bitF J ⟨v, 6, true, m⟩ false = (⟨[], 0, true, m⟩, Ear.flagF J (v ++ [false])) := by
  simp only [Ear.bitF, if_true]
  rw [if_neg (by simp)]
theorem run_flag (J : List Bool → Option (List Int)) (m n : Nat) (v : List Bool) (hn : n < 6) (hv : v.length ≤ 2600) : Ear.runF J ⟨v, n, true, m⟩ [false, true, true, true, true, true, true, false] = (⟨[], 0, true, m⟩, (Ear.flagF J (v ++ [false, true, true, true, true, true, true, false])).toList) := by
  rw [runF_cons, bit_nought J v n m hn (by omega), runF_cons, bit_one J _ 0 m (by omega), runF_cons, bit_one J _ 1 m (by omega), runF_cons, bit_one J _ 2 m (by omega), runF_cons, bit_one J _ 3 m (by omega), runF_cons, bit_one J _ 4 m (by omega), runF_cons, bit_one J _ 5 m (by omega), runF_cons, bit_flag]
  simp [Ear.runF]
theorem run_unit (J : List Bool → Option (List Int)) (m : Nat) (t : List Bool) (q : List Int) (ht : t.length ≤ 1000) (h1 : 1 ≤ (stuffed 0 t).length) (hJ : J (stuffed 0 t) = some q) : Ear.runF J ⟨[], 0, true, m⟩ (stuffed 0 t ++ [false, true, true, true, true, true, true, false]) = (⟨[], 0, true, m⟩, [(0, q)]) := by
  have hl := trail_lt t 0 (by omega)
  have hs : (stuffed 0 t).length ≤ 2 * t.length := by
    have key : ∀ (t : List Bool) (n : Nat), (stuffed n t).length ≤ 2 * t.length := by
      intro t
      induction t with
      | nil => intro n; simp [stuffed]
      | cons b t ih =>
        intro n
        have h0 := ih 0
        have h1 := ih (n + 1)
        simp only [stuffed, List.length_cons]
        repeat' split
        all_goals (simp only [List.length_cons] at *; omega)
    exact key t 0
  rw [runF_append, run_stuffed J m t 0 [] (by omega) (by simp; omega), List.nil_append]
  show ((Ear.runF J ⟨stuffed 0 t, trail 0 t, true, m⟩ [false, true, true, true, true, true, true, false]).1, [] ++ (Ear.runF J ⟨stuffed 0 t, trail 0 t, true, m⟩ [false, true, true, true, true, true, true, false]).2) = _
  rw [run_flag J m _ _ (by omega) (by omega)]
  have hf : Ear.flagF J (stuffed 0 t ++ [false, true, true, true, true, true, true, false]) = some (0, q) := by
    unfold Ear.flagF
    have hlen : (stuffed 0 t ++ [false, true, true, true, true, true, true, false]).length = (stuffed 0 t).length + 8 := by simp
    rw [hlen, if_neg (by omega), Nat.add_sub_cancel, List.take_left, hJ]
  rw [hf]
  rfl
theorem bit_up (J : List Bool → Option (List Int)) (s : Ear.St) (h : s.ones < 6) : (Ear.bitF J s true).1.ones = s.ones + 1 := by
  unfold Ear.bitF
  by_cases hf : s.found = true
  · rw [if_pos hf, if_pos rfl, if_neg (by omega)]
  · rw [if_neg hf, if_pos rfl]
    split <;> rfl
theorem bit_down (J : List Bool → Option (List Int)) (s : Ear.St) : (Ear.bitF J s false).1.ones = 0 := by
  unfold Ear.bitF
  by_cases hf : s.found = true
  · rw [if_pos hf, if_neg (by simp)]
    split
    · rfl
    · split <;> rfl
  · rw [if_neg hf, if_neg (by simp)]
    split
    · rfl
    · split <;> rfl
theorem bit_end (J : List Bool → Option (List Int)) (s : Ear.St) (h : s.ones = 6) : ∃ m, (Ear.bitF J s false).1 = ⟨[], 0, true, m⟩ := by
  unfold Ear.bitF
  by_cases hf : s.found = true
  · rw [if_pos hf, if_neg (by simp), if_pos h]
    exact ⟨_, rfl⟩
  · rw [if_neg hf, if_neg (by simp), if_pos h]
    exact ⟨_, rfl⟩
theorem run_any_flag (J : List Bool → Option (List Int)) (s : Ear.St) : ∃ m, (Ear.runF J s [false, true, true, true, true, true, true, false]).1 = ⟨[], 0, true, m⟩ := by
  have h0 := bit_down J s
  rw [runF_cons]
  generalize (Ear.bitF J s false).1 = s0 at h0 ⊢
  have step : ∀ (s : Ear.St) (n : Nat), s.ones = n → n < 6 → (Ear.bitF J s true).1.ones = n + 1 := fun s n h hn => by rw [bit_up J s (by omega), h]
  have h1 := step s0 0 h0 (by omega)
  have h2 := step _ 1 h1 (by omega)
  have h3 := step _ 2 h2 (by omega)
  have h4 := step _ 3 h3 (by omega)
  have h5 := step _ 4 h4 (by omega)
  have h6 := step _ 5 h5 (by omega)
  obtain ⟨m, hm⟩ := bit_end J _ h6
  refine ⟨m, ?_⟩
  simp only [runF_cons]
  rw [hm]
  rfl
theorem run_clear (J : List Bool → Option (List Int)) (s : Ear.St) : ∃ m, (Ear.runF J s ([false, true, true, true, true, true, true, false] ++ [false, true, true, true, true, true, true, false])).1 = ⟨[], 0, true, m⟩ := by
  rw [runF_append]
  exact run_any_flag J _

def shortP (ll : List (List Int)) : Bool := ll.all (fun q => decide (q.length ≤ 60)) && decide (ll.length ≤ 12)
theorem rd_L2_nat (ll : List (List Int)) (i : Nat) (h : i < ll.length) : rd_L2 ll (i : Int) = ll[i] := by
  simp [rd_L2, List.getD_eq_getElem?_getD, List.getElem?_eq_getElem h]
theorem Short_in (ll : List (List Int)) (hl : ll.length ≤ 9223372036854775807) : ∀ d i, i + d = ll.length → (∀ j (hj : j < ll.length), j < i → ll[j].length ≤ 60) → Ev (fun k => signalmanlaw05_short.l0 k ll (i : Int)) (shortP ll) := by
  intro d
  induction d with
  | zero =>
    intro i hi h
    obtain rfl : i = ll.length := by omega
    refine Ev.step (f := fun k => some (shortP ll)) (fun k => ?_) (Ev.now _)
    simp only [signalmanlaw05_short.l0]
    rw [if_neg (by omega)]
    have : ll.all (fun q => decide (q.length ≤ 60)) = true := by
      rw [List.all_eq_true]
      intro q hq
      obtain ⟨j, hj, rfl⟩ := List.getElem_of_mem hq
      exact decide_eq_true (h j hj hj)
    unfold shortP
    rw [this, Bool.true_and]
    congr 1
    exact decide_eq_decide.2 (by omega)
  | succ d ih =>
    intro i hi h
    have hlt : i < ll.length := by omega
    by_cases h6 : ll[i].length ≤ 60
    · have ih := ih (i + 1) (by omega) (fun j hj hji => by
        by_cases e : j = i
        · subst e; exact h6
        · exact h j hj (by omega))
      refine Ev.step (f := fun k => signalmanlaw05_short.l0 k ll ((i + 1 : Nat) : Int)) (fun k => ?_) ih
      simp only [signalmanlaw05_short.l0]
      rw [if_pos (by omega), if_pos (by omega), rd_L2_nat ll i hlt, if_neg (by omega), w64s i (by omega)]
    · have e : shortP ll = false := by
        unfold shortP
        rw [show ll.all (fun q => decide (q.length ≤ 60)) = false from by
          rw [List.all_eq_false]
          exact ⟨ll[i], List.getElem_mem _, by simpa using h6⟩]
        rfl
      rw [e]
      refine Ev.step (f := fun k => some false) (fun k => ?_) (Ev.now _)
      simp only [signalmanlaw05_short.l0]
      rw [if_pos (by omega), if_pos (by omega), rd_L2_nat ll i hlt, if_pos (by omega)]
theorem Short_ev (ll : List (List Int)) (hl : ll.length ≤ 9223372036854775807) : Ev (fun k => signalmanlaw05_short.f k ll) (shortP ll) :=
  Short_in ll hl ll.length 0 (by omega) (fun j _ h => absurd h (Nat.not_lt_zero j))
theorem short_spec {ll : List (List Int)} (h : shortP ll = true) : ll.length ≤ 12 ∧ ∀ i (hi : i < ll.length), ll[i].length ≤ 60 := by
  unfold shortP at h
  rw [Bool.and_eq_true, List.all_eq_true] at h
  exact ⟨of_decide_eq_true h.2, fun i hi => of_decide_eq_true (h.1 _ (List.getElem_mem hi))⟩
/-- One bound on the rounds for few things. -/
theorem all_ev (n : Nat) (Q : Nat → Nat → Prop) (h : ∀ i, i < n → ∃ K, ∀ k, K ≤ k → Q i k) : ∃ K, ∀ k, K ≤ k → ∀ i, i < n → Q i k := by
  induction n with
  | zero => exact ⟨0, fun k _ i hi => absurd hi (Nat.not_lt_zero i)⟩
  | succ n ih =>
    obtain ⟨K, hK⟩ := ih (fun i hi => h i (by omega))
    obtain ⟨L, hL⟩ := h n (by omega)
    refine ⟨max K L, fun k hk i hi => ?_⟩
    by_cases e : i = n
    · subst e; exact hL k (by omega)
    · exact hK k (by omega) i (by omega)

theorem J_eq {k : Nat} {t : List Bool} (h : flag_Judge.f k t = some (judged t)) : signalmanlaw05_awake.J k t = if (judged t).2 = 0 then some (judged t).1 else none := by
  unfold signalmanlaw05_awake.J
  rw [h]
theorem FlagUnits : signalmanlaw05_FlagUnits.Pure := by
  intro ll p hw hp hl
  obtain ⟨K1, h1⟩ := Awake_ev
  obtain ⟨K2, h2⟩ := Short_ev ll hl
  obtain ⟨K3, h3⟩ := Judge_all
  obtain ⟨K4, h4⟩ : ∃ K, ∀ k, K ≤ k → (p.length ≤ 300 → signalmanref01_Bits.f k p = some (bitsOf p)) := by
    by_cases hp3 : p.length ≤ 300
    · obtain ⟨K, h⟩ := RefBits_ev p (by omega) hp
      exact ⟨K, fun k hk _ => h k hk⟩
    · exact ⟨0, fun k _ h => absurd h hp3⟩
  obtain ⟨K5, h5⟩ : ∃ K, ∀ k, K ≤ k → ∀ i, i < ll.length → (rd_L2 ll (i : Int)).length ≤ 60 → signalmanref01_Frame.f k (rd_L2 ll (i : Int)) = some (stuffed 0 (bitsOf (rd_L2 ll (i : Int) ++ chk (rd_L2 ll (i : Int)))) ++ flagBits) := by
    refine all_ev ll.length (fun i k => (rd_L2 ll (i : Int)).length ≤ 60 → signalmanref01_Frame.f k (rd_L2 ll (i : Int)) = some (stuffed 0 (bitsOf (rd_L2 ll (i : Int) ++ chk (rd_L2 ll (i : Int)))) ++ flagBits)) (fun i hi => ?_)
    rw [rd_L2_nat ll i hi]
    by_cases h6 : ll[i].length ≤ 60
    · obtain ⟨K, h⟩ := RefFrame_ev ll[i] (by omega) (hw _ (List.getElem_mem hi))
      exact ⟨K, fun k hk _ => h k hk⟩
    · exact ⟨0, fun k _ h => absurd h h6⟩
  obtain ⟨k, hk⟩ : ∃ k, k = max K1 (max K2 (max K3 (max K4 K5))) := ⟨_, rfl⟩
  refine ⟨k, shortP ll, h1 k (by omega), h2 k (by omega), fun hs hp3 => ⟨_, h4 k (by omega) hp3, ?_, (short_spec hs).1, ?_⟩, fun s => run_clear _ s⟩
  · rw [bitsOf_length]; omega
  · intro i hi
    have h6 : (rd_L2 ll (i : Int)).length ≤ 60 := by rw [rd_L2_nat ll i hi]; exact (short_spec hs).2 i hi
    refine ⟨h6, fun h3q => ⟨_, h5 k (by omega) i hi h6, ?_, fun m => ?_⟩⟩
    · rw [List.length_append]
      have := stuffed_len (bitsOf (rd_L2 ll (i : Int) ++ chk (rd_L2 ll (i : Int)))) 0
      rw [bitsOf_length, List.length_append, chk_length] at this
      have : flagBits.length = 8 := rfl
      omega
    · have hb : ∀ x ∈ rd_L2 ll (i : Int), 0 ≤ x ∧ x < 256 := by rw [rd_L2_nat ll i hi]; exact hw _ (List.getElem_mem hi)
      generalize rd_L2 ll (i : Int) = q at h6 h3q hb
      have hlb : (bitsOf (q ++ chk q)).length = 8 * (q.length + 2) := by rw [bitsOf_length, List.length_append, chk_length]
      have hlo := stuffed_lo (bitsOf (q ++ chk q)) 0
      have hhi := stuffed_len (bitsOf (q ++ chk q)) 0
      refine run_unit _ m (bitsOf (q ++ chk q)) q (by omega) (by omega) ?_
      rw [J_eq (h3 _ (by omega) k (by omega)), judged_unit q h3q (by omega) hb]
      rfl

end Go.Proofs.Ytonhgiclaieamaa.Pure
