/- The last step of the law FlagLong: there are rounds enough for the example. No condition. -/
import Derived.Test.YtonhgiclaieamaaMFlagLongx
import Derived.Test.YtonhgiclaieamaaBase
import Derived.Laws.BitsAllLaws
namespace Go.Proofs.Ytonhgiclaieamaa.Pure
open Go Go.RowKit Go.Proofs.Ytonhgiclaieamaa.MFlagLong Go.Proofs.YtonhgiclaieamaaW.PrintWords Go.Proofs.YtonhgiclaieamaaW.PrintLast Go.Proofs.YtonhgiclaieamaaW.PrintMore Go.Proofs.Ytonhgiclaieamaa.Base

theorem wf8 {x : Int} (h : (Lit.int .u8 x).wf = true) : 0 ≤ x ∧ x < 256 := by
  simp [Lit.wf, IntKind.min, IntKind.max, IntKind.signed, IntKind.bits] at h; omega
theorem wf8s {l : List Int} (h : ∀ x ∈ l, (Lit.int .u8 x).wf = true) : ∀ x ∈ l, 0 ≤ x ∧ x < 256 := fun x hx => wf8 (h x hx)

/-- Bits with a nought behind each five ones; 'n' ones stand ahead. -/
def stuffed : Nat → List Bool → List Bool
  | _, [] => []
  | n, b :: t => if b then (if n + 1 = 5 then true :: false :: stuffed 0 t else true :: stuffed (n + 1) t) else false :: stuffed 0 t
/-- And back. -/
def bared : Nat → List Bool → List Bool × Int
  | n, [] => if n = 5 then ([], 5) else ([], 0)
  | n, b :: t => if n = 5 then (if b then ([], 4) else bared 0 t)
      else (if (bared (if b then n + 1 else 0) t).2 = 0 then (b :: (bared (if b then n + 1 else 0) t).1, 0) else ([], (bared (if b then n + 1 else 0) t).2))
theorem bared_none (t : List Bool) : ∀ n, (bared n t).2 ≠ 0 → (bared n t).1 = [] := by
  induction t with
  | nil => intro n h; simp only [bared] at *; split <;> rfl
  | cons b t ih =>
    intro n h
    simp only [bared] at *
    by_cases h5 : n = 5
    · rw [if_pos h5] at *
      cases b
      · exact ih 0 (by simpa using h)
      · rfl
    · rw [if_neg h5] at *
      generalize bared (if b = true then n + 1 else 0) t = r at *
      split
      · rename_i h0; rw [if_pos h0] at h; exact absurd rfl h
      · rfl
theorem stuffed_lo (t : List Bool) : ∀ n, t.length ≤ (stuffed n t).length := by
  induction t with
  | nil => intro n; simp [stuffed]
  | cons b t ih =>
    intro n
    have h0 := ih 0
    have h1 := ih (n + 1)
    simp only [stuffed]
    split
    · split <;> simp only [List.length_cons] <;> omega
    · simp only [List.length_cons]; omega
theorem stuffed_hi (t : List Bool) : ∀ n, n < 5 → 5 * (stuffed n t).length ≤ 6 * t.length + n := by
  induction t with
  | nil => intro n _; simp [stuffed]
  | cons b t ih =>
    intro n hn
    have h0 := ih 0 (by omega)
    simp only [stuffed]
    split
    · split
      · simp only [List.length_cons]; omega
      · have h1 := ih (n + 1) (by omega)
        simp only [List.length_cons]; omega
    · simp only [List.length_cons]; omega
theorem bared_stuffed (t : List Bool) : ∀ n, n < 5 → bared n (stuffed n t) = (t, 0) := by
  induction t with
  | nil => intro n hn; simp only [stuffed, bared]; rw [if_neg (by omega)]
  | cons b t ih =>
    intro n hn
    have h0 := ih 0 (by omega)
    cases b with
    | false =>
      simp only [stuffed, Bool.false_eq_true, if_false]
      simp only [bared]
      rw [if_neg (by omega)]
      simp only [Bool.false_eq_true, if_false, h0, if_true]
    | true =>
      simp only [stuffed, if_true]
      by_cases h5 : n + 1 = 5
      · rw [if_pos h5]
        simp only [bared]
        rw [if_neg (by omega)]
        simp only [if_true, Bool.false_eq_true, if_false, h5, h0]
      · rw [if_neg h5]
        simp only [bared]
        rw [if_neg (by omega)]
        simp only [if_true, ih (n + 1) (by omega)]
theorem stuffed_bared (t : List Bool) : (∀ n u, n < 5 → bared n t = (u, 0) → stuffed n u = t) ∧ (∀ u, bared 5 t = (u, 0) → t = false :: stuffed 0 u) := by
  induction t with
  | nil =>
    refine ⟨fun n u hn h => ?_, fun u h => ?_⟩
    · simp only [bared] at h
      rw [if_neg (by omega)] at h
      rw [← (Prod.mk.inj h).1]; rfl
    · simp only [bared] at h
      rw [if_pos trivial] at h
      exact absurd (Prod.mk.inj h).2 (by decide)
  | cons b t ih =>
    refine ⟨fun n u hn h => ?_, fun u h => ?_⟩
    · simp only [bared] at h
      rw [if_neg (by omega)] at h
      cases b with
      | false =>
        simp only [Bool.false_eq_true, if_false] at h
        by_cases h0 : (bared 0 t).2 = 0
        · rw [if_pos h0] at h
          rw [← (Prod.mk.inj h).1]
          simp only [stuffed, Bool.false_eq_true, if_false]
          rw [ih.1 0 (bared 0 t).1 (by omega) (Prod.ext rfl h0)]
        · rw [if_neg h0] at h
          exact absurd (Prod.mk.inj h).2 h0
      | true =>
        simp only [if_true] at h
        by_cases h0 : (bared (n + 1) t).2 = 0
        · rw [if_pos h0] at h
          rw [← (Prod.mk.inj h).1]
          simp only [stuffed, if_true]
          by_cases h5 : n + 1 = 5
          · rw [if_pos h5]
            rw [h5] at h0 ⊢
            rw [← ih.2 (bared 5 t).1 (Prod.ext rfl h0)]
          · rw [if_neg h5, ih.1 (n + 1) (bared (n + 1) t).1 (by omega) (Prod.ext rfl h0)]
        · rw [if_neg h0] at h
          exact absurd (Prod.mk.inj h).2 h0
    · simp only [bared, if_true] at h
      cases b with
      | false =>
        simp only [Bool.false_eq_true, if_false] at h
        rw [ih.1 0 u (by omega) h]
      | true =>
        simp only [if_true] at h
        exact absurd (Prod.mk.inj h).2 (by decide)
theorem stuffed_app (a b : List Bool) : ∀ n, stuffed n (a ++ false :: b) = stuffed n (a ++ [false]) ++ stuffed 0 b := by
  induction a with
  | nil => intro n; simp [stuffed]
  | cons c a ih =>
    intro n
    simp only [List.cons_append, stuffed]
    split
    · split
      · rw [ih]; rfl
      · rw [ih]; rfl
    · rw [ih]; rfl
theorem stuffed_inj (a b : List Bool) (h : stuffed 0 a = stuffed 0 b) : a = b := by
  have ha := bared_stuffed a 0 (by omega)
  have hb := bared_stuffed b 0 (by omega)
  rw [h, hb] at ha
  exact (Prod.mk.inj ha).1.symm

/-- What a loop has so far, and what it still gets. -/
def onto (acc : List Bool) (r : List Bool × Int) : List Bool × Int := if r.2 = 0 then (acc ++ r.1, 0) else ([], r.2)
theorem onto_nil (t : List Bool) (n : Nat) : onto [] (bared n t) = bared n t := by
  unfold onto
  split
  · rename_i h; exact Prod.ext rfl h.symm
  · rename_i h; exact Prod.ext (bared_none t n h).symm rfl
theorem onto_step (acc : List Bool) (b : Bool) (t : List Bool) (n : Nat) (h : n ≠ 5) : onto (acc ++ [b]) (bared (if b then n + 1 else 0) t) = onto acc (bared n (b :: t)) := by
  rw [show bared n (b :: t) = (if n = 5 then (if b then ([], 4) else bared 0 t)
      else (if (bared (if b then n + 1 else 0) t).2 = 0 then (b :: (bared (if b then n + 1 else 0) t).1, 0) else ([], (bared (if b then n + 1 else 0) t).2))) from rfl, if_neg h]
  generalize bared (if b = true then n + 1 else 0) t = r
  unfold onto
  by_cases h0 : r.2 = 0
  · rw [if_pos h0, if_pos h0, if_pos rfl]; simp
  · rw [if_neg h0, if_neg h0, if_neg (by exact h0)]
theorem Take_in (t : List Bool) (hl : t.length < 1000000000000) : ∀ d i n acc, i + d = t.length → n ≤ 5 → acc.length ≤ i →
    Ev (fun k => stuff_Take.l0 k acc ((n : Nat) : Int) t (t.length : Int) (i : Int)) (onto acc (bared n (t.drop i))) := by
  intro d
  induction d with
  | zero =>
    intro i n acc hi hn ha
    rw [List.drop_of_length_le (by omega)]
    refine Ev.to (Ev.step (g := fun k => stuff_Take.l0 k acc ((n : Nat) : Int) t (t.length : Int) (i : Int)) (fun k => ?_) (Ev.now (if n = 5 then ([], 5) else (acc, 0)))) rfl ?_
    · simp only [stuff_Take.l0]
      rw [if_neg (by omega)]
      by_cases h5 : n = 5
      · rw [if_pos (by omega), if_pos h5]
      · rw [if_neg (by omega), if_neg h5]
    · by_cases h5 : n = 5
      · simp [bared, h5, onto]
      · simp [bared, h5, onto]
  | succ d ih =>
    intro i n acc hi hn ha
    have h1 : i < t.length := by omega
    have ea : t.drop i = t[i] :: t.drop (i + 1) := List.drop_eq_getElem_cons h1
    rw [ea]
    by_cases h5 : n = 5
    · subst h5
      cases hti : t[i] with
      | true =>
        refine Ev.to (Ev.step (g := fun k => stuff_Take.l0 k acc ((5 : Nat) : Int) t (t.length : Int) (i : Int)) (fun k => ?_) (Ev.now ([], 4))) rfl ?_
        · simp only [stuff_Take.l0]
          rw [if_pos (by omega), if_pos (by omega), if_pos (by omega), if_pos (by omega), rdOf_nat false t i h1, hti, if_pos rfl]
        · simp [bared, onto]
      | false =>
        refine Ev.to (Ev.step (g := fun k => stuff_Take.l0 k acc ((5 : Nat) : Int) t (t.length : Int) (i : Int)) (fun k => ?_) (ih (i + 1) 0 acc (by omega) (by omega) (by omega))) rfl ?_
        · simp only [stuff_Take.l0]
          rw [if_pos (by omega), if_pos (by omega), if_pos (by omega), if_pos (by omega), rdOf_nat false t i h1, hti, if_neg (by simp), w64s i (by omega)]
          rfl
        · simp [bared]
    · rw [← onto_step acc t[i] _ n h5]
      cases hti : t[i] with
      | false =>
        refine Ev.step (fun k => ?_) (ih (i + 1) 0 (acc ++ [false]) (by omega) (by omega) (by simp; omega))
        simp only [stuff_Take.l0]
        rw [if_pos (by omega), if_pos (by omega), if_pos (by omega), if_neg (by omega), if_pos (by omega), rdOf_nat false t i h1, hti, w64s i (by omega), Option.bind_some, if_neg (by simp)]
        rfl
      | true =>
        refine Ev.step (fun k => ?_) (ih (i + 1) (n + 1) (acc ++ [true]) (by omega) (by omega) (by simp; omega))
        simp only [stuff_Take.l0]
        rw [if_pos (by omega), if_pos (by omega), if_pos (by omega), if_neg (by omega), if_pos (by omega), rdOf_nat false t i h1, hti, w64s i (by omega), w64s n (by omega), Option.bind_some, if_pos rfl]
theorem Take_ev (t : List Bool) (hl : t.length < 1000000000000) : Ev (fun k => stuff_Take.f k t) (bared 0 t) :=
  Ev.to (Take_in t hl t.length 0 0 [] (by omega) (by omega) (by simp)) (by funext k; rfl) (by simp [onto_nil])

theorem Low_ev (t : List Bool) (hl : t.length ≤ 140737488355328) : Ev (fun k => tape_Low.f k t) (low t) := by
  refine count t.length (fun i k => tape_Low.l0 k (low (t.take i)) t (t.length : Int) (i : Int)) (low t) ?_ ?_ |> fun z => Ev.to z (by funext k; simp [tape_Low.f, low, val]) rfl
  · intro i hi hn
    have et : t.take (i + 1) = t.take i ++ [t[i]] := List.take_succ_eq_append_getElem hi
    refine Ev.step (fun k => ?_) hn
    simp only [tape_Low.l0]
    rw [if_pos (by omega), if_pos (by omega), if_pos (by omega), rdOf_nat false t i hi, w64s i (by omega)]
    by_cases h8 : i < 8
    · have e8 : low (t.take (i + 1)) = low (t.take i) + (if t[i] then 2 ^ i else 0) := by
        unfold low
        rw [List.take_take, List.take_take, show min 8 (i + 1) = i + 1 from by omega, show min 8 i = i from by omega, et, val_snoc]
        have : (t.take i).length = i := by rw [List.length_take]; omega
        rw [this]
      cases hti : t[i] with
      | false => rw [if_neg (by simp), e8, hti]; simp
      | true =>
        rw [if_pos rfl, if_pos (by omega), e8, hti]
        have hv : low (t.take i) < 2 ^ i := by
          have := val_hi ((t.take i).take 8)
          have hle : ((t.take i).take 8).length = i := by simp; omega
          rw [hle] at this; exact this
        have hv0 := low_lo (t.take i)
        have hp : (2 : Int) ^ i ≤ 128 := by
          have : (2 : Nat) ^ i ≤ 2 ^ 7 := Nat.pow_le_pow_right (by decide) (by omega)
          exact_mod_cast this
        have hp0 : (0 : Int) < 2 ^ i := Int.pow_pos (by decide)
        have es : shl .u8 1 (i : Int) = 2 ^ i := by
          unfold shl
          rw [IntKind.wrap_u8]
          have : min ((i : Int).toNat) IntKind.u8.bits = i := by show min ((i : Int).toNat) 8 = i; omega
          rw [this, Int.one_mul]; omega
        rw [es]
        have ej : Go.bits .or .u8 (low (t.take i)) (2 ^ i) = low (t.take i) + 2 ^ i := by
          have := bits_join .u8 8 (by decide) wraps_u8 i (2 ^ i) (low (t.take i)) (by omega) (by simp) (by omega) hv0 hv (by omega)
          have comm : Go.bits .or .u8 (low (t.take i)) (2 ^ i) = Go.bits .or .u8 (2 ^ i) (low (t.take i)) := by
            simp only [Go.bits]; rw [BitVec.or_comm]
          rw [comm, this]; omega
        rw [ej]; simp
    · have e8 : low (t.take (i + 1)) = low (t.take i) := by
        unfold low
        rw [List.take_take, List.take_take, show min 8 (i + 1) = 8 from by omega, show min 8 i = 8 from by omega]
      rw [e8]
      cases hti : t[i] with
      | false => rw [if_neg (by simp)]
      | true => rw [if_pos rfl, if_neg (by omega)]
  · refine Ev.step (fun k => ?_) (Ev.now _)
    simp only [tape_Low.l0]
    rw [if_neg (by omega), List.take_length]

theorem Octets_ev (t : List Bool) (hl : t.length ≤ 140737488355328) : Ev (fun k => tape_Tape_Octets.f k t) (if t.length % 8 = 0 then (octs (t.length / 8) t, 0) else ([], 8)) := by
  by_cases h8 : t.length % 8 = 0
  · rw [if_pos h8]
    obtain ⟨n, hn⟩ : ∃ n, t.length = 8 * n := ⟨t.length / 8, by omega⟩
    have hq : t.length / 8 = n := by omega
    rw [hq]
    refine count n (fun i k => tape_Tape_Octets.l0 k t (octs i t) ((8 * i : Nat) : Int)) _ ?_ ?_ |> fun z => Ev.to z (by funext k; unfold tape_Tape_Octets.f; rw [if_pos (by omega)]; rfl) rfl
    · intro i hi hnx
      have ew : wrap64 (((8 * i : Nat) : Int) + 8) = ((8 * (i + 1) : Nat) : Int) := by rw [w64 _ (by omega) (by omega)]; omega
      have hlow : Ev (fun k => tape_Low.f k ((t.take (8 * (i + 1))).drop (8 * i))) (low (t.drop (8 * i))) := by
        refine Ev.to (Low_ev _ (by simp; omega)) rfl ?_
        unfold low
        congr 1
        rw [List.drop_take, List.take_take, show min 8 (8 * (i + 1) - 8 * i) = 8 from by omega]
      refine Ev.step (f := fun k => (tape_Low.f k ((t.take (8 * (i + 1))).drop (8 * i))).bind fun x => if (octs i t).length < 140737488355328 then tape_Tape_Octets.l0 k t (octs i t ++ [x]) ((8 * (i + 1) : Nat) : Int) else none) (fun k => ?_) ?_
      · simp only [tape_Tape_Octets.l0]
        rw [ew, if_pos (by omega), if_pos (by omega), if_pos (by omega), if_pos (by omega)]
        simp only [Int.toNat_natCast]
      · refine Ev.bind hlow ?_
        refine Ev.congr (fun k => ?_) hnx
        rw [if_pos (by rw [octs_length]; omega), octs_snoc]
    · refine Ev.step (fun k => ?_) (Ev.now _)
      simp only [tape_Tape_Octets.l0]
      rw [if_neg (by omega)]
  · rw [if_neg h8]
    refine Ev.congr (fun k => ?_) (Ev.now _)
    unfold tape_Tape_Octets.f
    rw [if_neg (by omega)]

theorem bit_and (b : Int) (j : Nat) (h0 : 0 ≤ b) (h1 : b < 256) (hj : j < 8) : ((Go.bits .and .u8 (shr .u8 b (j : Int)) 1) == 1) = bitN b j := by
  have e : shr .u8 b (j : Int) = b / 2 ^ j := shr_small (k := .u8) (x := b) (y := (j : Int)) rfl (by show (j : Int) ≤ 8; omega) ▸ rfl
  have h2 : 0 ≤ b / 2 ^ j := Int.ediv_nonneg h0 (Int.pow_nonneg (by decide))
  have h3 : b / 2 ^ j < 256 := by
    have := Int.ediv_le_self (2 ^ j) h0
    omega
  rw [e, show (1 : Int) = 2 ^ 1 - 1 from rfl, bits_mask .u8 8 (by decide) wraps_u8 1 (by decide) _ h2 h3]
  rfl

theorem Of_in (l : List Int) (i : Nat) (hi : i < l.length) (h0 : 0 ≤ l[i]) (h1 : l[i] < 256) (acc : List Bool) (r : List Bool) (hacc : acc.length + 8 < 140737488355328)
    (h : Ev (fun k => tape_Of.l0 k (acc ++ octet l[i]) l (l.length : Int) (wrap64 ((i : Int) + 1))) r) :
    Ev (fun k => tape_Of.l1 k acc l[i] l (l.length : Int) (i : Int) 0) r := by
  refine count 8 (fun j k => tape_Of.l1 k (acc ++ (List.range j).map (bitN l[i])) l[i] l (l.length : Int) (i : Int) (j : Int)) r ?_ ?_ |> fun z => Ev.to z (by funext k; simp) rfl
  · intro j hj hn
    refine Ev.step (fun k => ?_) hn
    have e : (List.range (j + 1)).map (bitN l[i]) = (List.range j).map (bitN l[i]) ++ [bitN l[i] j] := by rw [List.range_succ, List.map_append]; rfl
    simp only [tape_Of.l1]
    rw [if_pos (by omega), if_pos (by omega), if_pos (by simp; omega), bit_and _ _ h0 h1 hj, w64s j (by omega), e, List.append_assoc]
  · refine Ev.step (fun k => ?_) h
    simp only [tape_Of.l1]
    rw [if_neg (by decide)]
    rfl

theorem Of_ev (l : List Int) (hl : l.length ≤ 10000000000000) (hb : ∀ x ∈ l, 0 ≤ x ∧ x < 256) : Ev (fun k => tape_Of.f k l) (bitsOf l) := by
  refine count l.length (fun i k => tape_Of.l0 k (bitsOf (l.take i)) l (l.length : Int) (i : Int)) (bitsOf l) ?_ ?_ |> fun z => Ev.to z (by funext k; simp [tape_Of.f, bitsOf]) rfl
  · intro i hi hn
    have hx := hb l[i] (List.getElem_mem hi)
    have hlen : (bitsOf (l.take i)).length = 8 * i := by rw [bitsOf_length, List.length_take]; omega
    have key := Of_in l i hi hx.1 hx.2 (bitsOf (l.take i)) (bitsOf l) (by omega) (by rw [w64s i (by omega), ← bitsOf_take_succ l i hi]; exact hn)
    refine Ev.step (fun k => ?_) key
    simp only [tape_Of.l0]
    rw [if_pos (by omega), if_pos (by omega), if_pos (by omega), rd_nat l i hi]
  · refine Ev.step (fun k => ?_) (Ev.now _)
    simp only [tape_Of.l0]
    rw [if_neg (by omega), List.take_length]

theorem wraps_u16 (n : Int) (h0 : 0 ≤ n) (h1 : n < 2 ^ 16) : IntKind.u16.wrap n = n := by
  simp [IntKind.wrap, IntKind.bits, IntKind.signed]; omega
theorem Step_eq (r : Nat) (hr : r < 65536) (b : Bool) : rest_Step.f (r : Int) b = some ((Crc.stepN r b : Nat) : Int) := by
  have e2 : ((r : Int) / (2 : Int)) = (((r >>> 1) : Nat) : Int) := by rw [Nat.shiftRight_eq_div_pow]; omega
  have h2 : r >>> 1 < 65536 := by rw [Nat.shiftRight_eq_div_pow]; omega
  have hx : Go.bits .xor .u16 ((r >>> 1 : Nat) : Int) 33800 = (((r >>> 1) ^^^ 33800 : Nat) : Int) := u16_xor_nat (r >>> 1) 33800 h2 (by decide)
  have test : ∀ c : Nat, c < 2 → ((Go.bits .and .u16 (Go.bits .xor .u16 (r : Int) (c : Int)) 1) = 1 ↔ (r.testBit 0 != decide (c = 1)) = true) := by
    intro c hc
    rw [u16_xor_nat r c hr (by omega)]
    have hlt : r ^^^ c < 2 ^ 16 := Nat.xor_lt_two_pow hr (by omega)
    rw [show (1 : Int) = 2 ^ 1 - 1 from rfl, bits_mask .u16 16 (by decide) wraps_u16 1 (by decide) _ (by omega) (by exact_mod_cast hlt)]
    have e : (((r ^^^ c : Nat) : Int) % 2 ^ 1 = 2 ^ 1 - 1) ↔ (r ^^^ c) % 2 = 1 := by omega
    rw [e]
    have hb : (r ^^^ c).testBit 0 = (r.testBit 0 ^^ c.testBit 0) := Nat.testBit_xor ..
    have hc2 : c.testBit 0 = decide (c = 1) := by rw [Nat.testBit_zero]; rcases (show c = 0 ∨ c = 1 by omega) with rfl | rfl <;> rfl
    rw [Nat.testBit_zero, hc2] at hb
    rw [← decide_eq_true_iff (p := (r ^^^ c) % 2 = 1), hb]
  unfold rest_Step.f Crc.stepN
  rw [e2]
  cases b with
  | true =>
    have this : (Go.bits .and .u16 (Go.bits .xor .u16 (r : Int) 1) 1) = 1 ↔ (r.testBit 0 != true) = true := test 1 (by decide)
    rw [if_pos rfl]
    by_cases h : (r.testBit 0 != true) = true
    · rw [if_pos (this.mpr h), if_pos h, hx]
    · rw [if_neg (fun h' => h (this.mp h')), if_neg h]
  | false =>
    have this : (Go.bits .and .u16 (Go.bits .xor .u16 (r : Int) 0) 1) = 1 ↔ (r.testBit 0 != false) = true := test 0 (by decide)
    rw [if_neg (by decide)]
    by_cases h : (r.testBit 0 != false) = true
    · rw [if_pos (this.mpr h), if_pos h, hx]
    · rw [if_neg (fun h' => h (this.mp h')), if_neg h]
theorem CrcBits_ev (t : List Bool) (hl : t.length < 140737488355328) : Ev (fun k => rest_Bits.f k t) ((Crc.crc t : Nat) : Int) := by
  refine count t.length (fun i k => rest_Bits.l0 k ((Crc.run 65535 (t.take i) : Nat) : Int) t (t.length : Int) (i : Int)) _ ?_ ?_ |> fun z => Ev.to z (by funext k; simp [rest_Bits.f, Crc.run]) rfl
  · intro i hi hn
    have hr := Crc.run_lt (t.take i) 65535 (by decide)
    have et : Crc.run 65535 (t.take (i + 1)) = Crc.stepN (Crc.run 65535 (t.take i)) t[i] := foldl_take_succ _ _ _ _ hi
    refine Ev.step (fun k => ?_) hn
    simp only [rest_Bits.l0]
    rw [if_pos (by omega), if_pos (by omega), if_pos (by omega), rdOf_nat false t i hi, Step_eq _ hr, Option.bind_some, w64s i (by omega), et]
  · refine Ev.step (fun k => ?_) (Ev.now _)
    simp only [rest_Bits.l0]
    rw [if_neg (by omega), List.take_length]
    rfl

theorem Right_ev (l : List Int) (hl : l.length ≤ 10000000000000) (hb : ∀ x ∈ l, 0 ≤ x ∧ x < 256) : Ev (fun k => rest_Right.f k l) (decide (2 ≤ l.length) && decide (Crc.crc (bitsOf l) = 61624)) := by
  unfold rest_Right.f
  by_cases h2 : 2 ≤ l.length
  · refine Ev.congr (fun k => if_pos (by omega)) ?_
    refine Ev.bind (Of_ev l hl hb) ?_
    refine Ev.bind (CrcBits_ev (bitsOf l) (by rw [bitsOf_length]; omega)) ?_
    refine Ev.to (Ev.now _) rfl ?_
    rw [decide_eq_true h2, Bool.true_and, Bool.eq_iff_iff]
    simp only [beq_iff_eq, decide_eq_true_eq]
    omega
  · refine Ev.congr (fun k => if_neg (by omega)) ?_
    rw [decide_eq_false h2, Bool.false_and]
    exact Ev.now _

/-- What stands between two flags, judged. -/
def rightP (p : List Int) : Bool := decide (2 ≤ p.length) && decide (Crc.crc (bitsOf p) = 61624)
def judgedP (p : List Int) : List Int × Int := if p.length < 5 then ([], 5) else if 279 < p.length then ([], 6) else if rightP p = true then (p.take (p.length - 2), 0) else ([], 7)
def judged (t : List Bool) : List Int × Int :=
  if (bared 0 t).2 = 0 then (if (bared 0 t).1.length % 8 = 0 then judgedP (octs ((bared 0 t).1.length / 8) (bared 0 t).1) else ([], 8)) else ([], 4)
theorem bared_len_ (t : List Bool) : ∀ n, (bared n t).1.length ≤ t.length := by
  induction t with
  | nil => intro n; simp only [bared]; split <;> exact Nat.le_refl _
  | cons b t ih =>
    intro n
    simp only [bared, List.length_cons]
    have h0 := ih 0
    have h1 := ih (if b = true then n + 1 else 0)
    generalize bared (if b = true then n + 1 else 0) t = r at *
    split
    · split
      · exact Nat.zero_le _
      · omega
    · split
      · simp only [List.length_cons]; omega
      · exact Nat.zero_le _
theorem Judge_ev (t : List Bool) (ht : t.length ≤ 1000000) : Ev (fun k => flag_Judge.f k t) (judged t) := by
  have hl := bared_len_ t 0
  unfold flag_Judge.f judged
  refine Ev.bind (Take_ev t (by omega)) ?_
  generalize bared 0 t = r at *
  by_cases h : r.2 = 0
  · simp only [if_pos h]
    refine Ev.bind (Octets_ev r.1 (by omega)) ?_
    by_cases h8 : r.1.length % 8 = 0
    · simp only [if_pos h8, if_true]
      have hp := octs_length (r.1.length / 8) r.1
      have hb := octs_range (r.1.length / 8) r.1
      generalize octs (r.1.length / 8) r.1 = p at *
      unfold judgedP
      by_cases h5 : p.length < 5
      · simp only [if_pos h5, if_pos (show (p.length : Int) < 5 by omega)]
        exact Ev.now _
      · simp only [if_neg h5, if_neg (show ¬ (p.length : Int) < 5 by omega)]
        by_cases h9 : 279 < p.length
        · simp only [if_pos h9, if_pos (show (p.length : Int) > 279 by omega)]
          exact Ev.now _
        · simp only [if_neg h9, if_neg (show ¬ (p.length : Int) > 279 by omega)]
          refine Ev.bind (Right_ev p (by omega) hb) ?_
          unfold rightP
          have ew : wrap64 ((p.length : Int) - 2) = ((p.length - 2 : Nat) : Int) := by unfold wrap64; omega
          simp only [ew, if_pos (show 0 ≤ ((p.length - 2 : Nat) : Int) by omega), if_pos (show ((p.length - 2 : Nat) : Int) ≤ (p.length : Int) by omega), Int.toNat_natCast]
          by_cases hr : (decide (2 ≤ p.length) && decide (Crc.crc (bitsOf p) = 61624)) = true
          · simp only [if_pos hr]
            exact Ev.now _
          · simp only [if_neg hr]
            exact Ev.now _
    · simp only [if_neg h8, if_neg (show ¬ (8 : Int) = 0 by decide)]
      exact Ev.now _
  · simp only [if_neg h]
    exact Ev.now _
/-- One bound on the rounds for all lists up to a length. -/
theorem unif : ∀ (n : Nat) (Q : List Bool → Nat → Prop), (∀ t, t.length ≤ n → ∃ K, ∀ k, K ≤ k → Q t k) → ∃ K, ∀ t, t.length ≤ n → ∀ k, K ≤ k → Q t k := by
  intro n
  induction n with
  | zero =>
    intro Q h
    obtain ⟨K, hK⟩ := h [] (Nat.le_refl _)
    refine ⟨K, fun t ht k hk => ?_⟩
    obtain rfl : t = [] := List.eq_nil_of_length_eq_zero (by omega)
    exact hK k hk
  | succ n ih =>
    intro Q h
    obtain ⟨K, hK⟩ := h [] (Nat.zero_le _)
    obtain ⟨K1, h1⟩ := ih (fun t => Q (true :: t)) (fun t ht => h (true :: t) (by simp; omega))
    obtain ⟨K2, h2⟩ := ih (fun t => Q (false :: t)) (fun t ht => h (false :: t) (by simp; omega))
    refine ⟨max K (max K1 K2), fun t ht k hk => ?_⟩
    cases t with
    | nil => exact hK k (by omega)
    | cons b t =>
      simp only [List.length_cons] at ht
      cases b with
      | true => exact h1 t (by omega) k (by omega)
      | false => exact h2 t (by omega) k (by omega)
theorem Judge_all : ∃ K, ∀ t : List Bool, t.length ≤ 3000 → ∀ k, K ≤ k → flag_Judge.f k t = some (judged t) := unif 3000 (fun t k => flag_Judge.f k t = some (judged t)) (fun t ht => Judge_ev t (by omega))
theorem Full_ev : ∃ K, ∀ k, K ≤ k → signalmanlaw05_awake.Full k := by
  obtain ⟨K, h⟩ := Judge_all
  exact ⟨max K 200, fun k hk => ⟨by omega, fun t ht => ⟨_, h t ht k (by omega)⟩⟩⟩
theorem Awake_ev : Ev (fun k => signalmanlaw05_awake.f k) true := by
  obtain ⟨K, h⟩ := Full_ev
  refine ⟨K, fun k hk => ?_⟩
  exact (signalmanlaw05_awake.f_full k).2 (h k hk)

theorem FlagLong : signalmanlaw05_FlagLong.Pure := by
  obtain ⟨K, h⟩ := Awake_ev
  exact ⟨K, h K (Nat.le_refl _)⟩

end Go.Proofs.Ytonhgiclaieamaa.Pure
