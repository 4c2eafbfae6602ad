/- Plain words of this session's own: loops that end in an answer ('Ev'), bits of octets, octets of bits, texts of bits. No program in sight. -/
import Derived.Test.YtonhgiclaieamaaWMore
namespace Go.Proofs.Ytonhgiclaieamaa.Base
open Go Go.RowKit Go.Proofs.YtonhgiclaieamaaW.PrintWords Go.Proofs.YtonhgiclaieamaaW.PrintLast Go.Proofs.YtonhgiclaieamaaW.PrintMore

theorem w64 (n : Int) (h0 : -9223372036854775808 ≤ n) (h1 : n < 9223372036854775808) : wrap64 n = n := by unfold wrap64; omega
theorem w64s (n : Nat) (h1 : n < 9223372036854775807) : wrap64 ((n : Int) + 1) = ((n + 1 : Nat) : Int) := by unfold wrap64; omega

theorem rdOf_nat {α : Type} (d : α) (xs : List α) (i : Nat) (h : i < xs.length) : rdOf d xs (i : Int) = xs[i] := by
  simp [rdOf, List.getD_eq_getElem?_getD, List.getElem?_eq_getElem h]
theorem rd_nat (xs : List Int) (i : Nat) (h : i < xs.length) : rd xs (i : Int) = xs[i] := by
  simp [rd, List.getD_eq_getElem?_getD, List.getElem?_eq_getElem h]

/-- A loop that counts: each round leads on to the next one's answer. -/
theorem count {ρ : Type} (n : Nat) (g : Nat → Nat → Option ρ) (r : ρ) (h : ∀ i, i < n → Ev (g (i + 1)) r → Ev (g i) r) (hn : Ev (g n) r) : Ev (g 0) r := by
  have key : ∀ d i, i + d = n → Ev (g i) r := by
    intro d
    induction d with
    | zero => intro i hi; obtain rfl : i = n := by omega
              exact hn
    | succ d ih => intro i hi; exact h i (by omega) (ih (i + 1) (by omega))
  exact key n 0 (by omega)
theorem count_from {ρ : Type} (m n : Nat) (hm : m ≤ n) (g : Nat → Nat → Option ρ) (r : ρ) (h : ∀ i, m ≤ i → i < n → Ev (g (i + 1)) r → Ev (g i) r) (hn : Ev (g n) r) : Ev (g m) r := by
  have key : ∀ d i, m ≤ i → i + d = n → Ev (g i) r := by
    intro d
    induction d with
    | zero => intro i _ hi; obtain rfl : i = n := by omega
              exact hn
    | succ d ih => intro i h1 hi; exact h i h1 (by omega) (ih (i + 1) (by omega) (by omega))
  exact key (n - m) m (Nat.le_refl _) (by omega)
theorem Ev.to {α : Type} {g f : Nat → Option α} {r q : α} (h : Ev g r) (hg : g = f) (hr : r = q) : Ev f q := by subst hg; subst hr; exact h
theorem Ev.uniq {α : Type} {g : Nat → Option α} {r q : α} (h : Ev g r) (h' : Ev g q) : r = q := by
  obtain ⟨K, h⟩ := h
  obtain ⟨L, h'⟩ := h'
  have a := h (max K L) (by omega)
  have b := h' (max K L) (by omega)
  rw [a] at b
  exact Option.some.inj b

theorem foldl_take_succ {α σ : Type} (f : σ → α → σ) (s : σ) (xs : List α) (i : Nat) (h : i < xs.length) : (xs.take (i + 1)).foldl f s = f ((xs.take i).foldl f s) xs[i] := by
  rw [List.take_succ_eq_append_getElem h, List.foldl_append]; rfl

/-- Bit number j. -/
def bitN (b : Int) (j : Nat) : Bool := (b / 2 ^ j % 2 == 1)
def octet (b : Int) : List Bool := (List.range 8).map (bitN b)
theorem octet_length (b : Int) : (octet b).length = 8 := by simp [octet]
def bitsOf (l : List Int) : List Bool := l.flatMap octet
theorem bitsOf_nil : bitsOf [] = [] := rfl
theorem bitsOf_cons (b : Int) (l : List Int) : bitsOf (b :: l) = octet b ++ bitsOf l := by simp [bitsOf]
theorem bitsOf_append (l m : List Int) : bitsOf (l ++ m) = bitsOf l ++ bitsOf m := by simp [bitsOf]
theorem bitsOf_length (l : List Int) : (bitsOf l).length = 8 * l.length := by
  induction l with
  | nil => rfl
  | cons b l ih => rw [bitsOf_cons, List.length_append, octet_length, ih, List.length_cons]; omega
theorem bitsOf_take_succ (l : List Int) (i : Nat) (h : i < l.length) : bitsOf (l.take (i + 1)) = bitsOf (l.take i) ++ octet l[i] := by
  rw [List.take_succ_eq_append_getElem h, bitsOf_append]; simp [bitsOf]
theorem bitsOf_get? (l : List Int) : ∀ i, (bitsOf l)[i]? = l[i / 8]?.map (fun b => bitN b (i % 8)) := by
  induction l with
  | nil => intro i; simp [bitsOf]
  | cons b l ih =>
    intro i
    rw [bitsOf_cons]
    by_cases h : i < 8
    · rw [List.getElem?_append_left (by rw [octet_length]; exact h)]
      have h0 : i / 8 = 0 := by omega
      have h1 : i % 8 = i := by omega
      rw [h0, h1]
      simp [octet, List.getElem?_map, List.getElem?_range h]
    · rw [List.getElem?_append_right (by rw [octet_length]; omega), octet_length, ih]
      have h0 : i / 8 = (i - 8) / 8 + 1 := by omega
      have h1 : i % 8 = (i - 8) % 8 := by omega
      rw [h0, h1, List.getElem?_cons_succ]
theorem bitsOf_get (l : List Int) (i : Nat) (h : i < (bitsOf l).length) (h' : i / 8 < l.length) : (bitsOf l)[i] = bitN l[i / 8] (i % 8) := by
  have := bitsOf_get? l i
  rw [List.getElem?_eq_getElem h, List.getElem?_eq_getElem h'] at this
  exact Option.some.inj this

/-- The number of bits, the lowest first. -/
def val : List Bool → Int
  | [] => 0
  | b :: t => (if b then 1 else 0) + 2 * val t
theorem val_lo (t : List Bool) : 0 ≤ val t := by
  induction t with
  | nil => simp [val]
  | cons b t ih => simp only [val]; split <;> omega
theorem val_hi (t : List Bool) : val t < 2 ^ t.length := by
  induction t with
  | nil => simp [val]
  | cons b t ih =>
    simp only [val, List.length_cons]
    rw [Int.pow_succ]
    split <;> omega
theorem val_snoc (t : List Bool) (b : Bool) : val (t ++ [b]) = val t + (if b then 2 ^ t.length else 0) := by
  induction t with
  | nil => simp [val]
  | cons c t ih =>
    simp only [List.cons_append, val, ih, List.length_cons]
    cases b
    · simp
    · simp only [if_true]; rw [Int.pow_succ]; omega
theorem val_octet_fin : ∀ b : Fin 256, val (octet (b.val : Int)) = (b.val : Int) := by decide +kernel
theorem val_octet (b : Int) (h0 : 0 ≤ b) (h1 : b < 256) : val (octet b) = b := by
  obtain ⟨n, rfl⟩ := Int.eq_ofNat_of_zero_le h0
  exact val_octet_fin ⟨n, by omega⟩
theorem octet_val_all : ∀ a b c d e f g h : Bool, octet (val [a, b, c, d, e, f, g, h]) = [a, b, c, d, e, f, g, h] := by decide +kernel
theorem octet_val (t : List Bool) (h : t.length = 8) : octet (val t) = t := by
  match t, h with
  | [a, b, c, d, e, f, g, i], _ => exact octet_val_all a b c d e f g i

/-- The first eight bits as a number. -/
def low (t : List Bool) : Int := val (t.take 8)
theorem low_octet (b : Int) (h0 : 0 ≤ b) (h1 : b < 256) : low (octet b) = b := by
  unfold low
  rw [List.take_of_length_le (by rw [octet_length]; omega)]
  exact val_octet b h0 h1
theorem low_lo (t : List Bool) : 0 ≤ low t := val_lo _
theorem low_hi (t : List Bool) : low t < 256 := by
  have h := val_hi (t.take 8)
  have hl : (t.take 8).length ≤ 8 := by simp; omega
  have : (2 : Int) ^ (t.take 8).length ≤ 2 ^ 8 := by exact_mod_cast Nat.pow_le_pow_right (by decide) hl
  unfold low; omega

/-- Whole octets of bits; what is left at the end is left out. -/
def octs : Nat → List Bool → List Int
  | 0, _ => []
  | n + 1, t => low t :: octs n (t.drop 8)
theorem octs_length (n : Nat) : ∀ t, (octs n t).length = n := by
  induction n with
  | zero => intro t; rfl
  | succ n ih => intro t; simp [octs, ih]
theorem octs_bits (l : List Int) (hb : ∀ x ∈ l, 0 ≤ x ∧ x < 256) : ∀ t, octs l.length (bitsOf l ++ t) = l := by
  induction l with
  | nil => intro t; rfl
  | cons b l ih =>
    intro t
    have h := hb b (by simp)
    rw [bitsOf_cons, List.length_cons]
    simp only [octs]
    rw [List.append_assoc]
    have e1 : low (octet b ++ (bitsOf l ++ t)) = b := by
      unfold low
      rw [List.take_left' (octet_length b)]
      exact val_octet b h.1 h.2
    have e2 : (octet b ++ (bitsOf l ++ t)).drop 8 = bitsOf l ++ t := List.drop_left' (octet_length b)
    rw [e1, e2, ih (fun x hx => hb x (by simp [hx]))]
theorem octs_bits' (l : List Int) (hb : ∀ x ∈ l, 0 ≤ x ∧ x < 256) : octs l.length (bitsOf l) = l := by
  have := octs_bits l hb []
  rwa [List.append_nil] at this
theorem octs_range (n : Nat) : ∀ t x, x ∈ octs n t → 0 ≤ x ∧ x < 256 := by
  induction n with
  | zero => intro t x hx; simp [octs] at hx
  | succ n ih =>
    intro t x hx
    simp only [octs, List.mem_cons] at hx
    rcases hx with rfl | hx
    · exact ⟨low_lo t, low_hi t⟩
    · exact ih _ _ hx
theorem bits_octs (n : Nat) : ∀ t, 8 * n ≤ t.length → bitsOf (octs n t) = t.take (8 * n) := by
  induction n with
  | zero => intro t _; simp [octs, bitsOf]
  | succ n ih =>
    intro t ht
    simp only [octs]
    rw [bitsOf_cons, ih _ (by simp; omega)]
    have e : octet (low t) = t.take 8 := octet_val _ (by simp; omega)
    rw [e, show 8 * (n + 1) = 8 + 8 * n from by omega, List.take_add]
theorem octs_snoc (n : Nat) : ∀ t, octs (n + 1) t = octs n t ++ [low (t.drop (8 * n))] := by
  induction n with
  | zero => intro t; simp [octs]
  | succ n ih =>
    intro t
    rw [show octs (n + 1 + 1) t = low t :: octs (n + 1) (t.drop 8) from rfl, ih, List.drop_drop, show octs (n + 1) t = low t :: octs n (t.drop 8) from rfl, List.cons_append, show 8 + 8 * n = 8 * (n + 1) from by omega]

/-- A bit's sign. -/
def sign (b : Bool) : Int := if b then 49 else 48
theorem sign_inj : ∀ a b, sign a = sign b → a = b := by decide
def signs (t : List Bool) : List Int := t.map sign
theorem strOfNums_toList (l : List Int) : (strOfNums l).data.toList = l.map (fun x => UInt8.ofNat x.toNat) := by
  simp [strOfNums]
end Go.Proofs.Ytonhgiclaieamaa.Base
