/- Plain words of this session's own on the check: what is left of bits, either way about; what it sees. No program in sight. -/
import Derived.Below
namespace Go.Proofs.Ytonhgiclaieamaa.Crc

def stepN (r : Nat) (b : Bool) : Nat := if (r.testBit 0 != b) then (r >>> 1) ^^^ 33800 else r >>> 1
def stepM (r : Nat) (b : Bool) : Nat := if (r.testBit 15 != b) then ((r <<< 1) % 2 ^ 16) ^^^ 4129 else (r <<< 1) % 2 ^ 16
def run (r : Nat) (t : List Bool) : Nat := t.foldl stepN r
def runM (r : Nat) (t : List Bool) : Nat := t.foldl stepM r
def crc (t : List Bool) : Nat := run 65535 t

theorem stepN_lt (r : Nat) (b : Bool) (hr : r < 65536) : stepN r b < 65536 := by
  have h : r >>> 1 < 2 ^ 16 := by rw [Nat.shiftRight_eq_div_pow]; omega
  unfold stepN
  split
  · exact Nat.xor_lt_two_pow h (by decide)
  · exact h
theorem run_lt (t : List Bool) : ∀ r, r < 65536 → run r t < 65536 := by
  induction t with
  | nil => intro r h; exact h
  | cons b t ih => intro r h; exact ih _ (stepN_lt r b h)
theorem stepM_lt (r : Nat) (b : Bool) : stepM r b < 65536 := by
  have h : (r <<< 1) % 2 ^ 16 < 2 ^ 16 := Nat.mod_lt _ (by decide)
  unfold stepM
  split
  · exact Nat.xor_lt_two_pow h (by decide)
  · exact h
theorem runM_lt (t : List Bool) : ∀ r, r < 65536 → runM r t < 65536 := by
  induction t with
  | nil => intro r h; exact h
  | cons b t ih => intro r _; exact ih _ (stepM_lt r b)
theorem stepN_bit (r : Nat) (b : Bool) (i : Nat) : (stepN r b).testBit i = (r.testBit (i + 1) ^^ ((r.testBit 0 != b) && Nat.testBit 33800 i)) := by
  unfold stepN
  split
  · rename_i h
    rw [Nat.testBit_xor, Nat.testBit_shiftRight, h, Bool.true_and, Nat.add_comm 1 i]
  · rename_i h
    rw [Nat.testBit_shiftRight, Bool.eq_false_iff.mpr h, Bool.false_and, Bool.xor_false, Nat.add_comm 1 i]
theorem stepM_bit (r : Nat) (b : Bool) (i : Nat) (hi : i < 16) : (stepM r b).testBit i = ((decide (1 ≤ i) && r.testBit (i - 1)) ^^ ((r.testBit 15 != b) && Nat.testBit 4129 i)) := by
  unfold stepM
  split
  · rename_i h
    rw [Nat.testBit_xor, Nat.testBit_mod_two_pow, Nat.testBit_shiftLeft, h, Bool.true_and, decide_eq_true hi, Bool.true_and]
  · rename_i h
    rw [Nat.testBit_mod_two_pow, Nat.testBit_shiftLeft, Bool.eq_false_iff.mpr h, Bool.false_and, Bool.xor_false, decide_eq_true hi, Bool.true_and]
theorem high (r : Nat) (hr : r < 65536) (i : Nat) (hi : 16 ≤ i) : r.testBit i = false :=
  Nat.testBit_lt_two_pow (Nat.lt_of_lt_of_le hr (Nat.pow_le_pow_right (by decide) hi : 2 ^ 16 ≤ 2 ^ i))
theorem polys : ∀ i : Fin 16, Nat.testBit 33800 i.val = Nat.testBit 4129 (15 - i.val) := by decide

/-- One is the other, turned about. -/
def Rev (r m : Nat) : Prop := ∀ i, i < 16 → r.testBit i = m.testBit (15 - i)
theorem Rev.step {r m : Nat} (h : Rev r m) (hr : r < 65536) (b : Bool) : Rev (stepN r b) (stepM m b) := by
  intro i hi
  rw [stepN_bit, stepM_bit _ _ _ (by omega)]
  have h0 := h 0 (by omega)
  rw [h0, polys ⟨i, hi⟩]
  by_cases h15 : i = 15
  · subst h15
    rw [high r hr 16 (by omega)]
    simp
  · rw [h (i + 1) (by omega), decide_eq_true (by omega), Bool.true_and]
    rfl
theorem Rev.run {r m : Nat} (t : List Bool) (h : Rev r m) (hr : r < 65536) : Rev (Crc.run r t) (runM m t) := by
  induction t generalizing r m with
  | nil => exact h
  | cons b t ih => exact ih (h.step hr b) (stepN_lt r b hr)
theorem ones_bit : ∀ i : Fin 16, Nat.testBit 65535 i.val = true := by decide
theorem Rev.ones : Rev 65535 65535 := by
  intro i hi
  rw [ones_bit ⟨i, hi⟩, ones_bit ⟨15 - i, by omega⟩]

theorem ext16 {a b : Nat} (ha : a < 65536) (hb : b < 65536) (h : ∀ i, i < 16 → a.testBit i = b.testBit i) : a = b := by
  apply Nat.eq_of_testBit_eq
  intro i
  by_cases hi : i < 16
  · exact h i hi
  · rw [high a ha i (by omega), high b hb i (by omega)]

theorem stepN_xor (a b : Nat) (x y : Bool) : stepN (a ^^^ b) (x ^^ y) = stepN a x ^^^ stepN b y := by
  apply Nat.eq_of_testBit_eq
  intro i
  rw [Nat.testBit_xor, stepN_bit, stepN_bit, stepN_bit, Nat.testBit_xor, Nat.testBit_xor]
  cases a.testBit (i + 1) <;> cases b.testBit (i + 1) <;> cases a.testBit 0 <;> cases b.testBit 0 <;> cases x <;> cases y <;> cases Nat.testBit 33800 i <;> rfl
def xors (s t : List Bool) : List Bool := List.zipWith Bool.xor s t
theorem run_xor (s : List Bool) : ∀ (t : List Bool) (a b : Nat), s.length = t.length → run (a ^^^ b) (xors s t) = run a s ^^^ run b t := by
  induction s with
  | nil => intro t a b h; cases t with
    | nil => rfl
    | cons y t => simp at h
  | cons x s ih =>
    intro t a b h
    cases t with
    | nil => simp at h
    | cons y t =>
      show run (stepN (a ^^^ b) (x ^^ y)) (xors s t) = _
      rw [stepN_xor, ih t _ _ (by simpa using h)]
      rfl
theorem run_append (r : Nat) (s t : List Bool) : run r (s ++ t) = run (run r s) t := List.foldl_append

/-- The sixteen bits of a number. -/
def bits16 (r : Nat) : List Bool := (List.range 16).map r.testBit
theorem run_self (r : Nat) : ∀ n, run r ((List.range n).map r.testBit) = r >>> n := by
  intro n
  induction n with
  | zero => rfl
  | succ n ih =>
    rw [List.range_succ, List.map_append, run_append, ih]
    show stepN (r >>> n) (r.testBit n) = _
    unfold stepN
    have h0 : (r >>> n).testBit 0 = r.testBit n := by rw [Nat.testBit_shiftRight]; rfl
    rw [h0, if_neg (by simp), ← Nat.shiftRight_add]
theorem run_bits16 (r : Nat) (hr : r < 65536) : run r (bits16 r) = 0 := by
  have := run_self r 16
  rw [bits16, this, Nat.shiftRight_eq_div_pow]
  omega
theorem run_ones : run 0 (List.replicate 16 true) = 61624 := by decide +kernel

/-- What leaves nothing has its own bits ahead. -/
theorem run_zero (w : List Bool) : ∀ s, s < 65536 → w.length ≤ 16 → run s w = 0 → ∀ i, s.testBit i = w.getD i false := by
  induction w with
  | nil => intro s _ _ h i; have : s = 0 := h; subst this; simp
  | cons b w ih =>
    intro s hs hl h i
    have hl' : w.length ≤ 15 := by simpa using hl
    have key := ih (stepN s b) (stepN_lt s b hs) (by omega) h
    have h15 := key 15
    rw [stepN_bit, high s hs 16 (by omega), List.getD_eq_getElem?_getD, List.getElem?_eq_none (by omega)] at h15
    have hc : (s.testBit 0 != b) = false := by
      have e : Nat.testBit 33800 15 = true := by decide
      rw [e] at h15
      simpa using h15
    cases i with
    | zero => simpa using hc
    | succ i =>
      have := key i
      rw [stepN_bit, hc, Bool.false_and, Bool.xor_false] at this
      rw [this]; simp
theorem run_noughts_zero (n : Nat) : run 0 (List.replicate n false) = 0 := by
  induction n with
  | zero => rfl
  | succ n ih => show run (stepN 0 false) (List.replicate n false) = 0; exact ih
theorem run_noughts (n : Nat) : ∀ s, s < 65536 → run s (List.replicate n false) = 0 → s = 0 := by
  induction n with
  | zero => intro s _ h; exact h
  | succ n ih =>
    intro s hs h
    have h1 : stepN s false = 0 := ih _ (stepN_lt s false hs) h
    have key := run_zero [false] s hs (by decide) h1
    apply Nat.eq_of_testBit_eq
    intro i
    rw [key i]
    cases i <;> simp
/-- A burst of sixteen bits at most is seen. -/
theorem burst (k m : Nat) (w : List Bool) (hw : w.length ≤ 16) : run 0 (List.replicate k false ++ (w ++ List.replicate m false)) = 0 ↔ ∀ i, w.getD i false = false := by
  rw [run_append, run_noughts_zero, run_append]
  constructor
  · intro h i
    have h0 := run_noughts m _ (run_lt w 0 (by decide)) h
    have := run_zero w 0 (by decide) hw h0 i
    rw [← this]; simp
  · intro h
    have e : w = List.replicate w.length false := by
      apply List.ext_getElem (by simp)
      intro i h1 h2
      have := h i
      rw [List.getD_eq_getElem?_getD, List.getElem?_eq_getElem h1] at this
      rw [List.getElem_replicate]
      exact this
    rw [e, run_noughts_zero, run_noughts_zero]

theorem getD_xors (s t : List Bool) (h : s.length = t.length) (i : Nat) : (xors s t).getD i false = (s.getD i false ^^ t.getD i false) := by
  unfold xors
  simp only [List.getD_eq_getElem?_getD, List.getElem?_zipWith]
  by_cases hi : i < s.length
  · rw [List.getElem?_eq_getElem hi, List.getElem?_eq_getElem (by omega)]; rfl
  · rw [List.getElem?_eq_none (by omega), List.getElem?_eq_none (by omega)]; rfl
theorem xors_length (s t : List Bool) (h : s.length = t.length) : (xors s t).length = s.length := by simp [xors, h]

/-- The check's bits: the complement's. Behind it 61624 is left, and behind no other sixteen bits. -/
def tail (r : Nat) : List Bool := (bits16 r).map (!·)
theorem tail_xor (r : Nat) : tail r = xors (bits16 r) (List.replicate 16 true) := by
  unfold tail xors bits16
  simp [List.range_succ]
theorem bits16_length (r : Nat) : (bits16 r).length = 16 := by simp [bits16]
theorem tail_length (r : Nat) : (tail r).length = 16 := by simp [tail, bits16]
theorem run_tail (r : Nat) (hr : r < 65536) : run r (tail r) = 61624 := by
  have := run_xor (bits16 r) (List.replicate 16 true) r 0 (by simp [bits16])
  rw [Nat.xor_zero, run_bits16 r hr, run_ones, Nat.zero_xor] at this
  rw [tail_xor]; exact this
theorem tail_only (r : Nat) (hr : r < 65536) (w : List Bool) (hw : w.length = 16) (h : run r w = 61624) : w = tail r := by
  have h1 := run_xor w (tail r) r r (by rw [hw, tail_length])
  rw [Nat.xor_self, h, run_tail r hr, Nat.xor_self] at h1
  have h2 := run_zero _ 0 (by decide) (by rw [xors_length _ _ (by rw [hw, tail_length])]; omega) h1
  apply List.ext_getElem (by rw [hw, tail_length])
  intro i h3 h4
  have := h2 i
  rw [getD_xors _ _ (by rw [hw, tail_length]), List.getD_eq_getElem?_getD, List.getD_eq_getElem?_getD, List.getElem?_eq_getElem h3, List.getElem?_eq_getElem h4] at this
  simpa using this
theorem right_iff (r : Nat) (hr : r < 65536) (w : List Bool) (hw : w.length = 16) : run r w = 61624 ↔ w = tail r :=
  ⟨tail_only r hr w hw, fun h => by rw [h]; exact run_tail r hr⟩

/-- The check's bits as the document reckons them: the highest power first, turned about behind. -/
def outBits (t : List Bool) : List Bool := (List.range 16).map fun i => Nat.testBit (65535 - runM 65535 t) (15 - i)
theorem compl_bit (m : Nat) (hm : m < 65536) (i : Nat) (hi : i < 16) : Nat.testBit (65535 - m) i = !(m.testBit i) := by
  have h : 65535 - m = 2 ^ 16 - (m + 1) := by omega
  rw [h, Nat.testBit_two_pow_sub_succ hm, decide_eq_true hi, Bool.true_and]
theorem outBits_tail (t : List Bool) : outBits t = tail (crc t) := by
  have hrev : Rev (crc t) (runM 65535 t) := Rev.ones.run t (by decide)
  have hm := runM_lt t 65535 (by decide)
  unfold outBits tail bits16
  rw [List.map_map]
  apply List.map_congr_left
  intro i hi
  have hi' : i < 16 := by simpa using hi
  rw [compl_bit _ hm _ (by omega)]
  show _ = !((crc t).testBit i)
  rw [hrev i hi']
theorem stepM_eq (r : Nat) (b : Bool) : stepM r b = if r / 32768 % 2 ≠ (if b then 1 else 0) then (r * 2 % 65536) ^^^ 4129 else r * 2 % 65536 := by
  unfold stepM
  have e1 : (r <<< 1) % 2 ^ 16 = r * 2 % 65536 := by rw [Nat.shiftLeft_eq]
  have e2 : r.testBit 15 = decide (r / 32768 % 2 = 1) := by rw [Nat.testBit_eq_decide_div_mod_eq]
  rw [e1, e2]
  have h2 : r / 32768 % 2 = 0 ∨ r / 32768 % 2 = 1 := by omega
  rcases h2 with h2 | h2 <;> rw [h2] <;> cases b <;> simp
end Go.Proofs.Ytonhgiclaieamaa.Crc
