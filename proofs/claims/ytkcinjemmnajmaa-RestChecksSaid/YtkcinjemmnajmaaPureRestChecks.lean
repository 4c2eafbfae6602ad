/- The last step of the law RestChecks: what the walk needs is so for all octets: the check of any octets; they with it are right. No condition. -/
import Derived.Test.YtkcinjemmnajmaaCrc
import Derived.Test.YtkcinjemmnajmaaMRestChecksx
import Derived.Test.YtkcinjemmnajmaaBase
import Derived.Laws.BitsAllLaws
namespace Go.Proofs.Ytkcinjemmnajmaa.Pure
open Go Go.RowKit Go.Proofs.Ytkcinjemmnajmaa.MRestChecks Go.Proofs.YtkcinjemmnajmaaW.PrintWords Go.Proofs.YtkcinjemmnajmaaW.PrintLast Go.Proofs.YtkcinjemmnajmaaW.PrintMore Go.Proofs.Ytkcinjemmnajmaa.Base

theorem wf8 {x : Int} (h : (Lit.int .u8 x).wf = true) : 0 ≤ x ∧ x < 256 := by
  simp [Lit.wf, IntKind.min, IntKind.max, IntKind.signed, IntKind.bits] at h; omega
theorem wf8s {l : List Int} (h : ∀ x ∈ l, (Lit.int .u8 x).wf = true) : ∀ x ∈ l, 0 ≤ x ∧ x < 256 := fun x hx => wf8 (h x hx)

theorem bit_and (b : Int) (j : Nat) (h0 : 0 ≤ b) (h1 : b < 256) (hj : j < 8) : ((Go.bits .and .u8 (shr .u8 b (j : Int)) 1) == 1) = bitN b j := by
  have e : shr .u8 b (j : Int) = b / 2 ^ j := shr_small (k := .u8) (x := b) (y := (j : Int)) rfl (by show (j : Int) ≤ 8; omega) ▸ rfl
  have h2 : 0 ≤ b / 2 ^ j := Int.ediv_nonneg h0 (Int.pow_nonneg (by decide))
  have h3 : b / 2 ^ j < 256 := by
    have := Int.ediv_le_self (2 ^ j) h0
    omega
  rw [e, show (1 : Int) = 2 ^ 1 - 1 from rfl, bits_mask .u8 8 (by decide) wraps_u8 1 (by decide) _ h2 h3]
  rfl

theorem Of_in (l : List Int) (i : Nat) (hi : i < l.length) (h0 : 0 ≤ l[i]) (h1 : l[i] < 256) (acc : List Bool) (r : List Bool) (hacc : acc.length + 8 < 140737488355328)
    (h : Ev (fun k => tape_Of.l0 k (acc ++ octet l[i]) l (l.length : Int) (wrap64 ((i : Int) + 1))) r) :
    Ev (fun k => tape_Of.l1 k acc l[i] l (l.length : Int) (i : Int) 0) r := by
  refine count 8 (fun j k => tape_Of.l1 k (acc ++ (List.range j).map (bitN l[i])) l[i] l (l.length : Int) (i : Int) (j : Int)) r ?_ ?_ |> fun z => Ev.to z (by funext k; simp) rfl
  · intro j hj hn
    refine Ev.step (fun k => ?_) hn
    have e : (List.range (j + 1)).map (bitN l[i]) = (List.range j).map (bitN l[i]) ++ [bitN l[i] j] := by rw [List.range_succ, List.map_append]; rfl
    simp only [tape_Of.l1]
    rw [if_pos (by omega), if_pos (by omega), if_pos (by simp; omega), bit_and _ _ h0 h1 hj, w64s j (by omega), e, List.append_assoc]
  · refine Ev.step (fun k => ?_) h
    simp only [tape_Of.l1]
    rw [if_neg (by decide)]
    rfl

theorem Of_ev (l : List Int) (hl : l.length ≤ 10000000000000) (hb : ∀ x ∈ l, 0 ≤ x ∧ x < 256) : Ev (fun k => tape_Of.f k l) (bitsOf l) := by
  refine count l.length (fun i k => tape_Of.l0 k (bitsOf (l.take i)) l (l.length : Int) (i : Int)) (bitsOf l) ?_ ?_ |> fun z => Ev.to z (by funext k; simp [tape_Of.f, bitsOf]) rfl
  · intro i hi hn
    have hx := hb l[i] (List.getElem_mem hi)
    have hlen : (bitsOf (l.take i)).length = 8 * i := by rw [bitsOf_length, List.length_take]; omega
    have key := Of_in l i hi hx.1 hx.2 (bitsOf (l.take i)) (bitsOf l) (by omega) (by rw [w64s i (by omega), ← bitsOf_take_succ l i hi]; exact hn)
    refine Ev.step (fun k => ?_) key
    simp only [tape_Of.l0]
    rw [if_pos (by omega), if_pos (by omega), if_pos (by omega), rd_nat l i hi]
  · refine Ev.step (fun k => ?_) (Ev.now _)
    simp only [tape_Of.l0]
    rw [if_neg (by omega), List.take_length]

theorem bit_div (b : Int) (j : Nat) (h0 : 0 ≤ b) (h1 : b < 256) (hj : j < 8) :
    (shl .u8 1 (j : Int)) = 2 ^ j ∧ ((Int.tmod (IntKind.u8.wrap (Int.tdiv b (shl .u8 1 (j : Int)))) 2) == 1) = bitN b j := by
  have hp : (2 : Int) ^ j ≤ 128 := by
    have : (2 : Nat) ^ j ≤ 2 ^ 7 := Nat.pow_le_pow_right (by decide) (by omega)
    exact_mod_cast this
  have hp0 : (0 : Int) < 2 ^ j := Int.pow_pos (by decide)
  have es : shl .u8 1 (j : Int) = 2 ^ j := by
    unfold shl
    rw [IntKind.wrap_u8]
    have : min ((j : Int).toNat) IntKind.u8.bits = j := by show min ((j : Int).toNat) 8 = j; omega
    rw [this, Int.one_mul]; omega
  refine ⟨es, ?_⟩
  rw [es, Int.tdiv_eq_ediv_of_nonneg h0]
  have h2 : 0 ≤ b / 2 ^ j := Int.ediv_nonneg h0 (by omega)
  have h3 : b / 2 ^ j < 256 := by
    have := Int.ediv_le_self (2 ^ j) h0
    omega
  rw [IntKind.wrap_u8, Int.emod_eq_of_lt h2 h3, Int.tmod_eq_emod_of_nonneg h2]
  rfl
theorem RefBits_ev (l : List Int) (hl : l.length ≤ 10000000000000) (hb : ∀ x ∈ l, 0 ≤ x ∧ x < 256) : Ev (fun k => signalmanref01_Bits.f k l) (bitsOf l) := by
  have hL : (bitsOf l).length = 8 * l.length := bitsOf_length l
  refine count (8 * l.length) (fun i k => signalmanref01_Bits.l0 k l ((bitsOf l).take i) (i : Int)) (bitsOf l) ?_ ?_ |> fun z => Ev.to z (by funext k; simp [signalmanref01_Bits.f]) rfl
  · intro i hi hn
    have hq : i / 8 < l.length := by omega
    have hx := hb l[i / 8] (List.getElem_mem hq)
    have hi' : i < (bitsOf l).length := by omega
    have et : (bitsOf l).take (i + 1) = (bitsOf l).take i ++ [bitN l[i / 8] (i % 8)] := by
      rw [List.take_succ_eq_append_getElem hi', bitsOf_get l i hi' hq]
    have ed : wrap64 (Int.tdiv (i : Int) 8) = ((i / 8 : Nat) : Int) := by
      rw [Int.tdiv_eq_ediv_of_nonneg (by omega), w64 _ (by omega) (by omega)]; omega
    have em : Int.tmod (i : Int) 8 = ((i % 8 : Nat) : Int) := by
      rw [Int.tmod_eq_emod_of_nonneg (by omega)]; omega
    have hbit := bit_div l[i / 8] (i % 8) hx.1 hx.2 (by omega)
    have hp0 : (0 : Int) < 2 ^ (i % 8) := Int.pow_pos (by decide)
    refine Ev.step (fun k => ?_) hn
    simp only [signalmanref01_Bits.l0]
    rw [w64 (8 * (l.length : Int)) (by omega) (by omega), ed, em, if_pos (by omega), if_pos (by omega), if_pos (by omega), if_pos (by omega), if_neg (by rw [hbit.1]; omega),
      if_pos (by rw [List.length_take]; omega), rd_nat l (i / 8) hq, hbit.2, w64s i (by omega), et]
  · refine Ev.step (fun k => ?_) (Ev.now _)
    simp only [signalmanref01_Bits.l0]
    rw [w64 (8 * (l.length : Int)) (by omega) (by omega), if_neg (by omega), List.take_of_length_le (by omega)]

theorem wraps_u16 (n : Int) (h0 : 0 ≤ n) (h1 : n < 2 ^ 16) : IntKind.u16.wrap n = n := by
  simp [IntKind.wrap, IntKind.bits, IntKind.signed]; omega
theorem Step_eq (r : Nat) (hr : r < 65536) (b : Bool) : rest_Step.f (r : Int) b = some ((Crc.stepN r b : Nat) : Int) := by
  have e2 : ((r : Int) / (2 : Int)) = (((r >>> 1) : Nat) : Int) := by rw [Nat.shiftRight_eq_div_pow]; omega
  have h2 : r >>> 1 < 65536 := by rw [Nat.shiftRight_eq_div_pow]; omega
  have hx : Go.bits .xor .u16 ((r >>> 1 : Nat) : Int) 33800 = (((r >>> 1) ^^^ 33800 : Nat) : Int) := u16_xor_nat (r >>> 1) 33800 h2 (by decide)
  have test : ∀ c : Nat, c < 2 → ((Go.bits .and .u16 (Go.bits .xor .u16 (r : Int) (c : Int)) 1) = 1 ↔ (r.testBit 0 != decide (c = 1)) = true) := by
    intro c hc
    rw [u16_xor_nat r c hr (by omega)]
    have hlt : r ^^^ c < 2 ^ 16 := Nat.xor_lt_two_pow hr (by omega)
    rw [show (1 : Int) = 2 ^ 1 - 1 from rfl, bits_mask .u16 16 (by decide) wraps_u16 1 (by decide) _ (by omega) (by exact_mod_cast hlt)]
    have e : (((r ^^^ c : Nat) : Int) % 2 ^ 1 = 2 ^ 1 - 1) ↔ (r ^^^ c) % 2 = 1 := by omega
    rw [e]
    have hb : (r ^^^ c).testBit 0 = (r.testBit 0 ^^ c.testBit 0) := Nat.testBit_xor ..
    have hc2 : c.testBit 0 = decide (c = 1) := by rw [Nat.testBit_zero]; rcases (show c = 0 ∨ c = 1 by omega) with rfl | rfl <;> rfl
    rw [Nat.testBit_zero, hc2] at hb
    rw [← decide_eq_true_iff (p := (r ^^^ c) % 2 = 1), hb]
  unfold rest_Step.f Crc.stepN
  rw [e2]
  cases b with
  | true =>
    have this : (Go.bits .and .u16 (Go.bits .xor .u16 (r : Int) 1) 1) = 1 ↔ (r.testBit 0 != true) = true := test 1 (by decide)
    rw [if_pos rfl]
    by_cases h : (r.testBit 0 != true) = true
    · rw [if_pos (this.mpr h), if_pos h, hx]
    · rw [if_neg (fun h' => h (this.mp h')), if_neg h]
  | false =>
    have this : (Go.bits .and .u16 (Go.bits .xor .u16 (r : Int) 0) 1) = 1 ↔ (r.testBit 0 != false) = true := test 0 (by decide)
    rw [if_neg (by decide)]
    by_cases h : (r.testBit 0 != false) = true
    · rw [if_pos (this.mpr h), if_pos h, hx]
    · rw [if_neg (fun h' => h (this.mp h')), if_neg h]
theorem CrcBits_ev (t : List Bool) (hl : t.length < 140737488355328) : Ev (fun k => rest_Bits.f k t) ((Crc.crc t : Nat) : Int) := by
  refine count t.length (fun i k => rest_Bits.l0 k ((Crc.run 65535 (t.take i) : Nat) : Int) t (t.length : Int) (i : Int)) _ ?_ ?_ |> fun z => Ev.to z (by funext k; simp [rest_Bits.f, Crc.run]) rfl
  · intro i hi hn
    have hr := Crc.run_lt (t.take i) 65535 (by decide)
    have et : Crc.run 65535 (t.take (i + 1)) = Crc.stepN (Crc.run 65535 (t.take i)) t[i] := foldl_take_succ _ _ _ _ hi
    refine Ev.step (fun k => ?_) hn
    simp only [rest_Bits.l0]
    rw [if_pos (by omega), if_pos (by omega), if_pos (by omega), rdOf_nat false t i hi, Step_eq _ hr, Option.bind_some, w64s i (by omega), et]
  · refine Ev.step (fun k => ?_) (Ev.now _)
    simp only [rest_Bits.l0]
    rw [if_neg (by omega), List.take_length]
    rfl

theorem RefOctets_in (t : List Bool) (ht : t.length ≤ 140737488355328) (i : Nat) (hi : 8 * i + 8 ≤ t.length) (acc : List Int) (hacc : acc.length < 140737488355328) (r : List Int)
    (h : Ev (fun k => signalmanref01_Octets.l0 k t (acc ++ [low (t.drop (8 * i))]) ((8 * (i + 1) : Nat) : Int)) r) :
    Ev (fun k => signalmanref01_Octets.l1 k t acc ((8 * i : Nat) : Int) 0 7) r := by
  refine count 8 (fun s k => signalmanref01_Octets.l1 k t acc ((8 * i : Nat) : Int) (val ((t.drop (8 * i + 8 - s)).take s)) (7 - (s : Int))) r ?_ ?_ |> fun z => Ev.to z (by funext k; simp [val]) rfl
  · intro s hs hn
    have hp : 8 * i + (7 - s) < t.length := by omega
    have e1 : t.drop (8 * i + 8 - (s + 1)) = t[8 * i + (7 - s)] :: t.drop (8 * i + 8 - s) := by
      rw [show 8 * i + 8 - (s + 1) = 8 * i + (7 - s) from by omega, List.drop_eq_getElem_cons hp, show 8 * i + (7 - s) + 1 = 8 * i + 8 - s from by omega]
    have e2 : val ((t.drop (8 * i + 8 - (s + 1))).take (s + 1)) = (if t[8 * i + (7 - s)] then 1 else 0) + 2 * val ((t.drop (8 * i + 8 - s)).take s) := by
      rw [e1, List.take_succ_cons]; rfl
    have hv0 := val_lo ((t.drop (8 * i + 8 - s)).take s)
    have hv : val ((t.drop (8 * i + 8 - s)).take s) < 128 := by
      have h1 := val_hi ((t.drop (8 * i + 8 - s)).take s)
      have h2 : ((t.drop (8 * i + 8 - s)).take s).length ≤ 7 := by simp; omega
      have h3 : (2 : Int) ^ ((t.drop (8 * i + 8 - s)).take s).length ≤ 2 ^ 7 := by exact_mod_cast Nat.pow_le_pow_right (by decide) h2
      omega
    refine Ev.step (fun k => ?_) hn
    simp only [signalmanref01_Octets.l1]
    have ew : wrap64 (((8 * i : Nat) : Int) + (7 - (s : Int))) = ((8 * i + (7 - s) : Nat) : Int) := by rw [w64 _ (by omega) (by omega)]; omega
    have ed : wrap64 (7 - (s : Int) - 1) = 7 - ((s + 1 : Nat) : Int) := by rw [w64 _ (by omega) (by omega)]; omega
    rw [if_pos (by omega), ew, if_pos (by omega), if_pos (by omega), rdOf_nat false t _ hp, ed, e2]
    cases hti : t[8 * i + (7 - s)] with
    | false => rw [if_neg (by simp), if_neg (by simp)]; congr 1; omega
    | true => rw [if_pos rfl, if_pos rfl]; congr 1; omega
  · refine Ev.step (fun k => ?_) h
    simp only [signalmanref01_Octets.l1]
    rw [if_neg (by omega), if_pos hacc, w64 _ (by omega) (by omega)]
    rfl
theorem RefOctets_ev (t : List Bool) (ht : t.length ≤ 140737488355328) : Ev (fun k => signalmanref01_Octets.f k t) (octs (t.length / 8) t) := by
  refine count (t.length / 8) (fun i k => signalmanref01_Octets.l0 k t (octs i t) ((8 * i : Nat) : Int)) _ ?_ ?_ |> fun z => Ev.to z (by funext k; rfl) rfl
  · intro i hi hn
    refine Ev.step (fun k => ?_) (RefOctets_in t ht i (by omega) (octs i t) (by rw [octs_length]; omega) _ (by rw [← octs_snoc]; exact hn))
    simp only [signalmanref01_Octets.l0]
    rw [w64 _ (by omega) (by omega), if_pos (by omega)]
  · refine Ev.step (fun k => ?_) (Ev.now _)
    simp only [signalmanref01_Octets.l0]
    rw [w64 _ (by omega) (by omega), if_neg (by omega)]

/-- The check of octets. -/
def chk (p : List Int) : List Int := octs 2 (Crc.tail (Crc.crc (bitsOf p)))
theorem chk_length (p : List Int) : (chk p).length = 2 := octs_length _ _
theorem chk_bits (p : List Int) : bitsOf (chk p) = Crc.tail (Crc.crc (bitsOf p)) := by
  unfold chk
  rw [bits_octs 2 _ (by rw [Crc.tail_length]; omega), List.take_of_length_le (by rw [Crc.tail_length]; omega)]
theorem chk_range (p : List Int) : ∀ x ∈ chk p, 0 ≤ x ∧ x < 256 := fun x hx => octs_range _ _ x hx
theorem RefCheck_ev (l : List Int) (hl : l.length ≤ 10000000000000) (hb : ∀ x ∈ l, 0 ≤ x ∧ x < 256) : Ev (fun k => signalmanref01_Check.f k l) (chk l) := by
  unfold signalmanref01_Check.f
  refine Ev.bind (RefBits_ev l hl hb) ?_
  refine Ev.to (RefOctets_ev (Crc.outBits (bitsOf l)) (by rw [Crc.outBits_tail, Crc.tail_length]; omega)) rfl ?_
  rw [Crc.outBits_tail, Crc.tail_length]; rfl
theorem crc_lt (t : List Bool) : Crc.crc t < 65536 := Crc.run_lt t 65535 (by decide)
theorem crc_append (s t : List Bool) : Crc.crc (s ++ t) = Crc.run (Crc.crc s) t := Crc.run_append _ s t
/-- Octets are right just if the last two are the check of the others. -/
theorem right_eq (q s : List Int) (hs : s.length = 2) (hb : ∀ x ∈ s, 0 ≤ x ∧ x < 256) : Crc.crc (bitsOf (q ++ s)) = 61624 ↔ chk q = s := by
  rw [bitsOf_append, crc_append, Crc.right_iff _ (crc_lt _) _ (by rw [bitsOf_length]; omega)]
  constructor
  · intro h
    unfold chk
    rw [← h]
    have := octs_bits' s hb
    rwa [hs] at this
  · intro h
    rw [← h, chk_bits]
theorem Right_ev (l : List Int) (hl : l.length ≤ 10000000000000) (hb : ∀ x ∈ l, 0 ≤ x ∧ x < 256) : Ev (fun k => rest_Right.f k l) (decide (2 ≤ l.length) && decide (Crc.crc (bitsOf l) = 61624)) := by
  unfold rest_Right.f
  by_cases h2 : 2 ≤ l.length
  · refine Ev.congr (fun k => if_pos (by omega)) ?_
    refine Ev.bind (Of_ev l hl hb) ?_
    refine Ev.bind (CrcBits_ev (bitsOf l) (by rw [bitsOf_length]; omega)) ?_
    refine Ev.to (Ev.now _) rfl ?_
    rw [decide_eq_true h2, Bool.true_and, Bool.eq_iff_iff]
    simp only [beq_iff_eq, decide_eq_true_eq]
    omega
  · refine Ev.congr (fun k => if_neg (by omega)) ?_
    rw [decide_eq_false h2, Bool.false_and]
    exact Ev.now _

theorem bitN_nat (m j : Nat) : bitN (m : Int) j = m.testBit j := by
  rw [Nat.testBit_eq_decide_div_mod_eq]
  unfold bitN
  have e : ((m : Int) / 2 ^ j % 2) = ((m / 2 ^ j % 2 : Nat) : Int) := by simp
  rw [e]
  have h2 : m / 2 ^ j % 2 = 0 ∨ m / 2 ^ j % 2 = 1 := by omega
  rcases h2 with h2 | h2 <;> rw [h2] <;> rfl
theorem tail_two (c : Nat) : bitsOf [(((65535 ^^^ c) % 256 : Nat) : Int), (((65535 ^^^ c) / 256 % 256 : Nat) : Int)] = Crc.tail c := by
  have e1 : ∀ j, j < 8 → bitN (((65535 ^^^ c) % 256 : Nat) : Int) j = !(c.testBit j) := by
    intro j hj
    rw [bitN_nat, show (256 : Nat) = 2 ^ 8 from rfl, Nat.testBit_mod_two_pow, Nat.testBit_xor, Crc.ones_bit ⟨j, by omega⟩, decide_eq_true hj]
    simp
  have e2 : ∀ j, j < 8 → bitN (((65535 ^^^ c) / 256 % 256 : Nat) : Int) j = !(c.testBit (8 + j)) := by
    intro j hj
    rw [bitN_nat, show (256 : Nat) = 2 ^ 8 from rfl, Nat.testBit_mod_two_pow, Nat.testBit_div_two_pow, Nat.testBit_xor, decide_eq_true hj]
    rw [show j + 8 = 8 + j from by omega, Crc.ones_bit ⟨8 + j, by omega⟩]
    simp
  apply List.ext_getElem
  · rw [bitsOf_length, Crc.tail_length]; rfl
  · intro i h1 h2
    have hi : i < 16 := by rw [Crc.tail_length] at h2; exact h2
    rw [bitsOf_get _ i h1 (by show i / 8 < 2; omega)]
    have et : (Crc.tail c)[i]'h2 = !(c.testBit i) := by simp [Crc.tail, Crc.bits16]
    rw [et]
    by_cases h8 : i < 8
    · have : i / 8 = 0 := by omega
      simp only [this]
      show bitN _ (i % 8) = _
      rw [show i % 8 = i from by omega]
      exact e1 i h8
    · have : i / 8 = 1 := by omega
      simp only [this]
      refine (e2 (i % 8) (by omega)).trans ?_
      rw [show 8 + i % 8 = i from by omega]
theorem Check_ev (l : List Int) (hl : l.length ≤ 10000000000000) (hb : ∀ x ∈ l, 0 ≤ x ∧ x < 256) : Ev (fun k => rest_Check.f k l) (chk l) := by
  unfold rest_Check.f
  refine Ev.bind (Of_ev l hl hb) ?_
  refine Ev.bind (CrcBits_ev (bitsOf l) (by rw [bitsOf_length]; omega)) ?_
  refine Ev.to (Ev.now _) rfl ?_
  have hc := crc_lt (bitsOf l)
  have hx : Go.bits .xor .u16 65535 ((Crc.crc (bitsOf l) : Nat) : Int) = ((65535 ^^^ Crc.crc (bitsOf l) : Nat) : Int) := u16_xor_nat 65535 _ (by decide) hc
  rw [hx]
  unfold chk
  rw [← tail_two]
  have hr : ∀ x ∈ [(((65535 ^^^ Crc.crc (bitsOf l)) % 256 : Nat) : Int), (((65535 ^^^ Crc.crc (bitsOf l)) / 256 % 256 : Nat) : Int)], 0 ≤ x ∧ x < 256 := by
    intro x hx
    simp only [List.mem_cons, List.not_mem_nil, or_false] at hx
    rcases hx with rfl | rfl <;> omega
  have := octs_bits' _ hr
  simp only [List.length_cons, List.length_nil, Nat.zero_add, Nat.reduceAdd] at this
  rw [this]
  simp
theorem With_ev (l : List Int) (hl : l.length ≤ 10000000000000) (hb : ∀ x ∈ l, 0 ≤ x ∧ x < 256) : Ev (fun k => rest_With.f k l) (l ++ chk l) := by
  unfold rest_With.f
  refine Ev.congr (f := fun k => (rest_Check.f k l).bind fun t129 => (if (([] : List Int) ++ l).length + t129.length < 140737488355328 then (some (([] : List Int) ++ l ++ t129)) else none)) (fun k => ?_) ?_
  · rw [if_pos (by simp; omega), Option.bind_some]
  · refine Ev.bind (Check_ev l hl hb) ?_
    refine Ev.congr (fun k => ?_) (Ev.now _)
    rw [if_pos (by rw [chk_length]; simp; omega), List.nil_append]

theorem RefWhole_ev (l : List Int) (hl : l.length ≤ 10000000000000) (hb : ∀ x ∈ l, 0 ≤ x ∧ x < 256) : Ev (fun k => signalmanref01_Whole.f k l) (l ++ chk l) := by
  unfold signalmanref01_Whole.f
  refine Ev.congr (f := fun k => (signalmanref01_Check.f k l).bind fun t129 => (if (([] : List Int) ++ l).length + t129.length < 140737488355328 then (some (([] : List Int) ++ l ++ t129)) else none)) (fun k => ?_) ?_
  · rw [if_pos (by simp; omega), Option.bind_some]
  · refine Ev.bind (RefCheck_ev l hl hb) ?_
    refine Ev.congr (fun k => ?_) (Ev.now _)
    rw [if_pos (by rw [chk_length]; simp; omega), List.nil_append]


theorem RestChecks : signalmanlaw03_RestChecks.Pure := by
  intro l0 _ _ hw
  have hb := wf8s hw
  refine Ev.rounds (g := fun k => signalmanlaw03_RestChecks.f k l0) ?_
  unfold signalmanlaw03_RestChecks.f
  by_cases h0 : 300 < l0.length
  · exact Ev.congr (fun k => if_pos h0) (Ev.now _)
  · refine Ev.congr (fun k => if_neg h0) ?_
    have hc := chk_length l0
    have hb2 : ∀ x ∈ l0 ++ chk l0, 0 ≤ x ∧ x < 256 := by
      intro x hx
      rw [List.mem_append] at hx
      exact hx.elim (hb x) (chk_range l0 x)
    have hl2 : (l0 ++ chk l0).length ≤ 10000000000000 := by rw [List.length_append]; omega
    have hr : Crc.crc (bitsOf (l0 ++ chk l0)) = 61624 := (right_eq l0 (chk l0) hc (chk_range l0)).mpr rfl
    refine Ev.bind (With_ev l0 (by omega) hb) ?_
    refine Ev.bind (Check_ev l0 (by omega) hb) ?_
    refine Ev.bind (RefCheck_ev l0 (by omega) hb) ?_
    refine Ev.bind (RefWhole_ev l0 (by omega) hb) ?_
    refine Ev.bind (Right_ev (l0 ++ chk l0) hl2 hb2) ?_
    refine Ev.bind (RefBits_ev (l0 ++ chk l0) hl2 hb2) ?_
    refine Ev.bind (CrcBits_ev _ (by rw [bitsOf_length]; omega)) ?_
    refine Ev.congr (fun k => if_pos ⟨rfl, rfl, ?_, ?_⟩) (Ev.now _)
    · rw [hr, List.length_append, hc]; simp
    · rw [hr]; rfl

end Go.Proofs.Ytkcinjemmnajmaa.Pure
