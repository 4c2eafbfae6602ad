/- The last step of the law RestBursts: what the printed functions tell is always true: octets with their check, of which up to sixteen bits one behind the other are turned, aren't right. No condition. -/
import Derived.Test.YtkcinjemmnajmaaCrc
import Derived.Test.YtkcinjemmnajmaaMRestBurstsx
import Derived.Test.YtkcinjemmnajmaaBase
import Derived.Laws.BitsAllLaws
namespace Go.Proofs.Ytkcinjemmnajmaa.Pure
open Go Go.RowKit Go.Proofs.Ytkcinjemmnajmaa.MRestBursts Go.Proofs.YtkcinjemmnajmaaW.PrintWords Go.Proofs.YtkcinjemmnajmaaW.PrintLast Go.Proofs.YtkcinjemmnajmaaW.PrintMore Go.Proofs.Ytkcinjemmnajmaa.Base

theorem wf8 {x : Int} (h : (Lit.int .u8 x).wf = true) : 0 ≤ x ∧ x < 256 := by
  simp [Lit.wf, IntKind.min, IntKind.max, IntKind.signed, IntKind.bits] at h; omega
theorem wf8s {l : List Int} (h : ∀ x ∈ l, (Lit.int .u8 x).wf = true) : ∀ x ∈ l, 0 ≤ x ∧ x < 256 := fun x hx => wf8 (h x hx)

theorem bit_and (b : Int) (j : Nat) (h0 : 0 ≤ b) (h1 : b < 256) (hj : j < 8) : ((Go.bits .and .u8 (shr .u8 b (j : Int)) 1) == 1) = bitN b j := by
  have e : shr .u8 b (j : Int) = b / 2 ^ j := shr_small (k := .u8) (x := b) (y := (j : Int)) rfl (by show (j : Int) ≤ 8; omega) ▸ rfl
  have h2 : 0 ≤ b / 2 ^ j := Int.ediv_nonneg h0 (Int.pow_nonneg (by decide))
  have h3 : b / 2 ^ j < 256 := by
    have := Int.ediv_le_self (2 ^ j) h0
    omega
  rw [e, show (1 : Int) = 2 ^ 1 - 1 from rfl, bits_mask .u8 8 (by decide) wraps_u8 1 (by decide) _ h2 h3]
  rfl

theorem Of_in (l : List Int) (i : Nat) (hi : i < l.length) (h0 : 0 ≤ l[i]) (h1 : l[i] < 256) (acc : List Bool) (r : List Bool) (hacc : acc.length + 8 < 140737488355328)
    (h : Ev (fun k => tape_Of.l0 k (acc ++ octet l[i]) l (l.length : Int) (wrap64 ((i : Int) + 1))) r) :
    Ev (fun k => tape_Of.l1 k acc l[i] l (l.length : Int) (i : Int) 0) r := by
  refine count 8 (fun j k => tape_Of.l1 k (acc ++ (List.range j).map (bitN l[i])) l[i] l (l.length : Int) (i : Int) (j : Int)) r ?_ ?_ |> fun z => Ev.to z (by funext k; simp) rfl
  · intro j hj hn
    refine Ev.step (fun k => ?_) hn
    have e : (List.range (j + 1)).map (bitN l[i]) = (List.range j).map (bitN l[i]) ++ [bitN l[i] j] := by rw [List.range_succ, List.map_append]; rfl
    simp only [tape_Of.l1]
    rw [if_pos (by omega), if_pos (by omega), if_pos (by simp; omega), bit_and _ _ h0 h1 hj, w64s j (by omega), e, List.append_assoc]
  · refine Ev.step (fun k => ?_) h
    simp only [tape_Of.l1]
    rw [if_neg (by decide)]
    rfl

theorem Of_ev (l : List Int) (hl : l.length ≤ 10000000000000) (hb : ∀ x ∈ l, 0 ≤ x ∧ x < 256) : Ev (fun k => tape_Of.f k l) (bitsOf l) := by
  refine count l.length (fun i k => tape_Of.l0 k (bitsOf (l.take i)) l (l.length : Int) (i : Int)) (bitsOf l) ?_ ?_ |> fun z => Ev.to z (by funext k; simp [tape_Of.f, bitsOf]) rfl
  · intro i hi hn
    have hx := hb l[i] (List.getElem_mem hi)
    have hlen : (bitsOf (l.take i)).length = 8 * i := by rw [bitsOf_length, List.length_take]; omega
    have key := Of_in l i hi hx.1 hx.2 (bitsOf (l.take i)) (bitsOf l) (by omega) (by rw [w64s i (by omega), ← bitsOf_take_succ l i hi]; exact hn)
    refine Ev.step (fun k => ?_) key
    simp only [tape_Of.l0]
    rw [if_pos (by omega), if_pos (by omega), if_pos (by omega), rd_nat l i hi]
  · refine Ev.step (fun k => ?_) (Ev.now _)
    simp only [tape_Of.l0]
    rw [if_neg (by omega), List.take_length]

theorem bit_div (b : Int) (j : Nat) (h0 : 0 ≤ b) (h1 : b < 256) (hj : j < 8) :
    (shl .u8 1 (j : Int)) = 2 ^ j ∧ ((Int.tmod (IntKind.u8.wrap (Int.tdiv b (shl .u8 1 (j : Int)))) 2) == 1) = bitN b j := by
  have hp : (2 : Int) ^ j ≤ 128 := by
    have : (2 : Nat) ^ j ≤ 2 ^ 7 := Nat.pow_le_pow_right (by decide) (by omega)
    exact_mod_cast this
  have hp0 : (0 : Int) < 2 ^ j := Int.pow_pos (by decide)
  have es : shl .u8 1 (j : Int) = 2 ^ j := by
    unfold shl
    rw [IntKind.wrap_u8]
    have : min ((j : Int).toNat) IntKind.u8.bits = j := by show min ((j : Int).toNat) 8 = j; omega
    rw [this, Int.one_mul]; omega
  refine ⟨es, ?_⟩
  rw [es, Int.tdiv_eq_ediv_of_nonneg h0]
  have h2 : 0 ≤ b / 2 ^ j := Int.ediv_nonneg h0 (by omega)
  have h3 : b / 2 ^ j < 256 := by
    have := Int.ediv_le_self (2 ^ j) h0
    omega
  rw [IntKind.wrap_u8, Int.emod_eq_of_lt h2 h3, Int.tmod_eq_emod_of_nonneg h2]
  rfl
theorem RefBits_ev (l : List Int) (hl : l.length ≤ 10000000000000) (hb : ∀ x ∈ l, 0 ≤ x ∧ x < 256) : Ev (fun k => signalmanref01_Bits.f k l) (bitsOf l) := by
  have hL : (bitsOf l).length = 8 * l.length := bitsOf_length l
  refine count (8 * l.length) (fun i k => signalmanref01_Bits.l0 k l ((bitsOf l).take i) (i : Int)) (bitsOf l) ?_ ?_ |> fun z => Ev.to z (by funext k; simp [signalmanref01_Bits.f]) rfl
  · intro i hi hn
    have hq : i / 8 < l.length := by omega
    have hx := hb l[i / 8] (List.getElem_mem hq)
    have hi' : i < (bitsOf l).length := by omega
    have et : (bitsOf l).take (i + 1) = (bitsOf l).take i ++ [bitN l[i / 8] (i % 8)] := by
      rw [List.take_succ_eq_append_getElem hi', bitsOf_get l i hi' hq]
    have ed : wrap64 (Int.tdiv (i : Int) 8) = ((i / 8 : Nat) : Int) := by
      rw [Int.tdiv_eq_ediv_of_nonneg (by omega), w64 _ (by omega) (by omega)]; omega
    have em : Int.tmod (i : Int) 8 = ((i % 8 : Nat) : Int) := by
      rw [Int.tmod_eq_emod_of_nonneg (by omega)]; omega
    have hbit := bit_div l[i / 8] (i % 8) hx.1 hx.2 (by omega)
    have hp0 : (0 : Int) < 2 ^ (i % 8) := Int.pow_pos (by decide)
    refine Ev.step (fun k => ?_) hn
    simp only [signalmanref01_Bits.l0]
    rw [w64 (8 * (l.length : Int)) (by omega) (by omega), ed, em, if_pos (by omega), if_pos (by omega), if_pos (by omega), if_pos (by omega), if_neg (by rw [hbit.1]; omega),
      if_pos (by rw [List.length_take]; omega), rd_nat l (i / 8) hq, hbit.2, w64s i (by omega), et]
  · refine Ev.step (fun k => ?_) (Ev.now _)
    simp only [signalmanref01_Bits.l0]
    rw [w64 (8 * (l.length : Int)) (by omega) (by omega), if_neg (by omega), List.take_of_length_le (by omega)]

theorem wraps_u16 (n : Int) (h0 : 0 ≤ n) (h1 : n < 2 ^ 16) : IntKind.u16.wrap n = n := by
  simp [IntKind.wrap, IntKind.bits, IntKind.signed]; omega
theorem Step_eq (r : Nat) (hr : r < 65536) (b : Bool) : rest_Step.f (r : Int) b = some ((Crc.stepN r b : Nat) : Int) := by
  have e2 : ((r : Int) / (2 : Int)) = (((r >>> 1) : Nat) : Int) := by rw [Nat.shiftRight_eq_div_pow]; omega
  have h2 : r >>> 1 < 65536 := by rw [Nat.shiftRight_eq_div_pow]; omega
  have hx : Go.bits .xor .u16 ((r >>> 1 : Nat) : Int) 33800 = (((r >>> 1) ^^^ 33800 : Nat) : Int) := u16_xor_nat (r >>> 1) 33800 h2 (by decide)
  have test : ∀ c : Nat, c < 2 → ((Go.bits .and .u16 (Go.bits .xor .u16 (r : Int) (c : Int)) 1) = 1 ↔ (r.testBit 0 != decide (c = 1)) = true) := by
    intro c hc
    rw [u16_xor_nat r c hr (by omega)]
    have hlt : r ^^^ c < 2 ^ 16 := Nat.xor_lt_two_pow hr (by omega)
    rw [show (1 : Int) = 2 ^ 1 - 1 from rfl, bits_mask .u16 16 (by decide) wraps_u16 1 (by decide) _ (by omega) (by exact_mod_cast hlt)]
    have e : (((r ^^^ c : Nat) : Int) % 2 ^ 1 = 2 ^ 1 - 1) ↔ (r ^^^ c) % 2 = 1 := by omega
    rw [e]
    have hb : (r ^^^ c).testBit 0 = (r.testBit 0 ^^ c.testBit 0) := Nat.testBit_xor ..
    have hc2 : c.testBit 0 = decide (c = 1) := by rw [Nat.testBit_zero]; rcases (show c = 0 ∨ c = 1 by omega) with rfl | rfl <;> rfl
    rw [Nat.testBit_zero, hc2] at hb
    rw [← decide_eq_true_iff (p := (r ^^^ c) % 2 = 1), hb]
  unfold rest_Step.f Crc.stepN
  rw [e2]
  cases b with
  | true =>
    have this : (Go.bits .and .u16 (Go.bits .xor .u16 (r : Int) 1) 1) = 1 ↔ (r.testBit 0 != true) = true := test 1 (by decide)
    rw [if_pos rfl]
    by_cases h : (r.testBit 0 != true) = true
    · rw [if_pos (this.mpr h), if_pos h, hx]
    · rw [if_neg (fun h' => h (this.mp h')), if_neg h]
  | false =>
    have this : (Go.bits .and .u16 (Go.bits .xor .u16 (r : Int) 0) 1) = 1 ↔ (r.testBit 0 != false) = true := test 0 (by decide)
    rw [if_neg (by decide)]
    by_cases h : (r.testBit 0 != false) = true
    · rw [if_pos (this.mpr h), if_pos h, hx]
    · rw [if_neg (fun h' => h (this.mp h')), if_neg h]
theorem CrcBits_ev (t : List Bool) (hl : t.length < 140737488355328) : Ev (fun k => rest_Bits.f k t) ((Crc.crc t : Nat) : Int) := by
  refine count t.length (fun i k => rest_Bits.l0 k ((Crc.run 65535 (t.take i) : Nat) : Int) t (t.length : Int) (i : Int)) _ ?_ ?_ |> fun z => Ev.to z (by funext k; simp [rest_Bits.f, Crc.run]) rfl
  · intro i hi hn
    have hr := Crc.run_lt (t.take i) 65535 (by decide)
    have et : Crc.run 65535 (t.take (i + 1)) = Crc.stepN (Crc.run 65535 (t.take i)) t[i] := foldl_take_succ _ _ _ _ hi
    refine Ev.step (fun k => ?_) hn
    simp only [rest_Bits.l0]
    rw [if_pos (by omega), if_pos (by omega), if_pos (by omega), rdOf_nat false t i hi, Step_eq _ hr, Option.bind_some, w64s i (by omega), et]
  · refine Ev.step (fun k => ?_) (Ev.now _)
    simp only [rest_Bits.l0]
    rw [if_neg (by omega), List.take_length]
    rfl

theorem RefOctets_in (t : List Bool) (ht : t.length ≤ 140737488355328) (i : Nat) (hi : 8 * i + 8 ≤ t.length) (acc : List Int) (hacc : acc.length < 140737488355328) (r : List Int)
    (h : Ev (fun k => signalmanref01_Octets.l0 k t (acc ++ [low (t.drop (8 * i))]) ((8 * (i + 1) : Nat) : Int)) r) :
    Ev (fun k => signalmanref01_Octets.l1 k t acc ((8 * i : Nat) : Int) 0 7) r := by
  refine count 8 (fun s k => signalmanref01_Octets.l1 k t acc ((8 * i : Nat) : Int) (val ((t.drop (8 * i + 8 - s)).take s)) (7 - (s : Int))) r ?_ ?_ |> fun z => Ev.to z (by funext k; simp [val]) rfl
  · intro s hs hn
    have hp : 8 * i + (7 - s) < t.length := by omega
    have e1 : t.drop (8 * i + 8 - (s + 1)) = t[8 * i + (7 - s)] :: t.drop (8 * i + 8 - s) := by
      rw [show 8 * i + 8 - (s + 1) = 8 * i + (7 - s) from by omega, List.drop_eq_getElem_cons hp, show 8 * i + (7 - s) + 1 = 8 * i + 8 - s from by omega]
    have e2 : val ((t.drop (8 * i + 8 - (s + 1))).take (s + 1)) = (if t[8 * i + (7 - s)] then 1 else 0) + 2 * val ((t.drop (8 * i + 8 - s)).take s) := by
      rw [e1, List.take_succ_cons]; rfl
    have hv0 := val_lo ((t.drop (8 * i + 8 - s)).take s)
    have hv : val ((t.drop (8 * i + 8 - s)).take s) < 128 := by
      have h1 := val_hi ((t.drop (8 * i + 8 - s)).take s)
      have h2 : ((t.drop (8 * i + 8 - s)).take s).length ≤ 7 := by simp; omega
      have h3 : (2 : Int) ^ ((t.drop (8 * i + 8 - s)).take s).length ≤ 2 ^ 7 := by exact_mod_cast Nat.pow_le_pow_right (by decide) h2
      omega
    refine Ev.step (fun k => ?_) hn
    simp only [signalmanref01_Octets.l1]
    have ew : wrap64 (((8 * i : Nat) : Int) + (7 - (s : Int))) = ((8 * i + (7 - s) : Nat) : Int) := by rw [w64 _ (by omega) (by omega)]; omega
    have ed : wrap64 (7 - (s : Int) - 1) = 7 - ((s + 1 : Nat) : Int) := by rw [w64 _ (by omega) (by omega)]; omega
    rw [if_pos (by omega), ew, if_pos (by omega), if_pos (by omega), rdOf_nat false t _ hp, ed, e2]
    cases hti : t[8 * i + (7 - s)] with
    | false => rw [if_neg (by simp), if_neg (by simp)]; congr 1; omega
    | true => rw [if_pos rfl, if_pos rfl]; congr 1; omega
  · refine Ev.step (fun k => ?_) h
    simp only [signalmanref01_Octets.l1]
    rw [if_neg (by omega), if_pos hacc, w64 _ (by omega) (by omega)]
    rfl
theorem RefOctets_ev (t : List Bool) (ht : t.length ≤ 140737488355328) : Ev (fun k => signalmanref01_Octets.f k t) (octs (t.length / 8) t) := by
  refine count (t.length / 8) (fun i k => signalmanref01_Octets.l0 k t (octs i t) ((8 * i : Nat) : Int)) _ ?_ ?_ |> fun z => Ev.to z (by funext k; rfl) rfl
  · intro i hi hn
    refine Ev.step (fun k => ?_) (RefOctets_in t ht i (by omega) (octs i t) (by rw [octs_length]; omega) _ (by rw [← octs_snoc]; exact hn))
    simp only [signalmanref01_Octets.l0]
    rw [w64 _ (by omega) (by omega), if_pos (by omega)]
  · refine Ev.step (fun k => ?_) (Ev.now _)
    simp only [signalmanref01_Octets.l0]
    rw [w64 _ (by omega) (by omega), if_neg (by omega)]

/-- The check of octets. -/
def chk (p : List Int) : List Int := octs 2 (Crc.tail (Crc.crc (bitsOf p)))
theorem chk_length (p : List Int) : (chk p).length = 2 := octs_length _ _
theorem chk_bits (p : List Int) : bitsOf (chk p) = Crc.tail (Crc.crc (bitsOf p)) := by
  unfold chk
  rw [bits_octs 2 _ (by rw [Crc.tail_length]; omega), List.take_of_length_le (by rw [Crc.tail_length]; omega)]
theorem chk_range (p : List Int) : ∀ x ∈ chk p, 0 ≤ x ∧ x < 256 := fun x hx => octs_range _ _ x hx
theorem RefCheck_ev (l : List Int) (hl : l.length ≤ 10000000000000) (hb : ∀ x ∈ l, 0 ≤ x ∧ x < 256) : Ev (fun k => signalmanref01_Check.f k l) (chk l) := by
  unfold signalmanref01_Check.f
  refine Ev.bind (RefBits_ev l hl hb) ?_
  refine Ev.to (RefOctets_ev (Crc.outBits (bitsOf l)) (by rw [Crc.outBits_tail, Crc.tail_length]; omega)) rfl ?_
  rw [Crc.outBits_tail, Crc.tail_length]; rfl
theorem crc_lt (t : List Bool) : Crc.crc t < 65536 := Crc.run_lt t 65535 (by decide)
theorem crc_append (s t : List Bool) : Crc.crc (s ++ t) = Crc.run (Crc.crc s) t := Crc.run_append _ s t
/-- Octets are right just if the last two are the check of the others. -/
theorem right_eq (q s : List Int) (hs : s.length = 2) (hb : ∀ x ∈ s, 0 ≤ x ∧ x < 256) : Crc.crc (bitsOf (q ++ s)) = 61624 ↔ chk q = s := by
  rw [bitsOf_append, crc_append, Crc.right_iff _ (crc_lt _) _ (by rw [bitsOf_length]; omega)]
  constructor
  · intro h
    unfold chk
    rw [← h]
    have := octs_bits' s hb
    rwa [hs] at this
  · intro h
    rw [← h, chk_bits]
theorem Right_ev (l : List Int) (hl : l.length ≤ 10000000000000) (hb : ∀ x ∈ l, 0 ≤ x ∧ x < 256) : Ev (fun k => rest_Right.f k l) (decide (2 ≤ l.length) && decide (Crc.crc (bitsOf l) = 61624)) := by
  unfold rest_Right.f
  by_cases h2 : 2 ≤ l.length
  · refine Ev.congr (fun k => if_pos (by omega)) ?_
    refine Ev.bind (Of_ev l hl hb) ?_
    refine Ev.bind (CrcBits_ev (bitsOf l) (by rw [bitsOf_length]; omega)) ?_
    refine Ev.to (Ev.now _) rfl ?_
    rw [decide_eq_true h2, Bool.true_and, Bool.eq_iff_iff]
    simp only [beq_iff_eq, decide_eq_true_eq]
    omega
  · refine Ev.congr (fun k => if_neg (by omega)) ?_
    rw [decide_eq_false h2, Bool.false_and]
    exact Ev.now _

theorem RefWhole_ev (l : List Int) (hl : l.length ≤ 10000000000000) (hb : ∀ x ∈ l, 0 ≤ x ∧ x < 256) : Ev (fun k => signalmanref01_Whole.f k l) (l ++ chk l) := by
  unfold signalmanref01_Whole.f
  refine Ev.congr (f := fun k => (signalmanref01_Check.f k l).bind fun t129 => (if (([] : List Int) ++ l).length + t129.length < 140737488355328 then (some (([] : List Int) ++ l ++ t129)) else none)) (fun k => ?_) ?_
  · rw [if_pos (by simp; omega), Option.bind_some]
  · refine Ev.bind (RefCheck_ev l hl hb) ?_
    refine Ev.congr (fun k => ?_) (Ev.now _)
    rw [if_pos (by rw [chk_length]; simp; omega), List.nil_append]

/-- The bits that a word turns, so many of them. -/
def pat (x n : Nat) : List Bool := (List.range n).map fun i => decide (x / 2 ^ i % 2 = 1)
theorem pat_length (x n : Nat) : (pat x n).length = n := by simp [pat]
theorem pat_get (x n i : Nat) (h : i < n) : (pat x n).getD i false = decide (x / 2 ^ i % 2 = 1) := by
  simp [pat, List.getD_eq_getElem?_getD, List.getElem?_map, List.getElem?_range h]
/-- A list of which some bits, one behind the other, are turned. -/
def turned (t : List Bool) (k : Nat) (w : List Bool) : List Bool := Crc.xors t (List.replicate k false ++ (w ++ List.replicate (t.length - k - w.length) false))
theorem fill_length (t : List Bool) (k : Nat) (w : List Bool) (h : k + w.length ≤ t.length) : (List.replicate k false ++ (w ++ List.replicate (t.length - k - w.length) false)).length = t.length := by simp; omega
theorem turned_length (t : List Bool) (k : Nat) (w : List Bool) (h : k + w.length ≤ t.length) : (turned t k w).length = t.length := Crc.xors_length _ _ (fill_length t k w h).symm
theorem turned_get (t : List Bool) (k : Nat) (w : List Bool) (h : k + w.length ≤ t.length) (j : Nat) : (turned t k w).getD j false = (t.getD j false ^^ (if k ≤ j then w.getD (j - k) false else false)) := by
  unfold turned
  rw [Crc.getD_xors _ _ (fill_length t k w h).symm]
  congr 1
  simp only [List.getD_eq_getElem?_getD]
  by_cases h1 : k ≤ j
  · rw [if_pos h1, List.getElem?_append_right (by simpa using h1), List.length_replicate]
    by_cases h2 : j - k < w.length
    · rw [List.getElem?_append_left h2]
    · rw [List.getElem?_append_right (by omega), List.getElem?_eq_none (l := w) (by omega)]
      cases hq : (List.replicate (t.length - k - w.length) false)[j - k - w.length]? with
      | none => rfl
      | some b =>
        have := List.mem_of_getElem? hq
        rw [List.mem_replicate] at this
        rw [this.2]; rfl
  · rw [if_neg h1, List.getElem?_append_left (by simp; omega), List.getElem?_replicate, if_pos (by omega)]
    rfl
theorem ext_getD (s t : List Bool) (h : s.length = t.length) (he : ∀ j, s.getD j false = t.getD j false) : s = t := by
  apply List.ext_getElem h
  intro i h1 h2
  have := he i
  rw [List.getD_eq_getElem?_getD, List.getD_eq_getElem?_getD, List.getElem?_eq_getElem h1, List.getElem?_eq_getElem h2] at this
  exact this
theorem turned_zero (t : List Bool) (k : Nat) (x : Nat) (h : k ≤ t.length) : turned t k (pat x 0) = t := by
  apply ext_getD _ _ (turned_length t k _ (by rw [pat_length]; omega))
  intro j
  rw [turned_get t k _ (by rw [pat_length]; omega)]
  simp [pat]
theorem turned_succ_no (t : List Bool) (k x n : Nat) (h : k + (n + 1) ≤ t.length) (hx : ¬ x / 2 ^ n % 2 = 1) : turned t k (pat x (n + 1)) = turned t k (pat x n) := by
  have h1 : k + (pat x (n + 1)).length ≤ t.length := by rw [pat_length]; omega
  have h2 : k + (pat x n).length ≤ t.length := by rw [pat_length]; omega
  apply ext_getD _ _ (by rw [turned_length _ _ _ h1, turned_length _ _ _ h2])
  intro j
  rw [turned_get t k _ h1, turned_get t k _ h2]
  congr 1
  by_cases hk : k ≤ j
  · rw [if_pos hk, if_pos hk]
    by_cases h3 : j - k < n
    · rw [pat_get _ _ _ (by omega), pat_get _ _ _ h3]
    · by_cases h4 : j - k = n
      · rw [pat_get _ _ _ (by omega), h4, decide_eq_false hx, List.getD_eq_getElem?_getD, List.getElem?_eq_none (by rw [pat_length]; omega)]; rfl
      · rw [List.getD_eq_getElem?_getD, List.getD_eq_getElem?_getD, List.getElem?_eq_none (by rw [pat_length]; omega), List.getElem?_eq_none (by rw [pat_length]; omega)]
  · rw [if_neg hk, if_neg hk]
theorem turned_succ_yes (t : List Bool) (k x n : Nat) (h : k + (n + 1) ≤ t.length) (hx : x / 2 ^ n % 2 = 1) : turned t k (pat x (n + 1)) = (turned t k (pat x n)).set (k + n) (!((turned t k (pat x n)).getD (k + n) false)) := by
  have h1 : k + (pat x (n + 1)).length ≤ t.length := by rw [pat_length]; omega
  have h2 : k + (pat x n).length ≤ t.length := by rw [pat_length]; omega
  apply ext_getD _ _ (by rw [List.length_set, turned_length _ _ _ h1, turned_length _ _ _ h2])
  intro j
  by_cases hj : j = k + n
  · subst hj
    have hlt : k + n < (turned t k (pat x n)).length := by rw [turned_length _ _ _ h2]; omega
    rw [List.getD_eq_getElem?_getD (l := List.set _ _ _), List.getElem?_set_self hlt]
    show _ = !((turned t k (pat x n)).getD (k + n) false)
    rw [turned_get t k _ h1, turned_get t k _ h2, if_pos (by omega), if_pos (by omega), show k + n - k = n from by omega, pat_get _ _ _ (by omega), decide_eq_true hx, List.getD_eq_getElem?_getD (l := pat x n), List.getElem?_eq_none (by rw [pat_length]; omega)]
    cases t.getD (k + n) false <;> rfl
  · rw [List.getD_eq_getElem?_getD (l := List.set _ _ _), List.getElem?_set_ne (by omega), ← List.getD_eq_getElem?_getD, turned_get t k _ h1, turned_get t k _ h2]
    congr 1
    by_cases hk : k ≤ j
    · rw [if_pos hk, if_pos hk]
      by_cases h3 : j - k < n
      · rw [pat_get _ _ _ (by omega), pat_get _ _ _ h3]
      · rw [List.getD_eq_getElem?_getD, List.getD_eq_getElem?_getD, List.getElem?_eq_none (by rw [pat_length]; omega), List.getElem?_eq_none (by rw [pat_length]; omega)]
    · rw [if_neg hk, if_neg hk]
def some1 (x n : Nat) : Bool := (pat x n).any id
theorem some1_succ (x n : Nat) : some1 x (n + 1) = (some1 x n || decide (x / 2 ^ n % 2 = 1)) := by
  unfold some1 pat
  rw [List.range_succ, List.map_append, List.any_append]
  simp
theorem some1_iff (x n : Nat) : some1 x n = false ↔ ∀ i, (pat x n).getD i false = false := by
  unfold some1
  rw [List.any_eq_false]
  constructor
  · intro h i
    rw [List.getD_eq_getElem?_getD]
    by_cases hi : i < (pat x n).length
    · rw [List.getElem?_eq_getElem hi]
      have := h _ (List.getElem_mem hi)
      simpa using this
    · rw [List.getElem?_eq_none (by omega)]; rfl
  · intro h b hb
    obtain ⟨i, hi, rfl⟩ := List.getElem_of_mem hb
    have := h i
    rw [List.getD_eq_getElem?_getD, List.getElem?_eq_getElem hi] at this
    simpa using this

/-- What the check sees of it. -/
theorem seen (p : List Int) (k x n : Nat) (hn : n ≤ 16) (h : k + n ≤ (bitsOf (p ++ chk p)).length) :
    (Crc.crc (turned (bitsOf (p ++ chk p)) k (pat x n)) = 61624) ↔ some1 x n = false := by
  have h2 : k + (pat x n).length ≤ (bitsOf (p ++ chk p)).length := by rw [pat_length]; exact h
  have h0 : Crc.crc (bitsOf (p ++ chk p)) = 61624 := (right_eq p (chk p) (chk_length p) (chk_range p)).mpr rfl
  have h1 := Crc.run_xor (bitsOf (p ++ chk p)) _ 65535 0 (fill_length _ k (pat x n) h2).symm
  rw [Nat.xor_zero] at h1
  have h3 : Crc.crc (turned (bitsOf (p ++ chk p)) k (pat x n)) = 61624 ^^^ Crc.run 0 (List.replicate k false ++ (pat x n ++ List.replicate ((bitsOf (p ++ chk p)).length - k - (pat x n).length) false)) := by
    rw [← h0]; exact h1
  rw [h3, some1_iff, ← Crc.burst k ((bitsOf (p ++ chk p)).length - k - (pat x n).length) (pat x n) (by rw [pat_length]; exact hn)]
  constructor
  · intro h4
    have := congrArg (61624 ^^^ ·) h4
    simp only [← Nat.xor_assoc, Nat.xor_self, Nat.zero_xor] at this
    exact this
  · intro h4; rw [h4]; rfl

theorem End_ev (p : List Int) (k x n : Nat) (i : Int) (hp : p.length ≤ 300) (hn : n ≤ 16) (h : k + n ≤ (bitsOf (p ++ chk p)).length) :
    Ev (fun m => signalmanlaw03_RestBursts.j2 m (x : Int) (turned (bitsOf (p ++ chk p)) k (pat x n)) (k : Int) (some1 x n) i false) true := by
  have h2 : k + (pat x n).length ≤ (bitsOf (p ++ chk p)).length := by rw [pat_length]; exact h
  have hL : (bitsOf (p ++ chk p)).length = 8 * (p.length + 2) := by rw [bitsOf_length, List.length_append, chk_length]
  have hS := seen p k x n hn h
  have hT := turned_length _ k (pat x n) h2
  generalize turned (bitsOf (p ++ chk p)) k (pat x n) = t at hS hT ⊢
  refine Ev.step (f := fun m => (signalmanref01_Octets.f m t).bind fun t145 => ((rest_Right.f m t145).bind fun t148 => (some (t148 == (!(some1 x n)))))) (fun m => ?_) ?_
  · simp only [signalmanlaw03_RestBursts.j2]
    rw [if_neg (by decide)]
  · refine Ev.bind (RefOctets_ev t (by omega)) ?_
    have hq : t.length / 8 = p.length + 2 := by omega
    refine Ev.bind (Right_ev (octs (t.length / 8) t) (by rw [octs_length]; omega) (octs_range _ _)) ?_
    refine Ev.to (Ev.now _) rfl ?_
    have hbits : bitsOf (octs (t.length / 8) t) = t := by rw [bits_octs _ _ (by omega), List.take_of_length_le (by omega)]
    rw [hbits, octs_length, decide_eq_true (show 2 ≤ t.length / 8 by omega), Bool.true_and]
    cases hs : some1 x n with
    | false => rw [decide_eq_true (hS.mpr hs)]; rfl
    | true => rw [decide_eq_false (fun h' => by rw [hS.mp h'] at hs; cases hs)]; rfl

theorem Loop_ev (p : List Int) (k x : Nat) (hp : p.length ≤ 300) (hk : k < (bitsOf (p ++ chk p)).length) :
    Ev (fun m => signalmanlaw03_RestBursts.l0 m (x : Int) (bitsOf (p ++ chk p)) (k : Int) false 0) true := by
  have hL : (bitsOf (p ++ chk p)).length = 8 * (p.length + 2) := by rw [bitsOf_length, List.length_append, chk_length]
  generalize hN : min 16 ((bitsOf (p ++ chk p)).length - k) = N
  refine count N (fun n m => signalmanlaw03_RestBursts.l0 m (x : Int) (turned (bitsOf (p ++ chk p)) k (pat x n)) (k : Int) (some1 x n) (n : Int)) true ?_ ?_ |> fun z => Ev.to z (by funext m; rw [turned_zero _ _ _ (by omega)]; rfl) rfl
  · intro n hn hnx
    have h2 : k + (pat x n).length ≤ (bitsOf (p ++ chk p)).length := by rw [pat_length]; omega
    have hT := turned_length _ k (pat x n) h2
    refine Ev.step (f := fun m => signalmanlaw03_RestBursts.j2 m (x : Int) (turned (bitsOf (p ++ chk p)) k (pat x n)) (k : Int) (some1 x n) (n : Int) true) (fun m => ?_) ?_
    · simp only [signalmanlaw03_RestBursts.l0]
      rw [if_pos (by omega), w64 _ (by omega) (by omega), decide_eq_true (by rw [hT]; omega)]
    · have es : shr .u16 (x : Int) (n : Int) = ((x / 2 ^ n : Nat) : Int) := by
        unfold shr
        have : min ((n : Int).toNat) IntKind.u16.bits = n := by show min ((n : Int).toNat) 16 = n; omega
        rw [this]; simp
      have em : Int.tmod ((x / 2 ^ n : Nat) : Int) 2 = ((x / 2 ^ n % 2 : Nat) : Int) := by
        generalize x / 2 ^ n = y
        rw [Int.tmod_eq_emod_of_nonneg (by omega)]; omega
      refine Ev.step (fun m => ?_) hnx
      simp only [signalmanlaw03_RestBursts.j2]
      rw [if_pos trivial, if_pos (by omega), es, em, w64s n (by omega), w64 ((k : Int) + (n : Int)) (by omega) (by omega), some1_succ]
      by_cases hb : x / 2 ^ n % 2 = 1
      · rw [if_pos (by rw [hb]; rfl), if_pos (by omega), if_pos (by rw [hT]; omega), turned_succ_yes _ _ _ _ (by omega) hb, decide_eq_true hb, Bool.or_true, show ((k : Int) + (n : Int)) = ((k + n : Nat) : Int) from by omega, Int.toNat_natCast]
        rfl
      · rw [if_neg (fun h' => hb (by exact_mod_cast h')), turned_succ_no _ _ _ _ (by omega) hb, decide_eq_false hb, Bool.or_false]
  · have h2 : k + (pat x N).length ≤ (bitsOf (p ++ chk p)).length := by rw [pat_length]; omega
    have hT := turned_length _ k (pat x N) h2
    refine Ev.step (fun m => ?_) (End_ev p k x N (N : Int) hp (by omega) (by omega))
    simp only [signalmanlaw03_RestBursts.l0]
    by_cases h16 : N < 16
    · rw [if_pos (by omega), w64 _ (by omega) (by omega), decide_eq_false (by rw [hT]; omega)]
    · rw [if_neg (by omega)]

theorem RestBursts : signalmanlaw03_RestBursts.Pure := by
  intro l0 a1 a2 _ _ hw ha hx
  have hb := wf8s hw
  have ha' : 0 ≤ a1 ∧ a1 < 65536 := by simp [Lit.wf, IntKind.min, IntKind.max, IntKind.signed, IntKind.bits] at ha; omega
  have hx' : 0 ≤ a2 ∧ a2 < 65536 := by simp [Lit.wf, IntKind.min, IntKind.max, IntKind.signed, IntKind.bits] at hx; omega
  obtain ⟨a, rfl⟩ : ∃ m : Nat, a1 = m := Int.eq_ofNat_of_zero_le ha'.1
  obtain ⟨x, rfl⟩ : ∃ m : Nat, a2 = m := Int.eq_ofNat_of_zero_le hx'.1
  refine Ev.rounds (g := fun k => signalmanlaw03_RestBursts.f k l0 (a : Int) (x : Int)) ?_
  have long : Ev (fun k => signalmanlaw03_RestBursts.j0 k l0 (a : Int) (x : Int) true) true := by
    refine Ev.step (fun k => ?_) (Ev.now true)
    simp only [signalmanlaw03_RestBursts.j0]
    rw [if_pos trivial]; rfl
  by_cases h0 : l0.length ≤ 300
  · refine Ev.congr (f := fun k => signalmanlaw03_RestBursts.j0 k l0 (a : Int) (x : Int) ((x : Int) == 0)) (fun k => ?_) ?_
    · unfold signalmanlaw03_RestBursts.f
      show (if (l0.length : Int) > 300 then _ else _) = _
      rw [if_neg (by omega)]
    · cases hz : ((x : Int) == 0) with
      | true => exact long
      | false =>
        have hL : (bitsOf (l0 ++ chk l0)).length = 8 * (l0.length + 2) := by rw [bitsOf_length, List.length_append, chk_length]
        have hwb : ∀ y ∈ l0 ++ chk l0, 0 ≤ y ∧ y < 256 := by
          intro y hy
          rcases List.mem_append.mp hy with h | h
          · exact hb y h
          · exact chk_range l0 y h
        have hk : a % (bitsOf (l0 ++ chk l0)).length < (bitsOf (l0 ++ chk l0)).length := Nat.mod_lt _ (by omega)
        refine Ev.step (f := fun k => (signalmanref01_Whole.f k l0).bind fun t137 => ((signalmanref01_Bits.f k t137).bind fun t140 => (if (t140.length : Int) = 0 then (none) else (signalmanlaw03_RestBursts.l0 k (x : Int) t140 (Int.tmod (wrap64 ((a : Int))) (t140.length : Int)) false 0)))) (fun k => ?_) ?_
        · simp only [signalmanlaw03_RestBursts.j0]
          rw [if_neg (by decide)]
        · refine Ev.bind (RefWhole_ev l0 (by omega) hb) ?_
          refine Ev.bind (RefBits_ev (l0 ++ chk l0) (by rw [List.length_append, chk_length]; omega) hwb) ?_
          refine Ev.congr (fun k => ?_) (Loop_ev l0 (a % (bitsOf (l0 ++ chk l0)).length) x h0 hk)
          rw [if_neg (by omega), w64 _ (by omega) (by omega), Int.tmod_eq_emod_of_nonneg (by omega), Int.natCast_emod]
  · refine Ev.congr (fun k => ?_) long
    unfold signalmanlaw03_RestBursts.f
    show (if (l0.length : Int) > 300 then _ else _) = _
    rw [if_pos (by omega)]

end Go.Proofs.Ytkcinjemmnajmaa.Pure
