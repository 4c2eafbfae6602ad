/- The last step of the law RestSteps: what the printed functions tell is always true: what is left of bits, bit by bit, in any parts. No condition. -/
import Derived.Test.YtkcinjemmnajmaaCrc
import Derived.Test.YtkcinjemmnajmaaMRestStepsx
import Derived.Test.YtkcinjemmnajmaaBase
import Derived.Laws.BitsAllLaws
namespace Go.Proofs.Ytkcinjemmnajmaa.Pure
open Go Go.RowKit Go.Proofs.Ytkcinjemmnajmaa.MRestSteps Go.Proofs.YtkcinjemmnajmaaW.PrintWords Go.Proofs.YtkcinjemmnajmaaW.PrintLast Go.Proofs.YtkcinjemmnajmaaW.PrintMore Go.Proofs.Ytkcinjemmnajmaa.Base

theorem wf8 {x : Int} (h : (Lit.int .u8 x).wf = true) : 0 ≤ x ∧ x < 256 := by
  simp [Lit.wf, IntKind.min, IntKind.max, IntKind.signed, IntKind.bits] at h; omega
theorem wf8s {l : List Int} (h : ∀ x ∈ l, (Lit.int .u8 x).wf = true) : ∀ x ∈ l, 0 ≤ x ∧ x < 256 := fun x hx => wf8 (h x hx)

theorem bit_div (b : Int) (j : Nat) (h0 : 0 ≤ b) (h1 : b < 256) (hj : j < 8) :
    (shl .u8 1 (j : Int)) = 2 ^ j ∧ ((Int.tmod (IntKind.u8.wrap (Int.tdiv b (shl .u8 1 (j : Int)))) 2) == 1) = bitN b j := by
  have hp : (2 : Int) ^ j ≤ 128 := by
    have : (2 : Nat) ^ j ≤ 2 ^ 7 := Nat.pow_le_pow_right (by decide) (by omega)
    exact_mod_cast this
  have hp0 : (0 : Int) < 2 ^ j := Int.pow_pos (by decide)
  have es : shl .u8 1 (j : Int) = 2 ^ j := by
    unfold shl
    rw [IntKind.wrap_u8]
    have : min ((j : Int).toNat) IntKind.u8.bits = j := by show min ((j : Int).toNat) 8 = j; omega
    rw [this, Int.one_mul]; omega
  refine ⟨es, ?_⟩
  rw [es, Int.tdiv_eq_ediv_of_nonneg h0]
  have h2 : 0 ≤ b / 2 ^ j := Int.ediv_nonneg h0 (by omega)
  have h3 : b / 2 ^ j < 256 := by
    have := Int.ediv_le_self (2 ^ j) h0
    omega
  rw [IntKind.wrap_u8, Int.emod_eq_of_lt h2 h3, Int.tmod_eq_emod_of_nonneg h2]
  rfl
theorem RefBits_ev (l : List Int) (hl : l.length ≤ 10000000000000) (hb : ∀ x ∈ l, 0 ≤ x ∧ x < 256) : Ev (fun k => signalmanref01_Bits.f k l) (bitsOf l) := by
  have hL : (bitsOf l).length = 8 * l.length := bitsOf_length l
  refine count (8 * l.length) (fun i k => signalmanref01_Bits.l0 k l ((bitsOf l).take i) (i : Int)) (bitsOf l) ?_ ?_ |> fun z => Ev.to z (by funext k; simp [signalmanref01_Bits.f]) rfl
  · intro i hi hn
    have hq : i / 8 < l.length := by omega
    have hx := hb l[i / 8] (List.getElem_mem hq)
    have hi' : i < (bitsOf l).length := by omega
    have et : (bitsOf l).take (i + 1) = (bitsOf l).take i ++ [bitN l[i / 8] (i % 8)] := by
      rw [List.take_succ_eq_append_getElem hi', bitsOf_get l i hi' hq]
    have ed : wrap64 (Int.tdiv (i : Int) 8) = ((i / 8 : Nat) : Int) := by
      rw [Int.tdiv_eq_ediv_of_nonneg (by omega), w64 _ (by omega) (by omega)]; omega
    have em : Int.tmod (i : Int) 8 = ((i % 8 : Nat) : Int) := by
      rw [Int.tmod_eq_emod_of_nonneg (by omega)]; omega
    have hbit := bit_div l[i / 8] (i % 8) hx.1 hx.2 (by omega)
    have hp0 : (0 : Int) < 2 ^ (i % 8) := Int.pow_pos (by decide)
    refine Ev.step (fun k => ?_) hn
    simp only [signalmanref01_Bits.l0]
    rw [w64 (8 * (l.length : Int)) (by omega) (by omega), ed, em, if_pos (by omega), if_pos (by omega), if_pos (by omega), if_pos (by omega), if_neg (by rw [hbit.1]; omega),
      if_pos (by rw [List.length_take]; omega), rd_nat l (i / 8) hq, hbit.2, w64s i (by omega), et]
  · refine Ev.step (fun k => ?_) (Ev.now _)
    simp only [signalmanref01_Bits.l0]
    rw [w64 (8 * (l.length : Int)) (by omega) (by omega), if_neg (by omega), List.take_of_length_le (by omega)]

theorem wraps_u16 (n : Int) (h0 : 0 ≤ n) (h1 : n < 2 ^ 16) : IntKind.u16.wrap n = n := by
  simp [IntKind.wrap, IntKind.bits, IntKind.signed]; omega
theorem Step_eq (r : Nat) (hr : r < 65536) (b : Bool) : rest_Step.f (r : Int) b = some ((Crc.stepN r b : Nat) : Int) := by
  have e2 : ((r : Int) / (2 : Int)) = (((r >>> 1) : Nat) : Int) := by rw [Nat.shiftRight_eq_div_pow]; omega
  have h2 : r >>> 1 < 65536 := by rw [Nat.shiftRight_eq_div_pow]; omega
  have hx : Go.bits .xor .u16 ((r >>> 1 : Nat) : Int) 33800 = (((r >>> 1) ^^^ 33800 : Nat) : Int) := u16_xor_nat (r >>> 1) 33800 h2 (by decide)
  have test : ∀ c : Nat, c < 2 → ((Go.bits .and .u16 (Go.bits .xor .u16 (r : Int) (c : Int)) 1) = 1 ↔ (r.testBit 0 != decide (c = 1)) = true) := by
    intro c hc
    rw [u16_xor_nat r c hr (by omega)]
    have hlt : r ^^^ c < 2 ^ 16 := Nat.xor_lt_two_pow hr (by omega)
    rw [show (1 : Int) = 2 ^ 1 - 1 from rfl, bits_mask .u16 16 (by decide) wraps_u16 1 (by decide) _ (by omega) (by exact_mod_cast hlt)]
    have e : (((r ^^^ c : Nat) : Int) % 2 ^ 1 = 2 ^ 1 - 1) ↔ (r ^^^ c) % 2 = 1 := by omega
    rw [e]
    have hb : (r ^^^ c).testBit 0 = (r.testBit 0 ^^ c.testBit 0) := Nat.testBit_xor ..
    have hc2 : c.testBit 0 = decide (c = 1) := by rw [Nat.testBit_zero]; rcases (show c = 0 ∨ c = 1 by omega) with rfl | rfl <;> rfl
    rw [Nat.testBit_zero, hc2] at hb
    rw [← decide_eq_true_iff (p := (r ^^^ c) % 2 = 1), hb]
  unfold rest_Step.f Crc.stepN
  rw [e2]
  cases b with
  | true =>
    have this : (Go.bits .and .u16 (Go.bits .xor .u16 (r : Int) 1) 1) = 1 ↔ (r.testBit 0 != true) = true := test 1 (by decide)
    rw [if_pos rfl]
    by_cases h : (r.testBit 0 != true) = true
    · rw [if_pos (this.mpr h), if_pos h, hx]
    · rw [if_neg (fun h' => h (this.mp h')), if_neg h]
  | false =>
    have this : (Go.bits .and .u16 (Go.bits .xor .u16 (r : Int) 0) 1) = 1 ↔ (r.testBit 0 != false) = true := test 0 (by decide)
    rw [if_neg (by decide)]
    by_cases h : (r.testBit 0 != false) = true
    · rw [if_pos (this.mpr h), if_pos h, hx]
    · rw [if_neg (fun h' => h (this.mp h')), if_neg h]
theorem CrcBits_ev (t : List Bool) (hl : t.length < 140737488355328) : Ev (fun k => rest_Bits.f k t) ((Crc.crc t : Nat) : Int) := by
  refine count t.length (fun i k => rest_Bits.l0 k ((Crc.run 65535 (t.take i) : Nat) : Int) t (t.length : Int) (i : Int)) _ ?_ ?_ |> fun z => Ev.to z (by funext k; simp [rest_Bits.f, Crc.run]) rfl
  · intro i hi hn
    have hr := Crc.run_lt (t.take i) 65535 (by decide)
    have et : Crc.run 65535 (t.take (i + 1)) = Crc.stepN (Crc.run 65535 (t.take i)) t[i] := foldl_take_succ _ _ _ _ hi
    refine Ev.step (fun k => ?_) hn
    simp only [rest_Bits.l0]
    rw [if_pos (by omega), if_pos (by omega), if_pos (by omega), rdOf_nat false t i hi, Step_eq _ hr, Option.bind_some, w64s i (by omega), et]
  · refine Ev.step (fun k => ?_) (Ev.now _)
    simp only [rest_Bits.l0]
    rw [if_neg (by omega), List.take_length]
    rfl

theorem RestSteps : signalmanlaw03_RestSteps.Pure := by
  intro l0 a1 _ _ hw ha
  have hb := wf8s hw
  have ha' : 0 ≤ a1 ∧ a1 < 65536 := by simp [Lit.wf, IntKind.min, IntKind.max, IntKind.signed, IntKind.bits] at ha; omega
  refine Ev.rounds (g := fun k => signalmanlaw03_RestSteps.f k l0 a1) ?_
  refine Ev.congr (f := fun k => signalmanlaw03_RestSteps.j0 k l0 a1 (decide ((l0.length : Int) > 200))) (fun k => rfl) ?_
  by_cases h0 : l0.length ≤ 200
  · obtain ⟨m, rfl⟩ : ∃ m : Nat, a1 = m := Int.eq_ofNat_of_zero_le ha'.1
    rw [decide_eq_false (by omega)]
    have hL := bitsOf_length l0
    have hq : m % ((bitsOf l0).length + 1) ≤ (bitsOf l0).length := Nat.le_of_lt_succ (Nat.mod_lt m (Nat.succ_pos _))
    have ec : Int.tmod (wrap64 (m : Int)) (wrap64 (((bitsOf l0).length : Int) + 1)) = ((m % ((bitsOf l0).length + 1) : Nat) : Int) := by
      rw [w64 _ (by omega) (by omega), w64s _ (by omega), Int.tmod_eq_emod_of_nonneg (by omega), Int.natCast_emod]
    generalize m % ((bitsOf l0).length + 1) = q at hq ec
    refine Ev.step (f := fun k => (signalmanref01_Bits.f k l0).bind fun t120 => (if (wrap64 ((t120.length : Int) + 1)) = 0 then (none) else (if 0 ≤ (Int.tmod (wrap64 ((m : Int))) (wrap64 ((t120.length : Int) + 1))) then (if (Int.tmod (wrap64 ((m : Int))) (wrap64 ((t120.length : Int) + 1))) ≤ (t120.length : Int) then ((rest_Bits.f k (t120.take ((Int.tmod (wrap64 ((m : Int))) (wrap64 ((t120.length : Int) + 1))) : Int).toNat)).bind fun t127 => (signalmanlaw03_RestSteps.l0 k t120 t127 (Int.tmod (wrap64 ((m : Int))) (wrap64 ((t120.length : Int) + 1))))) else (none)) else (none)))) (fun k => ?_) ?_
    · simp only [signalmanlaw03_RestSteps.j0]
      rw [if_neg (by decide)]
    · refine Ev.bind (RefBits_ev l0 (by omega) hb) ?_
      generalize bitsOf l0 = t at hL hq ec ⊢
      refine Ev.congr (f := fun k => (rest_Bits.f k (t.take q)).bind fun t127 => signalmanlaw03_RestSteps.l0 k t t127 (q : Int)) (fun k => ?_) ?_
      · rw [ec, if_neg (by rw [w64s _ (by omega)]; omega), if_pos (by omega), if_pos (by omega), Int.toNat_natCast]
      · refine Ev.bind (CrcBits_ev (t.take q) (by rw [List.length_take]; omega)) ?_
        refine count_from q t.length hq (fun i k => signalmanlaw03_RestSteps.l0 k t ((Crc.run 65535 (t.take i) : Nat) : Int) (i : Int)) true ?_ ?_
        · intro i _ hi hn
          have hr := Crc.run_lt (t.take i) 65535 (by decide)
          have et : Crc.run 65535 (t.take (i + 1)) = Crc.stepN (Crc.run 65535 (t.take i)) t[i] := foldl_take_succ _ _ _ _ hi
          refine Ev.step (fun k => ?_) hn
          simp only [signalmanlaw03_RestSteps.l0]
          rw [if_pos (by omega), if_pos (by omega), rdOf_nat false t i hi, Step_eq _ hr, Option.bind_some, w64s i (by omega), et]
        · refine Ev.step (f := fun k => (rest_Bits.f k t).bind fun t130 => some (((Crc.run 65535 (t.take t.length) : Nat) : Int) == t130)) (fun k => ?_) ?_
          · simp only [signalmanlaw03_RestSteps.l0]
            rw [if_neg (by omega)]
          · refine Ev.bind (CrcBits_ev t (by omega)) ?_
            refine Ev.congr (fun k => ?_) (Ev.now true)
            rw [List.take_length]; simp [Crc.crc]
  · rw [decide_eq_true (by omega)]
    refine Ev.step (fun k => ?_) (Ev.now true)
    simp only [signalmanlaw03_RestSteps.j0]
    rw [if_pos trivial]; rfl

end Go.Proofs.Ytkcinjemmnajmaa.Pure
