/- The last step of the law TapeRuns: what the printed functions tell is always true: how many ones there are, and how many the longest run has. No condition. -/
import Derived.Test.YtjaenbcboecdbaaMTapeRunsx
import Derived.Test.YtjaenbcboecdbaaBase
namespace Go.Proofs.Ytjaenbcboecdbaa.Pure
open Go Go.RowKit Go.Proofs.Ytjaenbcboecdbaa.MTapeRuns Go.Proofs.YtjaenbcboecdbaaW.PrintWords Go.Proofs.YtjaenbcboecdbaaW.PrintLast Go.Proofs.YtjaenbcboecdbaaW.PrintMore Go.Proofs.Ytjaenbcboecdbaa.Base

theorem wf8 {x : Int} (h : (Lit.int .u8 x).wf = true) : 0 ≤ x ∧ x < 256 := by
  simp [Lit.wf, IntKind.min, IntKind.max, IntKind.signed, IntKind.bits] at h; omega
theorem wf8s {l : List Int} (h : ∀ x ∈ l, (Lit.int .u8 x).wf = true) : ∀ x ∈ l, 0 ≤ x ∧ x < 256 := fun x hx => wf8 (h x hx)

theorem bit_and (b : Int) (j : Nat) (h0 : 0 ≤ b) (h1 : b < 256) (hj : j < 8) : ((Go.bits .and .u8 (shr .u8 b (j : Int)) 1) == 1) = bitN b j := by
  have e : shr .u8 b (j : Int) = b / 2 ^ j := shr_small (k := .u8) (x := b) (y := (j : Int)) rfl (by show (j : Int) ≤ 8; omega) ▸ rfl
  have h2 : 0 ≤ b / 2 ^ j := Int.ediv_nonneg h0 (Int.pow_nonneg (by decide))
  have h3 : b / 2 ^ j < 256 := by
    have := Int.ediv_le_self (2 ^ j) h0
    omega
  rw [e, show (1 : Int) = 2 ^ 1 - 1 from rfl, bits_mask .u8 8 (by decide) wraps_u8 1 (by decide) _ h2 h3]
  rfl

theorem Of_in (l : List Int) (i : Nat) (hi : i < l.length) (h0 : 0 ≤ l[i]) (h1 : l[i] < 256) (acc : List Bool) (r : List Bool) (hacc : acc.length + 8 < 140737488355328)
    (h : Ev (fun k => tape_Of.l0 k (acc ++ octet l[i]) l (l.length : Int) (wrap64 ((i : Int) + 1))) r) :
    Ev (fun k => tape_Of.l1 k acc l[i] l (l.length : Int) (i : Int) 0) r := by
  refine count 8 (fun j k => tape_Of.l1 k (acc ++ (List.range j).map (bitN l[i])) l[i] l (l.length : Int) (i : Int) (j : Int)) r ?_ ?_ |> fun z => Ev.to z (by funext k; simp) rfl
  · intro j hj hn
    refine Ev.step (fun k => ?_) hn
    have e : (List.range (j + 1)).map (bitN l[i]) = (List.range j).map (bitN l[i]) ++ [bitN l[i] j] := by rw [List.range_succ, List.map_append]; rfl
    simp only [tape_Of.l1]
    rw [if_pos (by omega), if_pos (by omega), if_pos (by simp; omega), bit_and _ _ h0 h1 hj, w64s j (by omega), e, List.append_assoc]
  · refine Ev.step (fun k => ?_) h
    simp only [tape_Of.l1]
    rw [if_neg (by decide)]
    rfl

theorem Of_ev (l : List Int) (hl : l.length ≤ 10000000000000) (hb : ∀ x ∈ l, 0 ≤ x ∧ x < 256) : Ev (fun k => tape_Of.f k l) (bitsOf l) := by
  refine count l.length (fun i k => tape_Of.l0 k (bitsOf (l.take i)) l (l.length : Int) (i : Int)) (bitsOf l) ?_ ?_ |> fun z => Ev.to z (by funext k; simp [tape_Of.f, bitsOf]) rfl
  · intro i hi hn
    have hx := hb l[i] (List.getElem_mem hi)
    have hlen : (bitsOf (l.take i)).length = 8 * i := by rw [bitsOf_length, List.length_take]; omega
    have key := Of_in l i hi hx.1 hx.2 (bitsOf (l.take i)) (bitsOf l) (by omega) (by rw [w64s i (by omega), ← bitsOf_take_succ l i hi]; exact hn)
    refine Ev.step (fun k => ?_) key
    simp only [tape_Of.l0]
    rw [if_pos (by omega), if_pos (by omega), if_pos (by omega), rd_nat l i hi]
  · refine Ev.step (fun k => ?_) (Ev.now _)
    simp only [tape_Of.l0]
    rw [if_neg (by omega), List.take_length]

theorem Low_ev (t : List Bool) (hl : t.length ≤ 140737488355328) : Ev (fun k => tape_Low.f k t) (low t) := by
  refine count t.length (fun i k => tape_Low.l0 k (low (t.take i)) t (t.length : Int) (i : Int)) (low t) ?_ ?_ |> fun z => Ev.to z (by funext k; simp [tape_Low.f, low, val]) rfl
  · intro i hi hn
    have et : t.take (i + 1) = t.take i ++ [t[i]] := List.take_succ_eq_append_getElem hi
    refine Ev.step (fun k => ?_) hn
    simp only [tape_Low.l0]
    rw [if_pos (by omega), if_pos (by omega), if_pos (by omega), rdOf_nat false t i hi, w64s i (by omega)]
    by_cases h8 : i < 8
    · have e8 : low (t.take (i + 1)) = low (t.take i) + (if t[i] then 2 ^ i else 0) := by
        unfold low
        rw [List.take_take, List.take_take, show min 8 (i + 1) = i + 1 from by omega, show min 8 i = i from by omega, et, val_snoc]
        have : (t.take i).length = i := by rw [List.length_take]; omega
        rw [this]
      cases hti : t[i] with
      | false => rw [if_neg (by simp), e8, hti]; simp
      | true =>
        rw [if_pos rfl, if_pos (by omega), e8, hti]
        have hv : low (t.take i) < 2 ^ i := by
          have := val_hi ((t.take i).take 8)
          have hle : ((t.take i).take 8).length = i := by simp; omega
          rw [hle] at this; exact this
        have hv0 := low_lo (t.take i)
        have hp : (2 : Int) ^ i ≤ 128 := by
          have : (2 : Nat) ^ i ≤ 2 ^ 7 := Nat.pow_le_pow_right (by decide) (by omega)
          exact_mod_cast this
        have hp0 : (0 : Int) < 2 ^ i := Int.pow_pos (by decide)
        have es : shl .u8 1 (i : Int) = 2 ^ i := by
          unfold shl
          rw [IntKind.wrap_u8]
          have : min ((i : Int).toNat) IntKind.u8.bits = i := by show min ((i : Int).toNat) 8 = i; omega
          rw [this, Int.one_mul]; omega
        rw [es]
        have ej : Go.bits .or .u8 (low (t.take i)) (2 ^ i) = low (t.take i) + 2 ^ i := by
          have := bits_join .u8 8 (by decide) wraps_u8 i (2 ^ i) (low (t.take i)) (by omega) (by simp) (by omega) hv0 hv (by omega)
          have comm : Go.bits .or .u8 (low (t.take i)) (2 ^ i) = Go.bits .or .u8 (2 ^ i) (low (t.take i)) := by
            simp only [Go.bits]; rw [BitVec.or_comm]
          rw [comm, this]; omega
        rw [ej]; simp
    · have e8 : low (t.take (i + 1)) = low (t.take i) := by
        unfold low
        rw [List.take_take, List.take_take, show min 8 (i + 1) = 8 from by omega, show min 8 i = 8 from by omega]
      rw [e8]
      cases hti : t[i] with
      | false => rw [if_neg (by simp)]
      | true => rw [if_pos rfl, if_neg (by omega)]
  · refine Ev.step (fun k => ?_) (Ev.now _)
    simp only [tape_Low.l0]
    rw [if_neg (by omega), List.take_length]

theorem Text_ev (t : List Bool) (hl : t.length ≤ 140737488355328) : Ev (fun k => tape_Tape_Text.f k t) (strOfNums (signs t)) := by
  refine count t.length (fun i k => tape_Tape_Text.l0 k (strOfNums (signs (t.take i))) t (t.length : Int) (i : Int)) _ ?_ ?_ |> fun z => Ev.to z (by funext k; simp [tape_Tape_Text.f, strOfNums, signs]) rfl
  · intro i hi hn
    have et : t.take (i + 1) = t.take i ++ [t[i]] := List.take_succ_eq_append_getElem hi
    have hsz : (strOfNums (signs (t.take i))).size = i := by
      show (strOfNums (signs (t.take i))).data.size = i
      simp [strOfNums, signs]; omega
    refine Ev.step (fun k => ?_) hn
    simp only [tape_Tape_Text.l0]
    rw [if_pos (by omega), if_pos (by omega), if_pos (by omega), rdOf_nat false t i hi, w64s i (by omega), et]
    have e2 : strOfNums (signs (t.take i ++ [t[i]])) = strOfNums (signs (t.take i)) ++ (if t[i] = true then (⟨#[49]⟩ : ByteArray) else ⟨#[48]⟩) := by
      apply ByteArray.ext
      rw [ByteArray.data_append]
      cases t[i] <;> simp [strOfNums, signs, sign]
    rw [e2]
    cases hti : t[i] with
    | false => rw [if_neg (by simp), if_pos (by rw [hsz]; omega), if_neg (by simp)]
    | true => rw [if_pos rfl, if_pos (by rw [hsz]; omega), if_pos rfl]
  · refine Ev.step (fun k => ?_) (Ev.now _)
    simp only [tape_Tape_Text.l0]
    rw [if_neg (by omega), List.take_length]

theorem bit_div (b : Int) (j : Nat) (h0 : 0 ≤ b) (h1 : b < 256) (hj : j < 8) :
    (shl .u8 1 (j : Int)) = 2 ^ j ∧ ((Int.tmod (IntKind.u8.wrap (Int.tdiv b (shl .u8 1 (j : Int)))) 2) == 1) = bitN b j := by
  have hp : (2 : Int) ^ j ≤ 128 := by
    have : (2 : Nat) ^ j ≤ 2 ^ 7 := Nat.pow_le_pow_right (by decide) (by omega)
    exact_mod_cast this
  have hp0 : (0 : Int) < 2 ^ j := Int.pow_pos (by decide)
  have es : shl .u8 1 (j : Int) = 2 ^ j := by
    unfold shl
    rw [IntKind.wrap_u8]
    have : min ((j : Int).toNat) IntKind.u8.bits = j := by show min ((j : Int).toNat) 8 = j; omega
    rw [this, Int.one_mul]; omega
  refine ⟨es, ?_⟩
  rw [es, Int.tdiv_eq_ediv_of_nonneg h0]
  have h2 : 0 ≤ b / 2 ^ j := Int.ediv_nonneg h0 (by omega)
  have h3 : b / 2 ^ j < 256 := by
    have := Int.ediv_le_self (2 ^ j) h0
    omega
  rw [IntKind.wrap_u8, Int.emod_eq_of_lt h2 h3, Int.tmod_eq_emod_of_nonneg h2]
  rfl
theorem RefBits_ev (l : List Int) (hl : l.length ≤ 10000000000000) (hb : ∀ x ∈ l, 0 ≤ x ∧ x < 256) : Ev (fun k => signalmanref01_Bits.f k l) (bitsOf l) := by
  have hL : (bitsOf l).length = 8 * l.length := bitsOf_length l
  refine count (8 * l.length) (fun i k => signalmanref01_Bits.l0 k l ((bitsOf l).take i) (i : Int)) (bitsOf l) ?_ ?_ |> fun z => Ev.to z (by funext k; simp [signalmanref01_Bits.f]) rfl
  · intro i hi hn
    have hq : i / 8 < l.length := by omega
    have hx := hb l[i / 8] (List.getElem_mem hq)
    have hi' : i < (bitsOf l).length := by omega
    have et : (bitsOf l).take (i + 1) = (bitsOf l).take i ++ [bitN l[i / 8] (i % 8)] := by
      rw [List.take_succ_eq_append_getElem hi', bitsOf_get l i hi' hq]
    have ed : wrap64 (Int.tdiv (i : Int) 8) = ((i / 8 : Nat) : Int) := by
      rw [Int.tdiv_eq_ediv_of_nonneg (by omega), w64 _ (by omega) (by omega)]; omega
    have em : Int.tmod (i : Int) 8 = ((i % 8 : Nat) : Int) := by
      rw [Int.tmod_eq_emod_of_nonneg (by omega)]; omega
    have hbit := bit_div l[i / 8] (i % 8) hx.1 hx.2 (by omega)
    have hp0 : (0 : Int) < 2 ^ (i % 8) := Int.pow_pos (by decide)
    refine Ev.step (fun k => ?_) hn
    simp only [signalmanref01_Bits.l0]
    rw [w64 (8 * (l.length : Int)) (by omega) (by omega), ed, em, if_pos (by omega), if_pos (by omega), if_pos (by omega), if_pos (by omega), if_neg (by rw [hbit.1]; omega),
      if_pos (by rw [List.length_take]; omega), rd_nat l (i / 8) hq, hbit.2, w64s i (by omega), et]
  · refine Ev.step (fun k => ?_) (Ev.now _)
    simp only [signalmanref01_Bits.l0]
    rw [w64 (8 * (l.length : Int)) (by omega) (by omega), if_neg (by omega), List.take_of_length_le (by omega)]

theorem Awake_ev : Ev (fun k => signalmanlaw02_awake.f k) true := by
  have hb : ∀ x ∈ ([6] : List Int), 0 ≤ x ∧ x < 256 := by decide
  have e : bitsOf [6] = [false, true, true, false, false, false, false, false] := by decide +kernel
  refine Ev.to (Ev.bind (Of_ev [6] (by decide) hb) (Ev.bind (Text_ev _ (by rw [e]; decide)) ?_)) rfl rfl
  refine Ev.congr (fun k => if_pos (by rw [ByteArray.toList_eq, strOfNums_toList, e]; decide +kernel)) ?_
  refine Ev.to (Ev.bind (Low_ev _ (by rw [e]; decide)) (Ev.now _)) rfl ?_
  rw [e]; decide +kernel

/-- The last bits are cut off: how many are left. -/
def kept (n m : Nat) : Nat := n - m % (n + 1)
theorem kept_le (n m : Nat) : kept n m ≤ n := by unfold kept; omega
theorem cut_eq (n m : Nat) (hn : n ≤ 1000000000000) (hm : m < 256) : wrap64 ((n : Int) - (Int.tmod (wrap64 (m : Int)) (wrap64 ((n : Int) + 1)))) = ((kept n m : Nat) : Int) := by
  have h1 : wrap64 (m : Int) = (m : Int) := w64 _ (by omega) (by omega)
  have h3 : m % (n + 1) ≤ n := Nat.le_of_lt_succ (Nat.mod_lt m (Nat.succ_pos n))
  rw [h1, w64s n (by omega), Int.tmod_eq_emod_of_nonneg (by omega)]
  rw [show ((m : Int) % ((n + 1 : Nat) : Int)) = ((m % (n + 1) : Nat) : Int) from by rw [Int.natCast_emod]]
  rw [w64 _ (by omega) (by omega)]
  unfold kept; omega

/-- How many ones there are. -/
def ones : List Bool → Nat
  | [] => 0
  | b :: t => (if b then 1 else 0) + ones t
theorem ones_le (t : List Bool) : ones t ≤ t.length := by
  induction t with
  | nil => simp [ones]
  | cons b t ih => simp only [ones, List.length_cons]; split <;> omega
theorem ones_snoc (t : List Bool) (b : Bool) : ones (t ++ [b]) = ones t + (if b then 1 else 0) := by
  induction t with
  | nil => simp [ones]
  | cons c t ih => simp only [List.cons_append, ones, ih]; omega
theorem Ones_ev (t : List Bool) (hl : t.length < 140737488355328) : Ev (fun k => tape_Tape_Ones.f k t) (ones t : Int) := by
  refine count t.length (fun i k => tape_Tape_Ones.l0 k (ones (t.take i) : Int) t (t.length : Int) (i : Int)) _ ?_ ?_ |> fun z => Ev.to z (by funext k; simp [tape_Tape_Ones.f, ones]) rfl
  · intro i hi hn
    have et : ones (t.take (i + 1)) = ones (t.take i) + (if t[i] then 1 else 0) := by rw [List.take_succ_eq_append_getElem hi, ones_snoc]
    have h1 := ones_le (t.take i)
    have h2 : (t.take i).length = i := by rw [List.length_take]; omega
    refine Ev.step (fun k => ?_) hn
    simp only [tape_Tape_Ones.l0]
    rw [if_pos (by omega), if_pos (by omega), if_pos (by omega), rdOf_nat false t i hi, w64s i (by omega), et]
    cases hti : t[i] with
    | false => rw [if_neg (by simp)]; simp
    | true => rw [if_pos rfl, if_pos rfl, w64s _ (by omega)]
  · refine Ev.step (fun k => ?_) (Ev.now _)
    simp only [tape_Tape_Ones.l0]
    rw [if_neg (by omega), List.take_length]

/-- How many ones a list begins with; how many the longest run has. -/
def lead : List Bool → Nat
  | [] => 0
  | b :: t => if b then lead t + 1 else 0
def most : List Bool → Nat
  | [] => 0
  | b :: t => max (lead (b :: t)) (most t)
theorem lead_le (t : List Bool) : lead t ≤ t.length := by
  induction t with
  | nil => simp [lead]
  | cons b t ih => simp only [lead, List.length_cons]; split <;> omega
theorem lead_most (t : List Bool) : lead t ≤ most t := by cases t <;> simp only [lead, most] <;> omega
theorem most_le (t : List Bool) : most t ≤ t.length := by
  induction t with
  | nil => simp [most]
  | cons b t ih => have := lead_le (b :: t); simp only [most, List.length_cons] at *; omega
theorem Run_in (t : List Bool) (hl : t.length < 140737488355328) : ∀ d i m n, i + d = t.length → n ≤ m → m ≤ i →
    Ev (fun k => tape_Tape_Run.l0 k ((m : Nat) : Int) ((n : Nat) : Int) t (t.length : Int) (i : Int)) ((max m (max (n + lead (t.drop i)) (most (t.drop i))) : Nat) : Int) := by
  intro d
  induction d with
  | zero =>
    intro i m n hi hn hm
    refine Ev.to (Ev.step (g := fun k => tape_Tape_Run.l0 k ((m : Nat) : Int) ((n : Nat) : Int) t (t.length : Int) (i : Int)) (fun k => ?_) (Ev.now (m : Int))) rfl ?_
    · simp only [tape_Tape_Run.l0]
      rw [if_neg (by omega)]
    · rw [List.drop_of_length_le (by omega)]; simp only [lead, most]; omega
  | succ d ih =>
    intro i m n hi hn hm
    have h1 : i < t.length := by omega
    have ea : t.drop i = t[i] :: t.drop (i + 1) := List.drop_eq_getElem_cons h1
    have hlm := lead_most (t.drop (i + 1))
    cases hti : t[i] with
    | false =>
      refine Ev.to (Ev.step (g := fun k => tape_Tape_Run.l0 k ((m : Nat) : Int) ((n : Nat) : Int) t (t.length : Int) (i : Int)) (fun k => ?_) (ih (i + 1) m 0 (by omega) (by omega) (by omega))) rfl ?_
      · simp only [tape_Tape_Run.l0]
        rw [if_pos (by omega), if_pos (by omega), if_pos (by omega), rdOf_nat false t i h1, hti, if_neg (by simp), w64s i (by omega)]
        have : mx (m : Int) 0 = (m : Int) := by unfold mx; omega
        rw [this]; rfl
      · rw [ea, hti]; simp only [lead, most]; simp; omega
    | true =>
      refine Ev.to (Ev.step (g := fun k => tape_Tape_Run.l0 k ((m : Nat) : Int) ((n : Nat) : Int) t (t.length : Int) (i : Int)) (fun k => ?_) (ih (i + 1) (max m (n + 1)) (n + 1) (by omega) (by omega) (by omega))) rfl ?_
      · simp only [tape_Tape_Run.l0]
        rw [if_pos (by omega), if_pos (by omega), if_pos (by omega), rdOf_nat false t i h1, hti, if_pos rfl, w64s i (by omega), w64s n (by omega)]
        have : mx (m : Int) ((n + 1 : Nat) : Int) = ((max m (n + 1) : Nat) : Int) := by unfold mx; split <;> omega
        rw [this]
      · rw [ea, hti]; simp only [lead, most, if_true]; omega
theorem Run_ev (t : List Bool) (hl : t.length < 140737488355328) : Ev (fun k => tape_Tape_Run.f k t) (most t : Int) := by
  refine Ev.to (Run_in t hl t.length 0 0 0 (by omega) (by omega) (by omega)) (by funext k; rfl) ?_
  have := lead_most t
  simp only [List.drop_zero]; omega

theorem lead_get (t : List Bool) : ∀ n (h : n < t.length), n < lead t → t[n] = true := by
  induction t with
  | nil => intro n h; simp at h
  | cons b t ih =>
    intro n h hn
    cases b with
    | false => simp [lead] at hn
    | true =>
      cases n with
      | zero => rfl
      | succ n => simp only [lead, if_true] at hn; simpa using ih n (by simpa using h) (by omega)
theorem lead_end (t : List Bool) (h : lead t < t.length) : t[lead t] = false := by
  induction t with
  | nil => simp at h
  | cons b t ih =>
    cases b with
    | false => simp [lead]
    | true => simp only [lead, if_true, List.length_cons] at h ⊢; simpa using ih (by omega)

def best (t : List Bool) (i : Nat) (m : Nat) : Nat := max m (most (t.drop i))

theorem Next_ev (t : List Bool) (hl : t.length < 140737488355328) (i m : Nat) (hi : i < t.length) (_hm : m ≤ t.length)
    (h : Ev (fun k => signalmanlaw02_TapeRuns.l0 k t ((ones (t.take (i + 1)) : Nat) : Int) ((max m (lead (t.drop i)) : Nat) : Int) ((i + 1 : Nat) : Int)) true) :
    Ev (fun k => signalmanlaw02_TapeRuns.l0 k t ((ones (t.take i) : Nat) : Int) (m : Int) (i : Int)) true := by
  have hlead := lead_le (t.drop i)
  have hdl : (t.drop i).length = t.length - i := List.length_drop
  have hj : Ev (fun k => signalmanlaw02_TapeRuns.j3 k t ((ones (t.take i) : Nat) : Int) (m : Int) (i : Int) ((lead (t.drop i) : Nat) : Int)) true := by
    have et : ones (t.take (i + 1)) = ones (t.take i) + (if t[i] then 1 else 0) := by rw [List.take_succ_eq_append_getElem hi, ones_snoc]
    have h1 := ones_le (t.take i)
    have h2 : (t.take i).length = i := by rw [List.length_take]; omega
    refine Ev.step (fun k => ?_) h
    simp only [signalmanlaw02_TapeRuns.j3]
    by_cases hgt : m < lead (t.drop i)
    · rw [if_pos (by omega), if_pos (by omega), if_pos (by omega), rdOf_nat false t i hi, Nat.max_eq_right (by omega), w64s i (by omega), et]
      cases hti : t[i] with
      | false => rw [if_neg (by simp)]; simp
      | true => rw [if_pos rfl, if_pos rfl, w64s _ (by omega)]
    · rw [if_neg (by omega), if_pos (by omega), if_pos (by omega), rdOf_nat false t i hi, Nat.max_eq_left (by omega), w64s i (by omega), et]
      cases hti : t[i] with
      | false => rw [if_neg (by simp)]; simp
      | true => rw [if_pos rfl, if_pos rfl, w64s _ (by omega)]
  have hin : Ev (fun k => signalmanlaw02_TapeRuns.l1 k t ((ones (t.take i) : Nat) : Int) (m : Int) (i : Int) 0) true := by
    refine count (lead (t.drop i)) (fun n k => signalmanlaw02_TapeRuns.l1 k t ((ones (t.take i) : Nat) : Int) (m : Int) (i : Int) (n : Int)) true ?_ ?_
    · intro n hn hnx
      have hnt : i + n < t.length := by omega
      have hg : t[i + n] = true := by
        have := lead_get (t.drop i) n (by omega) hn
        rwa [List.getElem_drop] at this
      refine Ev.step (fun k => ?_) hnx
      simp only [signalmanlaw02_TapeRuns.l1]
      rw [w64 ((t.length : Int) - (i : Int)) (by omega) (by omega), w64 ((i : Int) + (n : Int)) (by omega) (by omega), if_pos (by omega), if_pos (by omega), if_pos (by omega), show ((i : Int) + (n : Int)) = ((i + n : Nat) : Int) from by omega, rdOf_nat false t (i + n) hnt, hg, if_pos rfl, w64s n (by omega)]
    · refine Ev.step (fun k => ?_) hj
      simp only [signalmanlaw02_TapeRuns.l1]
      rw [w64 ((t.length : Int) - (i : Int)) (by omega) (by omega), w64 ((i : Int) + ((lead (t.drop i) : Nat) : Int)) (by omega) (by omega)]
      by_cases he : lead (t.drop i) < t.length - i
      · have hg : t[i + lead (t.drop i)] = false := by
          have := lead_end (t.drop i) (by omega)
          rwa [List.getElem_drop] at this
        rw [if_pos (by omega), if_pos (by omega), if_pos (by omega), show ((i : Int) + ((lead (t.drop i) : Nat) : Int)) = ((i + lead (t.drop i) : Nat) : Int) from by omega, rdOf_nat false t _ (by omega), hg, if_neg (by simp)]
      · rw [if_neg (by omega)]
  refine Ev.step (fun k => ?_) hin
  simp only [signalmanlaw02_TapeRuns.l0]
  rw [if_pos (by omega)]

theorem Loop_ev (t : List Bool) (hl : t.length < 140737488355328) : ∀ d i m, i + d = t.length → m ≤ t.length → max m (most (t.drop i)) = most t →
    Ev (fun k => signalmanlaw02_TapeRuns.l0 k t ((ones (t.take i) : Nat) : Int) (m : Int) (i : Int)) true := by
  intro d
  induction d with
  | zero =>
    intro i m hi hm hmost
    obtain rfl : i = t.length := by omega
    rw [List.drop_length] at hmost
    have hmm : m = most t := by simp only [most] at hmost; omega
    refine Ev.step (f := fun k => (tape_Tape_Ones.f k t).bind fun t129 => (if t129 = (ones t : Int) then ((tape_Tape_Run.f k t).bind fun t130 => (some (t130 == (most t : Int)))) else (some false))) (fun k => ?_) ?_
    · simp only [signalmanlaw02_TapeRuns.l0]
      rw [if_neg (by omega), List.take_length, hmm]
    · refine Ev.bind (Ones_ev t hl) ?_
      refine Ev.congr (fun k => if_pos rfl) ?_
      refine Ev.bind (Run_ev t hl) ?_
      refine Ev.congr (fun k => ?_) (Ev.now _)
      simp
  | succ d ih =>
    intro i m hi hm hmost
    have h1 : i < t.length := by omega
    have ea : t.drop i = t[i] :: t.drop (i + 1) := List.drop_eq_getElem_cons h1
    have hle := lead_le (t.drop i)
    have hdl : (t.drop i).length = t.length - i := List.length_drop
    have em : most (t.drop i) = max (lead (t.drop i)) (most (t.drop (i + 1))) := by
      conv => lhs; rw [ea]
      rw [most, ← ea]
    exact Next_ev t hl i m h1 hm (ih (i + 1) _ (by omega) (by omega) (by omega))

theorem TapeRuns : signalmanlaw02_TapeRuns.Pure := by
  intro l0 a1 _ _ hw ha
  have hb := wf8s hw
  have ha' := wf8 ha
  refine Ev.rounds (g := fun k => signalmanlaw02_TapeRuns.f k l0 a1) ?_
  unfold signalmanlaw02_TapeRuns.f
  refine Ev.bind Awake_ev ?_
  refine Ev.congr (fun k => if_pos rfl) ?_
  by_cases h0 : l0.length ≤ 200
  · obtain ⟨m, rfl⟩ : ∃ m : Nat, a1 = m := Int.eq_ofNat_of_zero_le ha'.1
    rw [decide_eq_false (by omega)]
    have hL := bitsOf_length l0
    have ec := cut_eq (bitsOf l0).length m (by omega) (by omega)
    have hk := kept_le (bitsOf l0).length m
    refine Ev.step (f := fun k => (signalmanref01_Bits.f k l0).bind fun t123 => (if (wrap64 ((t123.length : Int) + 1)) = 0 then (none) else (if 0 ≤ (wrap64 ((t123.length : Int) - (Int.tmod (wrap64 ((m : Int))) (wrap64 ((t123.length : Int) + 1))))) then (if (wrap64 ((t123.length : Int) - (Int.tmod (wrap64 ((m : Int))) (wrap64 ((t123.length : Int) + 1))))) ≤ (t123.length : Int) then (signalmanlaw02_TapeRuns.l0 k (t123.take ((wrap64 ((t123.length : Int) - (Int.tmod (wrap64 ((m : Int))) (wrap64 ((t123.length : Int) + 1))))) : Int).toNat) 0 0 0) else (none)) else (none)))) (fun k => ?_) ?_
    · simp only [signalmanlaw02_TapeRuns.j0]
      rw [if_neg (by simp)]
    · refine Ev.bind (RefBits_ev l0 (by omega) hb) ?_
      have hln : ((bitsOf l0).take (kept (bitsOf l0).length m)).length ≤ 1600 := by rw [List.length_take]; omega
      have L := Loop_ev ((bitsOf l0).take (kept (bitsOf l0).length m)) (by omega) ((bitsOf l0).take (kept (bitsOf l0).length m)).length 0 0 (by omega) (by omega) (by simp only [List.drop_zero]; omega)
      refine Ev.congr (fun k => ?_) L
      rw [ec, if_neg (by rw [w64s _ (by omega)]; omega), if_pos (by omega), if_pos (by omega)]
      rfl
  · rw [decide_eq_true (by omega)]
    refine Ev.step (f := fun k => (signalmanlaw02_awake.f k).bind fun t => some t) (fun k => ?_) (Ev.bind Awake_ev (Ev.now true))
    simp only [signalmanlaw02_TapeRuns.j0]
    rw [if_pos trivial]

end Go.Proofs.Ytjaenbcboecdbaa.Pure
