/- The last step of the law TapeTurns: what the printed functions tell is always true: bits that are turned by a mask, and turned back. No condition. -/
import Derived.Test.YtjaenbcboecdbaaMTapeTurnsx
import Derived.Test.YtjaenbcboecdbaaBase
import Derived.Laws.BitsAllLaws
namespace Go.Proofs.Ytjaenbcboecdbaa.Pure
open Go Go.RowKit Go.Proofs.Ytjaenbcboecdbaa.MTapeTurns Go.Proofs.YtjaenbcboecdbaaW.PrintWords Go.Proofs.YtjaenbcboecdbaaW.PrintLast Go.Proofs.YtjaenbcboecdbaaW.PrintMore Go.Proofs.Ytjaenbcboecdbaa.Base

theorem wf8 {x : Int} (h : (Lit.int .u8 x).wf = true) : 0 ≤ x ∧ x < 256 := by
  simp [Lit.wf, IntKind.min, IntKind.max, IntKind.signed, IntKind.bits] at h; omega
theorem wf8s {l : List Int} (h : ∀ x ∈ l, (Lit.int .u8 x).wf = true) : ∀ x ∈ l, 0 ≤ x ∧ x < 256 := fun x hx => wf8 (h x hx)

theorem bit_and (b : Int) (j : Nat) (h0 : 0 ≤ b) (h1 : b < 256) (hj : j < 8) : ((Go.bits .and .u8 (shr .u8 b (j : Int)) 1) == 1) = bitN b j := by
  have e : shr .u8 b (j : Int) = b / 2 ^ j := shr_small (k := .u8) (x := b) (y := (j : Int)) rfl (by show (j : Int) ≤ 8; omega) ▸ rfl
  have h2 : 0 ≤ b / 2 ^ j := Int.ediv_nonneg h0 (Int.pow_nonneg (by decide))
  have h3 : b / 2 ^ j < 256 := by
    have := Int.ediv_le_self (2 ^ j) h0
    omega
  rw [e, show (1 : Int) = 2 ^ 1 - 1 from rfl, bits_mask .u8 8 (by decide) wraps_u8 1 (by decide) _ h2 h3]
  rfl

theorem Of_in (l : List Int) (i : Nat) (hi : i < l.length) (h0 : 0 ≤ l[i]) (h1 : l[i] < 256) (acc : List Bool) (r : List Bool) (hacc : acc.length + 8 < 140737488355328)
    (h : Ev (fun k => tape_Of.l0 k (acc ++ octet l[i]) l (l.length : Int) (wrap64 ((i : Int) + 1))) r) :
    Ev (fun k => tape_Of.l1 k acc l[i] l (l.length : Int) (i : Int) 0) r := by
  refine count 8 (fun j k => tape_Of.l1 k (acc ++ (List.range j).map (bitN l[i])) l[i] l (l.length : Int) (i : Int) (j : Int)) r ?_ ?_ |> fun z => Ev.to z (by funext k; simp) rfl
  · intro j hj hn
    refine Ev.step (fun k => ?_) hn
    have e : (List.range (j + 1)).map (bitN l[i]) = (List.range j).map (bitN l[i]) ++ [bitN l[i] j] := by rw [List.range_succ, List.map_append]; rfl
    simp only [tape_Of.l1]
    rw [if_pos (by omega), if_pos (by omega), if_pos (by simp; omega), bit_and _ _ h0 h1 hj, w64s j (by omega), e, List.append_assoc]
  · refine Ev.step (fun k => ?_) h
    simp only [tape_Of.l1]
    rw [if_neg (by decide)]
    rfl

theorem Of_ev (l : List Int) (hl : l.length ≤ 10000000000000) (hb : ∀ x ∈ l, 0 ≤ x ∧ x < 256) : Ev (fun k => tape_Of.f k l) (bitsOf l) := by
  refine count l.length (fun i k => tape_Of.l0 k (bitsOf (l.take i)) l (l.length : Int) (i : Int)) (bitsOf l) ?_ ?_ |> fun z => Ev.to z (by funext k; simp [tape_Of.f, bitsOf]) rfl
  · intro i hi hn
    have hx := hb l[i] (List.getElem_mem hi)
    have hlen : (bitsOf (l.take i)).length = 8 * i := by rw [bitsOf_length, List.length_take]; omega
    have key := Of_in l i hi hx.1 hx.2 (bitsOf (l.take i)) (bitsOf l) (by omega) (by rw [w64s i (by omega), ← bitsOf_take_succ l i hi]; exact hn)
    refine Ev.step (fun k => ?_) key
    simp only [tape_Of.l0]
    rw [if_pos (by omega), if_pos (by omega), if_pos (by omega), rd_nat l i hi]
  · refine Ev.step (fun k => ?_) (Ev.now _)
    simp only [tape_Of.l0]
    rw [if_neg (by omega), List.take_length]

theorem Low_ev (t : List Bool) (hl : t.length ≤ 140737488355328) : Ev (fun k => tape_Low.f k t) (low t) := by
  refine count t.length (fun i k => tape_Low.l0 k (low (t.take i)) t (t.length : Int) (i : Int)) (low t) ?_ ?_ |> fun z => Ev.to z (by funext k; simp [tape_Low.f, low, val]) rfl
  · intro i hi hn
    have et : t.take (i + 1) = t.take i ++ [t[i]] := List.take_succ_eq_append_getElem hi
    refine Ev.step (fun k => ?_) hn
    simp only [tape_Low.l0]
    rw [if_pos (by omega), if_pos (by omega), if_pos (by omega), rdOf_nat false t i hi, w64s i (by omega)]
    by_cases h8 : i < 8
    · have e8 : low (t.take (i + 1)) = low (t.take i) + (if t[i] then 2 ^ i else 0) := by
        unfold low
        rw [List.take_take, List.take_take, show min 8 (i + 1) = i + 1 from by omega, show min 8 i = i from by omega, et, val_snoc]
        have : (t.take i).length = i := by rw [List.length_take]; omega
        rw [this]
      cases hti : t[i] with
      | false => rw [if_neg (by simp), e8, hti]; simp
      | true =>
        rw [if_pos rfl, if_pos (by omega), e8, hti]
        have hv : low (t.take i) < 2 ^ i := by
          have := val_hi ((t.take i).take 8)
          have hle : ((t.take i).take 8).length = i := by simp; omega
          rw [hle] at this; exact this
        have hv0 := low_lo (t.take i)
        have hp : (2 : Int) ^ i ≤ 128 := by
          have : (2 : Nat) ^ i ≤ 2 ^ 7 := Nat.pow_le_pow_right (by decide) (by omega)
          exact_mod_cast this
        have hp0 : (0 : Int) < 2 ^ i := Int.pow_pos (by decide)
        have es : shl .u8 1 (i : Int) = 2 ^ i := by
          unfold shl
          rw [IntKind.wrap_u8]
          have : min ((i : Int).toNat) IntKind.u8.bits = i := by show min ((i : Int).toNat) 8 = i; omega
          rw [this, Int.one_mul]; omega
        rw [es]
        have ej : Go.bits .or .u8 (low (t.take i)) (2 ^ i) = low (t.take i) + 2 ^ i := by
          have := bits_join .u8 8 (by decide) wraps_u8 i (2 ^ i) (low (t.take i)) (by omega) (by simp) (by omega) hv0 hv (by omega)
          have comm : Go.bits .or .u8 (low (t.take i)) (2 ^ i) = Go.bits .or .u8 (2 ^ i) (low (t.take i)) := by
            simp only [Go.bits]; rw [BitVec.or_comm]
          rw [comm, this]; omega
        rw [ej]; simp
    · have e8 : low (t.take (i + 1)) = low (t.take i) := by
        unfold low
        rw [List.take_take, List.take_take, show min 8 (i + 1) = 8 from by omega, show min 8 i = 8 from by omega]
      rw [e8]
      cases hti : t[i] with
      | false => rw [if_neg (by simp)]
      | true => rw [if_pos rfl, if_neg (by omega)]
  · refine Ev.step (fun k => ?_) (Ev.now _)
    simp only [tape_Low.l0]
    rw [if_neg (by omega), List.take_length]

theorem Text_ev (t : List Bool) (hl : t.length ≤ 140737488355328) : Ev (fun k => tape_Tape_Text.f k t) (strOfNums (signs t)) := by
  refine count t.length (fun i k => tape_Tape_Text.l0 k (strOfNums (signs (t.take i))) t (t.length : Int) (i : Int)) _ ?_ ?_ |> fun z => Ev.to z (by funext k; simp [tape_Tape_Text.f, strOfNums, signs]) rfl
  · intro i hi hn
    have et : t.take (i + 1) = t.take i ++ [t[i]] := List.take_succ_eq_append_getElem hi
    have hsz : (strOfNums (signs (t.take i))).size = i := by
      show (strOfNums (signs (t.take i))).data.size = i
      simp [strOfNums, signs]; omega
    refine Ev.step (fun k => ?_) hn
    simp only [tape_Tape_Text.l0]
    rw [if_pos (by omega), if_pos (by omega), if_pos (by omega), rdOf_nat false t i hi, w64s i (by omega), et]
    have e2 : strOfNums (signs (t.take i ++ [t[i]])) = strOfNums (signs (t.take i)) ++ (if t[i] = true then (⟨#[49]⟩ : ByteArray) else ⟨#[48]⟩) := by
      apply ByteArray.ext
      rw [ByteArray.data_append]
      cases t[i] <;> simp [strOfNums, signs, sign]
    rw [e2]
    cases hti : t[i] with
    | false => rw [if_neg (by simp), if_pos (by rw [hsz]; omega), if_neg (by simp)]
    | true => rw [if_pos rfl, if_pos (by rw [hsz]; omega), if_pos rfl]
  · refine Ev.step (fun k => ?_) (Ev.now _)
    simp only [tape_Tape_Text.l0]
    rw [if_neg (by omega), List.take_length]

theorem RefText_ev (t : List Bool) (hl : t.length < 140737488355328) : Ev (fun k => signalmanref01_Text.f k t) (strOfNums (signs t)) := by
  refine count t.length (fun i k => signalmanref01_Text.l0 k t (signs (t.take i)) (i : Int)) _ ?_ ?_ |> fun z => Ev.to z (by funext k; simp [signalmanref01_Text.f, signs]) rfl
  · intro i hi hn
    have et : t.take (i + 1) = t.take i ++ [t[i]] := List.take_succ_eq_append_getElem hi
    have hsz : (signs (t.take i)).length = i := by simp [signs]; omega
    have e2 : signs (t.take (i + 1)) = signs (t.take i) ++ [sign t[i]] := by rw [et]; unfold signs; rw [List.map_append]; rfl
    refine Ev.step (fun k => ?_) hn
    simp only [signalmanref01_Text.l0]
    rw [if_pos (by omega), if_pos (by omega), rdOf_nat false t i hi, w64s i (by omega), e2]
    cases hti : t[i] with
    | false => rw [if_neg (by simp), if_pos (by omega)]; rfl
    | true => rw [if_pos rfl, if_pos (by omega)]; rfl
  · refine Ev.step (fun k => ?_) (Ev.now _)
    simp only [signalmanref01_Text.l0]
    rw [if_neg (by omega), List.take_length]
theorem signs_inj : ∀ a b : List Bool, ((strOfNums (signs a)).toList = (strOfNums (signs b)).toList) → a = b := by
  intro a b h
  rw [ByteArray.toList_eq, ByteArray.toList_eq, strOfNums_toList, strOfNums_toList, signs, signs, List.map_map, List.map_map] at h
  have inj : ∀ x y : Bool, ((fun x => UInt8.ofNat x.toNat) ∘ sign) x = ((fun x => UInt8.ofNat x.toNat) ∘ sign) y → x = y := by decide
  generalize ((fun x => UInt8.ofNat x.toNat) ∘ sign) = g at h inj
  revert b
  induction a with
  | nil => intro b h; cases b <;> simp_all
  | cons x a ih =>
    intro b h
    cases b with
    | nil => simp at h
    | cons y b => simp only [List.map_cons, List.cons.injEq] at h; rw [inj x y h.1, ih b h.2]
theorem RefSame_ev (a b : List Bool) (ha : a.length < 140737488355328) (hb : b.length < 140737488355328) : Ev (fun k => signalmanref01_Same.f k a b) (a == b) := by
  have e : ((strOfNums (signs a)).toList == (strOfNums (signs b)).toList) = (a == b) := by
    by_cases h : a = b
    · subst h; simp
    · have : ¬ (strOfNums (signs a)).toList = (strOfNums (signs b)).toList := fun e => h (signs_inj a b e)
      rw [beq_eq_false_iff_ne.mpr this, beq_eq_false_iff_ne.mpr h]
  refine Ev.bind (f := fun k t122 => (signalmanref01_Text.f k b).bind fun t123 => some (t122.toList == t123.toList)) (RefText_ev a ha) ?_
  refine Ev.bind (f := fun _ t123 => some ((strOfNums (signs a)).toList == t123.toList)) (RefText_ev b hb) ?_
  rw [e]; exact Ev.now _

theorem bit_div (b : Int) (j : Nat) (h0 : 0 ≤ b) (h1 : b < 256) (hj : j < 8) :
    (shl .u8 1 (j : Int)) = 2 ^ j ∧ ((Int.tmod (IntKind.u8.wrap (Int.tdiv b (shl .u8 1 (j : Int)))) 2) == 1) = bitN b j := by
  have hp : (2 : Int) ^ j ≤ 128 := by
    have : (2 : Nat) ^ j ≤ 2 ^ 7 := Nat.pow_le_pow_right (by decide) (by omega)
    exact_mod_cast this
  have hp0 : (0 : Int) < 2 ^ j := Int.pow_pos (by decide)
  have es : shl .u8 1 (j : Int) = 2 ^ j := by
    unfold shl
    rw [IntKind.wrap_u8]
    have : min ((j : Int).toNat) IntKind.u8.bits = j := by show min ((j : Int).toNat) 8 = j; omega
    rw [this, Int.one_mul]; omega
  refine ⟨es, ?_⟩
  rw [es, Int.tdiv_eq_ediv_of_nonneg h0]
  have h2 : 0 ≤ b / 2 ^ j := Int.ediv_nonneg h0 (by omega)
  have h3 : b / 2 ^ j < 256 := by
    have := Int.ediv_le_self (2 ^ j) h0
    omega
  rw [IntKind.wrap_u8, Int.emod_eq_of_lt h2 h3, Int.tmod_eq_emod_of_nonneg h2]
  rfl
theorem RefBits_ev (l : List Int) (hl : l.length ≤ 10000000000000) (hb : ∀ x ∈ l, 0 ≤ x ∧ x < 256) : Ev (fun k => signalmanref01_Bits.f k l) (bitsOf l) := by
  have hL : (bitsOf l).length = 8 * l.length := bitsOf_length l
  refine count (8 * l.length) (fun i k => signalmanref01_Bits.l0 k l ((bitsOf l).take i) (i : Int)) (bitsOf l) ?_ ?_ |> fun z => Ev.to z (by funext k; simp [signalmanref01_Bits.f]) rfl
  · intro i hi hn
    have hq : i / 8 < l.length := by omega
    have hx := hb l[i / 8] (List.getElem_mem hq)
    have hi' : i < (bitsOf l).length := by omega
    have et : (bitsOf l).take (i + 1) = (bitsOf l).take i ++ [bitN l[i / 8] (i % 8)] := by
      rw [List.take_succ_eq_append_getElem hi', bitsOf_get l i hi' hq]
    have ed : wrap64 (Int.tdiv (i : Int) 8) = ((i / 8 : Nat) : Int) := by
      rw [Int.tdiv_eq_ediv_of_nonneg (by omega), w64 _ (by omega) (by omega)]; omega
    have em : Int.tmod (i : Int) 8 = ((i % 8 : Nat) : Int) := by
      rw [Int.tmod_eq_emod_of_nonneg (by omega)]; omega
    have hbit := bit_div l[i / 8] (i % 8) hx.1 hx.2 (by omega)
    have hp0 : (0 : Int) < 2 ^ (i % 8) := Int.pow_pos (by decide)
    refine Ev.step (fun k => ?_) hn
    simp only [signalmanref01_Bits.l0]
    rw [w64 (8 * (l.length : Int)) (by omega) (by omega), ed, em, if_pos (by omega), if_pos (by omega), if_pos (by omega), if_pos (by omega), if_neg (by rw [hbit.1]; omega),
      if_pos (by rw [List.length_take]; omega), rd_nat l (i / 8) hq, hbit.2, w64s i (by omega), et]
  · refine Ev.step (fun k => ?_) (Ev.now _)
    simp only [signalmanref01_Bits.l0]
    rw [w64 (8 * (l.length : Int)) (by omega) (by omega), if_neg (by omega), List.take_of_length_le (by omega)]

theorem Awake_ev : Ev (fun k => signalmanlaw02_awake.f k) true := by
  have hb : ∀ x ∈ ([6] : List Int), 0 ≤ x ∧ x < 256 := by decide
  have e : bitsOf [6] = [false, true, true, false, false, false, false, false] := by decide +kernel
  refine Ev.to (Ev.bind (Of_ev [6] (by decide) hb) (Ev.bind (Text_ev _ (by rw [e]; decide)) ?_)) rfl rfl
  refine Ev.congr (fun k => if_pos (by rw [ByteArray.toList_eq, strOfNums_toList, e]; decide +kernel)) ?_
  refine Ev.to (Ev.bind (Low_ev _ (by rw [e]; decide)) (Ev.now _)) rfl ?_
  rw [e]; decide +kernel

theorem Same_ev (a b : List Bool) (ha : a.length < 140737488355328) : Ev (fun k => tape_Same.f k a b) (a == b) := by
  by_cases hl : a.length = b.length
  · have key : ∀ d i, i + d = a.length → Ev (fun k => tape_Same.l0 k a b (a.length : Int) (i : Int)) (a.drop i == b.drop i) := by
      intro d
      induction d with
      | zero =>
        intro i hi
        refine Ev.step (fun k => ?_) (Ev.now _)
        simp only [tape_Same.l0]
        rw [if_neg (by omega), List.drop_of_length_le (by omega), List.drop_of_length_le (by omega)]
        rfl
      | succ d ih =>
        intro i hi
        have h1 : i < a.length := by omega
        have h2 : i < b.length := by omega
        have ea : a.drop i = a[i] :: a.drop (i + 1) := List.drop_eq_getElem_cons h1
        have eb : b.drop i = b[i] :: b.drop (i + 1) := List.drop_eq_getElem_cons h2
        rw [ea, eb]
        by_cases hab : a[i] = b[i]
        · have hi' := ih (i + 1) (by omega)
          refine Ev.to (Ev.step (g := fun k => tape_Same.l0 k a b (a.length : Int) (i : Int)) (fun k => ?_) hi') rfl ?_
          · simp only [tape_Same.l0]
            rw [if_pos (by omega), if_pos (by omega), if_pos (by omega), if_pos (by omega), rdOf_nat false a i h1, rdOf_nat false b i h2, if_neg (by simp [hab]), w64s i (by omega)]
          · rw [hab, Bool.eq_iff_iff]; simp only [beq_iff_eq, List.cons.injEq, true_and]
        · refine Ev.to (Ev.step (g := fun k => tape_Same.l0 k a b (a.length : Int) (i : Int)) (fun k => ?_) (Ev.now false)) rfl ?_
          · simp only [tape_Same.l0]
            rw [if_pos (by omega), if_pos (by omega), if_pos (by omega), if_pos (by omega), rdOf_nat false a i h1, rdOf_nat false b i h2, if_pos (by simp [hab])]
          · symm; rw [beq_eq_false_iff_ne]; intro h; exact hab (List.cons.inj h).1
    refine Ev.congr (fun k => ?_) (key a.length 0 (by omega))
    unfold tape_Same.f
    rw [if_pos (by omega)]; rfl
  · have e : (a == b) = false := by rw [beq_eq_false_iff_ne]; intro h; exact hl (by rw [h])
    rw [e]
    refine Ev.congr (fun k => ?_) (Ev.now _)
    unfold tape_Same.f
    rw [if_neg (by omega)]

/-- The last bits are cut off: how many are left. -/
def kept (n m : Nat) : Nat := n - m % (n + 1)
theorem kept_le (n m : Nat) : kept n m ≤ n := by unfold kept; omega
theorem cut_eq (n m : Nat) (hn : n ≤ 1000000000000) (hm : m < 256) : wrap64 ((n : Int) - (Int.tmod (wrap64 (m : Int)) (wrap64 ((n : Int) + 1)))) = ((kept n m : Nat) : Int) := by
  have h1 : wrap64 (m : Int) = (m : Int) := w64 _ (by omega) (by omega)
  have h3 : m % (n + 1) ≤ n := Nat.le_of_lt_succ (Nat.mod_lt m (Nat.succ_pos n))
  rw [h1, w64s n (by omega), Int.tmod_eq_emod_of_nonneg (by omega)]
  rw [show ((m : Int) % ((n + 1 : Nat) : Int)) = ((m % (n + 1) : Nat) : Int) from by rw [Int.natCast_emod]]
  rw [w64 _ (by omega) (by omega)]
  unfold kept; omega

theorem val_len (t m : List Bool) : (tape_Tape_Turn.val t m).length = t.length := tape_Tape_Turn.cur_len _ _ _
theorem val_get (t m : List Bool) (i : Nat) (h : i < t.length) (h' : i < (tape_Tape_Turn.val t m).length) : (tape_Tape_Turn.val t m)[i] = (t[i] != m.getD i false) := by
  have e0 : (tape_Tape_Turn.val t m)[i] = (if i < min t.length m.length then (t.getD i false != m.getD i false) else t.getD i false) := by
    simp [tape_Tape_Turn.val, tape_Tape_Turn.cur]
  rw [e0]
  have e : t.getD i false = t[i] := by simp [List.getD_eq_getElem?_getD, List.getElem?_eq_getElem h]
  rw [e]
  by_cases hi : i < min t.length m.length
  · rw [if_pos hi]
  · rw [if_neg hi]
    have : m.getD i false = false := by
      rw [List.getD_eq_getElem?_getD, List.getElem?_eq_none (by omega)]; rfl
    rw [this]; simp
theorem val_back (t m : List Bool) : tape_Tape_Turn.val (tape_Tape_Turn.val t m) m = t := by
  apply List.ext_getElem
  · rw [val_len, val_len]
  · intro i h1 h2
    rw [val_get _ _ _ (by rw [val_len]; exact h2), val_get _ _ _ h2]
    cases t[i] <;> cases m.getD i false <;> rfl
theorem Turn_ev (t m : List Bool) (h : t.length ≤ 140737488355328) : Ev (fun _ => tape_Tape_Turn.f t m) (tape_Tape_Turn.val t m) :=
  Ev.congr (fun _ => if_pos h) (Ev.now _)
theorem Loop_ev (l0 : List Int) (hl : l0.length ≤ 200) (hb : ∀ x ∈ l0, 0 ≤ x ∧ x < 256) (m : List Bool) :
    Ev (fun k => signalmanlaw02_TapeTurns.l0 k l0 (bitsOf l0) m (tape_Tape_Turn.val (bitsOf l0) m) 0) true := by
  have hL := bitsOf_length l0
  have hv := val_len (bitsOf l0) m
  refine count (bitsOf l0).length (fun i k => signalmanlaw02_TapeTurns.l0 k l0 (bitsOf l0) m (tape_Tape_Turn.val (bitsOf l0) m) (i : Int)) true ?_ ?_ |> fun z => Ev.to z (by funext k; rfl) rfl
  · intro i hi hn
    have hg := val_get (bitsOf l0) m i hi (by omega)
    have hr : rdOf false (tape_Tape_Turn.val (bitsOf l0) m) (i : Int) = ((bitsOf l0)[i] != m.getD i false) := by rw [rdOf_nat false _ i (by omega), hg]
    have key : ∀ b : Bool, m.getD i false = b → Ev (fun k => signalmanlaw02_TapeTurns.j2 k l0 (bitsOf l0) m (tape_Tape_Turn.val (bitsOf l0) m) (i : Int) (bitsOf l0)[i] b) true := by
      intro b hb'
      rw [hb'] at hr
      refine Ev.step (fun k => ?_) hn
      simp only [signalmanlaw02_TapeTurns.j2]
      cases b with
      | true => rw [if_pos rfl, if_neg (by omega), if_pos (by omega), if_pos (by omega), hr, if_neg (by simp), w64s i (by omega)]
      | false => rw [if_neg (by simp), if_neg (by omega), if_pos (by omega), if_pos (by omega), hr, if_neg (by simp), w64s i (by omega)]
    by_cases him : i < m.length
    · refine Ev.step (f := fun k => signalmanlaw02_TapeTurns.j2 k l0 (bitsOf l0) m (tape_Tape_Turn.val (bitsOf l0) m) (i : Int) (bitsOf l0)[i] m[i]) (fun k => ?_) (key m[i] (by simp [List.getD_eq_getElem?_getD, List.getElem?_eq_getElem him]))
      simp only [signalmanlaw02_TapeTurns.l0]
      rw [if_pos (by omega), if_pos (by omega), if_pos (by omega), rdOf_nat false _ i hi, rdOf_nat false m i him]
    · refine Ev.step (f := fun k => signalmanlaw02_TapeTurns.j2 k l0 (bitsOf l0) m (tape_Tape_Turn.val (bitsOf l0) m) (i : Int) (bitsOf l0)[i] false) (fun k => ?_) (key false (by rw [List.getD_eq_getElem?_getD, List.getElem?_eq_none (by omega)]; rfl))
      simp only [signalmanlaw02_TapeTurns.l0]
      rw [if_pos (by omega), if_pos (by omega), if_neg (by omega), rdOf_nat false _ i hi]
  · refine Ev.step (f := fun k => ((tape_Tape_Turn.f (tape_Tape_Turn.val (bitsOf l0) m) m).bind fun t148 => ((tape_Same.f k t148 (bitsOf l0)).bind fun t151 => (if t151 = true then ((signalmanref01_Bits.f k l0).bind fun t152 => ((signalmanref01_Same.f k (bitsOf l0) t152).bind fun t155 => (some t155))) else (some false))))) (fun k => ?_) ?_
    · simp only [signalmanlaw02_TapeTurns.l0]
      rw [if_neg (by omega), if_pos (by omega)]
    · refine Ev.bind (Turn_ev _ m (by omega)) ?_
      rw [val_back]
      refine Ev.bind (Same_ev _ _ (by omega)) ?_
      refine Ev.congr (fun k => if_pos (by simp)) ?_
      refine Ev.bind (RefBits_ev l0 (by omega) hb) ?_
      refine Ev.bind (RefSame_ev _ _ (by omega) (by omega)) ?_
      refine Ev.congr (fun k => ?_) (Ev.now _)
      simp
theorem TapeTurns : signalmanlaw02_TapeTurns.Pure := by
  intro l0 l1 a2 _ _ hw _ _ hw1 ha
  have hb := wf8s hw
  have hb1 := wf8s hw1
  have ha' := wf8 ha
  have ew : Ev (fun k => signalmanlaw02_TapeTurns.j0 k l0 l1 a2 true) true := by
    refine Ev.step (f := fun k => (signalmanlaw02_awake.f k).bind fun t => some t) (fun k => ?_) (Ev.bind Awake_ev (Ev.now true))
    simp only [signalmanlaw02_TapeTurns.j0]
    rw [if_pos trivial]
  refine Ev.rounds (g := fun k => signalmanlaw02_TapeTurns.f k l0 l1 a2) ?_
  unfold signalmanlaw02_TapeTurns.f
  refine Ev.bind Awake_ev ?_
  refine Ev.congr (fun k => if_pos rfl) ?_
  by_cases h0 : l0.length ≤ 200
  · refine Ev.congr (fun k => if_neg (by omega)) ?_
    by_cases h1 : l1.length ≤ 200
    · rw [decide_eq_false (by omega)]
      have hL := bitsOf_length l0
      have hL1 := bitsOf_length l1
      obtain ⟨m, rfl⟩ : ∃ m : Nat, a2 = m := Int.eq_ofNat_of_zero_le ha'.1
      have ec := cut_eq (bitsOf l1).length m (by omega) (by omega)
      have hk := kept_le (bitsOf l1).length m
      refine Ev.step (f := fun k => ((signalmanref01_Bits.f k l0).bind fun t132 => ((signalmanref01_Bits.f k l1).bind fun t135 => (if (wrap64 ((t135.length : Int) + 1)) = 0 then (none) else (if 0 ≤ (wrap64 ((t135.length : Int) - (Int.tmod (wrap64 ((m : Int))) (wrap64 ((t135.length : Int) + 1))))) then (if (wrap64 ((t135.length : Int) - (Int.tmod (wrap64 ((m : Int))) (wrap64 ((t135.length : Int) + 1))))) ≤ (t135.length : Int) then ((some (t135.take ((wrap64 ((t135.length : Int) - (Int.tmod (wrap64 ((m : Int))) (wrap64 ((t135.length : Int) + 1))))) : Int).toNat : List Bool)).bind fun y138 => ((tape_Tape_Turn.f t132 y138).bind fun t141 => (signalmanlaw02_TapeTurns.l0 k l0 t132 y138 t141 0))) else (none)) else (none)))))) (fun k => ?_) ?_
      · simp only [signalmanlaw02_TapeTurns.j0]
        rw [if_neg (by simp)]
      · refine Ev.bind (RefBits_ev l0 (by omega) hb) ?_
        refine Ev.bind (RefBits_ev l1 (by omega) hb1) ?_
        rw [ec]
        refine Ev.congr (fun k => if_neg (by rw [w64s _ (by omega)]; omega)) ?_
        refine Ev.congr (fun k => if_pos (by omega)) ?_
        refine Ev.congr (fun k => if_pos (by omega)) ?_
        refine Ev.congr (fun k => Option.bind_some ..) ?_
        refine Ev.bind (Turn_ev _ _ (by omega)) ?_
        exact Loop_ev l0 h0 hb _
    · rw [decide_eq_true (by omega)]
      exact ew
  · exact Ev.congr (fun k => if_pos (by omega)) ew

end Go.Proofs.Ytjaenbcboecdbaa.Pure
