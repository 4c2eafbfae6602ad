/- The last step of the law TapeTexts: what the printed functions tell is always true: bits as a text, and back; any text: its bits, or that a sign isn't one. No condition. -/
import Derived.Test.YtjaenbcboecdbaaMTapeTextsx
import Derived.Test.YtjaenbcboecdbaaBase
import Derived.Laws.BitsAllLaws
namespace Go.Proofs.Ytjaenbcboecdbaa.Pure
open Go Go.RowKit Go.Proofs.Ytjaenbcboecdbaa.MTapeTexts Go.Proofs.YtjaenbcboecdbaaW.PrintWords Go.Proofs.YtjaenbcboecdbaaW.PrintLast Go.Proofs.YtjaenbcboecdbaaW.PrintMore Go.Proofs.Ytjaenbcboecdbaa.Base

theorem wf8 {x : Int} (h : (Lit.int .u8 x).wf = true) : 0 ≤ x ∧ x < 256 := by
  simp [Lit.wf, IntKind.min, IntKind.max, IntKind.signed, IntKind.bits] at h; omega
theorem wf8s {l : List Int} (h : ∀ x ∈ l, (Lit.int .u8 x).wf = true) : ∀ x ∈ l, 0 ≤ x ∧ x < 256 := fun x hx => wf8 (h x hx)

theorem bit_and (b : Int) (j : Nat) (h0 : 0 ≤ b) (h1 : b < 256) (hj : j < 8) : ((Go.bits .and .u8 (shr .u8 b (j : Int)) 1) == 1) = bitN b j := by
  have e : shr .u8 b (j : Int) = b / 2 ^ j := shr_small (k := .u8) (x := b) (y := (j : Int)) rfl (by show (j : Int) ≤ 8; omega) ▸ rfl
  have h2 : 0 ≤ b / 2 ^ j := Int.ediv_nonneg h0 (Int.pow_nonneg (by decide))
  have h3 : b / 2 ^ j < 256 := by
    have := Int.ediv_le_self (2 ^ j) h0
    omega
  rw [e, show (1 : Int) = 2 ^ 1 - 1 from rfl, bits_mask .u8 8 (by decide) wraps_u8 1 (by decide) _ h2 h3]
  rfl

theorem Of_in (l : List Int) (i : Nat) (hi : i < l.length) (h0 : 0 ≤ l[i]) (h1 : l[i] < 256) (acc : List Bool) (r : List Bool) (hacc : acc.length + 8 < 140737488355328)
    (h : Ev (fun k => tape_Of.l0 k (acc ++ octet l[i]) l (l.length : Int) (wrap64 ((i : Int) + 1))) r) :
    Ev (fun k => tape_Of.l1 k acc l[i] l (l.length : Int) (i : Int) 0) r := by
  refine count 8 (fun j k => tape_Of.l1 k (acc ++ (List.range j).map (bitN l[i])) l[i] l (l.length : Int) (i : Int) (j : Int)) r ?_ ?_ |> fun z => Ev.to z (by funext k; simp) rfl
  · intro j hj hn
    refine Ev.step (fun k => ?_) hn
    have e : (List.range (j + 1)).map (bitN l[i]) = (List.range j).map (bitN l[i]) ++ [bitN l[i] j] := by rw [List.range_succ, List.map_append]; rfl
    simp only [tape_Of.l1]
    rw [if_pos (by omega), if_pos (by omega), if_pos (by simp; omega), bit_and _ _ h0 h1 hj, w64s j (by omega), e, List.append_assoc]
  · refine Ev.step (fun k => ?_) h
    simp only [tape_Of.l1]
    rw [if_neg (by decide)]
    rfl

theorem Of_ev (l : List Int) (hl : l.length ≤ 10000000000000) (hb : ∀ x ∈ l, 0 ≤ x ∧ x < 256) : Ev (fun k => tape_Of.f k l) (bitsOf l) := by
  refine count l.length (fun i k => tape_Of.l0 k (bitsOf (l.take i)) l (l.length : Int) (i : Int)) (bitsOf l) ?_ ?_ |> fun z => Ev.to z (by funext k; simp [tape_Of.f, bitsOf]) rfl
  · intro i hi hn
    have hx := hb l[i] (List.getElem_mem hi)
    have hlen : (bitsOf (l.take i)).length = 8 * i := by rw [bitsOf_length, List.length_take]; omega
    have key := Of_in l i hi hx.1 hx.2 (bitsOf (l.take i)) (bitsOf l) (by omega) (by rw [w64s i (by omega), ← bitsOf_take_succ l i hi]; exact hn)
    refine Ev.step (fun k => ?_) key
    simp only [tape_Of.l0]
    rw [if_pos (by omega), if_pos (by omega), if_pos (by omega), rd_nat l i hi]
  · refine Ev.step (fun k => ?_) (Ev.now _)
    simp only [tape_Of.l0]
    rw [if_neg (by omega), List.take_length]

theorem Low_ev (t : List Bool) (hl : t.length ≤ 140737488355328) : Ev (fun k => tape_Low.f k t) (low t) := by
  refine count t.length (fun i k => tape_Low.l0 k (low (t.take i)) t (t.length : Int) (i : Int)) (low t) ?_ ?_ |> fun z => Ev.to z (by funext k; simp [tape_Low.f, low, val]) rfl
  · intro i hi hn
    have et : t.take (i + 1) = t.take i ++ [t[i]] := List.take_succ_eq_append_getElem hi
    refine Ev.step (fun k => ?_) hn
    simp only [tape_Low.l0]
    rw [if_pos (by omega), if_pos (by omega), if_pos (by omega), rdOf_nat false t i hi, w64s i (by omega)]
    by_cases h8 : i < 8
    · have e8 : low (t.take (i + 1)) = low (t.take i) + (if t[i] then 2 ^ i else 0) := by
        unfold low
        rw [List.take_take, List.take_take, show min 8 (i + 1) = i + 1 from by omega, show min 8 i = i from by omega, et, val_snoc]
        have : (t.take i).length = i := by rw [List.length_take]; omega
        rw [this]
      cases hti : t[i] with
      | false => rw [if_neg (by simp), e8, hti]; simp
      | true =>
        rw [if_pos rfl, if_pos (by omega), e8, hti]
        have hv : low (t.take i) < 2 ^ i := by
          have := val_hi ((t.take i).take 8)
          have hle : ((t.take i).take 8).length = i := by simp; omega
          rw [hle] at this; exact this
        have hv0 := low_lo (t.take i)
        have hp : (2 : Int) ^ i ≤ 128 := by
          have : (2 : Nat) ^ i ≤ 2 ^ 7 := Nat.pow_le_pow_right (by decide) (by omega)
          exact_mod_cast this
        have hp0 : (0 : Int) < 2 ^ i := Int.pow_pos (by decide)
        have es : shl .u8 1 (i : Int) = 2 ^ i := by
          unfold shl
          rw [IntKind.wrap_u8]
          have : min ((i : Int).toNat) IntKind.u8.bits = i := by show min ((i : Int).toNat) 8 = i; omega
          rw [this, Int.one_mul]; omega
        rw [es]
        have ej : Go.bits .or .u8 (low (t.take i)) (2 ^ i) = low (t.take i) + 2 ^ i := by
          have := bits_join .u8 8 (by decide) wraps_u8 i (2 ^ i) (low (t.take i)) (by omega) (by simp) (by omega) hv0 hv (by omega)
          have comm : Go.bits .or .u8 (low (t.take i)) (2 ^ i) = Go.bits .or .u8 (2 ^ i) (low (t.take i)) := by
            simp only [Go.bits]; rw [BitVec.or_comm]
          rw [comm, this]; omega
        rw [ej]; simp
    · have e8 : low (t.take (i + 1)) = low (t.take i) := by
        unfold low
        rw [List.take_take, List.take_take, show min 8 (i + 1) = 8 from by omega, show min 8 i = 8 from by omega]
      rw [e8]
      cases hti : t[i] with
      | false => rw [if_neg (by simp)]
      | true => rw [if_pos rfl, if_neg (by omega)]
  · refine Ev.step (fun k => ?_) (Ev.now _)
    simp only [tape_Low.l0]
    rw [if_neg (by omega), List.take_length]

theorem Text_ev (t : List Bool) (hl : t.length ≤ 140737488355328) : Ev (fun k => tape_Tape_Text.f k t) (strOfNums (signs t)) := by
  refine count t.length (fun i k => tape_Tape_Text.l0 k (strOfNums (signs (t.take i))) t (t.length : Int) (i : Int)) _ ?_ ?_ |> fun z => Ev.to z (by funext k; simp [tape_Tape_Text.f, strOfNums, signs]) rfl
  · intro i hi hn
    have et : t.take (i + 1) = t.take i ++ [t[i]] := List.take_succ_eq_append_getElem hi
    have hsz : (strOfNums (signs (t.take i))).size = i := by
      show (strOfNums (signs (t.take i))).data.size = i
      simp [strOfNums, signs]; omega
    refine Ev.step (fun k => ?_) hn
    simp only [tape_Tape_Text.l0]
    rw [if_pos (by omega), if_pos (by omega), if_pos (by omega), rdOf_nat false t i hi, w64s i (by omega), et]
    have e2 : strOfNums (signs (t.take i ++ [t[i]])) = strOfNums (signs (t.take i)) ++ (if t[i] = true then (⟨#[49]⟩ : ByteArray) else ⟨#[48]⟩) := by
      apply ByteArray.ext
      rw [ByteArray.data_append]
      cases t[i] <;> simp [strOfNums, signs, sign]
    rw [e2]
    cases hti : t[i] with
    | false => rw [if_neg (by simp), if_pos (by rw [hsz]; omega), if_neg (by simp)]
    | true => rw [if_pos rfl, if_pos (by rw [hsz]; omega), if_pos rfl]
  · refine Ev.step (fun k => ?_) (Ev.now _)
    simp only [tape_Tape_Text.l0]
    rw [if_neg (by omega), List.take_length]

theorem RefText_ev (t : List Bool) (hl : t.length < 140737488355328) : Ev (fun k => signalmanref01_Text.f k t) (strOfNums (signs t)) := by
  refine count t.length (fun i k => signalmanref01_Text.l0 k t (signs (t.take i)) (i : Int)) _ ?_ ?_ |> fun z => Ev.to z (by funext k; simp [signalmanref01_Text.f, signs]) rfl
  · intro i hi hn
    have et : t.take (i + 1) = t.take i ++ [t[i]] := List.take_succ_eq_append_getElem hi
    have hsz : (signs (t.take i)).length = i := by simp [signs]; omega
    have e2 : signs (t.take (i + 1)) = signs (t.take i) ++ [sign t[i]] := by rw [et]; unfold signs; rw [List.map_append]; rfl
    refine Ev.step (fun k => ?_) hn
    simp only [signalmanref01_Text.l0]
    rw [if_pos (by omega), if_pos (by omega), rdOf_nat false t i hi, w64s i (by omega), e2]
    cases hti : t[i] with
    | false => rw [if_neg (by simp), if_pos (by omega)]; rfl
    | true => rw [if_pos rfl, if_pos (by omega)]; rfl
  · refine Ev.step (fun k => ?_) (Ev.now _)
    simp only [signalmanref01_Text.l0]
    rw [if_neg (by omega), List.take_length]
theorem signs_inj : ∀ a b : List Bool, ((strOfNums (signs a)).toList = (strOfNums (signs b)).toList) → a = b := by
  intro a b h
  rw [ByteArray.toList_eq, ByteArray.toList_eq, strOfNums_toList, strOfNums_toList, signs, signs, List.map_map, List.map_map] at h
  have inj : ∀ x y : Bool, ((fun x => UInt8.ofNat x.toNat) ∘ sign) x = ((fun x => UInt8.ofNat x.toNat) ∘ sign) y → x = y := by decide
  generalize ((fun x => UInt8.ofNat x.toNat) ∘ sign) = g at h inj
  revert b
  induction a with
  | nil => intro b h; cases b <;> simp_all
  | cons x a ih =>
    intro b h
    cases b with
    | nil => simp at h
    | cons y b => simp only [List.map_cons, List.cons.injEq] at h; rw [inj x y h.1, ih b h.2]
theorem RefSame_ev (a b : List Bool) (ha : a.length < 140737488355328) (hb : b.length < 140737488355328) : Ev (fun k => signalmanref01_Same.f k a b) (a == b) := by
  have e : ((strOfNums (signs a)).toList == (strOfNums (signs b)).toList) = (a == b) := by
    by_cases h : a = b
    · subst h; simp
    · have : ¬ (strOfNums (signs a)).toList = (strOfNums (signs b)).toList := fun e => h (signs_inj a b e)
      rw [beq_eq_false_iff_ne.mpr this, beq_eq_false_iff_ne.mpr h]
  refine Ev.bind (f := fun k t122 => (signalmanref01_Text.f k b).bind fun t123 => some (t122.toList == t123.toList)) (RefText_ev a ha) ?_
  refine Ev.bind (f := fun _ t123 => some ((strOfNums (signs a)).toList == t123.toList)) (RefText_ev b hb) ?_
  rw [e]; exact Ev.now _

theorem bit_div (b : Int) (j : Nat) (h0 : 0 ≤ b) (h1 : b < 256) (hj : j < 8) :
    (shl .u8 1 (j : Int)) = 2 ^ j ∧ ((Int.tmod (IntKind.u8.wrap (Int.tdiv b (shl .u8 1 (j : Int)))) 2) == 1) = bitN b j := by
  have hp : (2 : Int) ^ j ≤ 128 := by
    have : (2 : Nat) ^ j ≤ 2 ^ 7 := Nat.pow_le_pow_right (by decide) (by omega)
    exact_mod_cast this
  have hp0 : (0 : Int) < 2 ^ j := Int.pow_pos (by decide)
  have es : shl .u8 1 (j : Int) = 2 ^ j := by
    unfold shl
    rw [IntKind.wrap_u8]
    have : min ((j : Int).toNat) IntKind.u8.bits = j := by show min ((j : Int).toNat) 8 = j; omega
    rw [this, Int.one_mul]; omega
  refine ⟨es, ?_⟩
  rw [es, Int.tdiv_eq_ediv_of_nonneg h0]
  have h2 : 0 ≤ b / 2 ^ j := Int.ediv_nonneg h0 (by omega)
  have h3 : b / 2 ^ j < 256 := by
    have := Int.ediv_le_self (2 ^ j) h0
    omega
  rw [IntKind.wrap_u8, Int.emod_eq_of_lt h2 h3, Int.tmod_eq_emod_of_nonneg h2]
  rfl
theorem RefBits_ev (l : List Int) (hl : l.length ≤ 10000000000000) (hb : ∀ x ∈ l, 0 ≤ x ∧ x < 256) : Ev (fun k => signalmanref01_Bits.f k l) (bitsOf l) := by
  have hL : (bitsOf l).length = 8 * l.length := bitsOf_length l
  refine count (8 * l.length) (fun i k => signalmanref01_Bits.l0 k l ((bitsOf l).take i) (i : Int)) (bitsOf l) ?_ ?_ |> fun z => Ev.to z (by funext k; simp [signalmanref01_Bits.f]) rfl
  · intro i hi hn
    have hq : i / 8 < l.length := by omega
    have hx := hb l[i / 8] (List.getElem_mem hq)
    have hi' : i < (bitsOf l).length := by omega
    have et : (bitsOf l).take (i + 1) = (bitsOf l).take i ++ [bitN l[i / 8] (i % 8)] := by
      rw [List.take_succ_eq_append_getElem hi', bitsOf_get l i hi' hq]
    have ed : wrap64 (Int.tdiv (i : Int) 8) = ((i / 8 : Nat) : Int) := by
      rw [Int.tdiv_eq_ediv_of_nonneg (by omega), w64 _ (by omega) (by omega)]; omega
    have em : Int.tmod (i : Int) 8 = ((i % 8 : Nat) : Int) := by
      rw [Int.tmod_eq_emod_of_nonneg (by omega)]; omega
    have hbit := bit_div l[i / 8] (i % 8) hx.1 hx.2 (by omega)
    have hp0 : (0 : Int) < 2 ^ (i % 8) := Int.pow_pos (by decide)
    refine Ev.step (fun k => ?_) hn
    simp only [signalmanref01_Bits.l0]
    rw [w64 (8 * (l.length : Int)) (by omega) (by omega), ed, em, if_pos (by omega), if_pos (by omega), if_pos (by omega), if_pos (by omega), if_neg (by rw [hbit.1]; omega),
      if_pos (by rw [List.length_take]; omega), rd_nat l (i / 8) hq, hbit.2, w64s i (by omega), et]
  · refine Ev.step (fun k => ?_) (Ev.now _)
    simp only [signalmanref01_Bits.l0]
    rw [w64 (8 * (l.length : Int)) (by omega) (by omega), if_neg (by omega), List.take_of_length_le (by omega)]

theorem Awake_ev : Ev (fun k => signalmanlaw02_awake.f k) true := by
  have hb : ∀ x ∈ ([6] : List Int), 0 ≤ x ∧ x < 256 := by decide
  have e : bitsOf [6] = [false, true, true, false, false, false, false, false] := by decide +kernel
  refine Ev.to (Ev.bind (Of_ev [6] (by decide) hb) (Ev.bind (Text_ev _ (by rw [e]; decide)) ?_)) rfl rfl
  refine Ev.congr (fun k => if_pos (by rw [ByteArray.toList_eq, strOfNums_toList, e]; decide +kernel)) ?_
  refine Ev.to (Ev.bind (Low_ev _ (by rw [e]; decide)) (Ev.now _)) rfl ?_
  rw [e]; decide +kernel

theorem val_signs (t : List Bool) : tape_Parse.val (strOfNums (signs t)).data.toList = (t, 0) := by
  rw [strOfNums_toList, signs, List.map_map]
  have h1 : ((t.map ((fun x => UInt8.ofNat x.toNat) ∘ sign)).all tape_Parse.okB) = true := by
    rw [List.all_eq_true]
    intro x hx
    rw [List.mem_map] at hx
    obtain ⟨b, hm, rfl⟩ := hx
    clear hm
    revert b; decide
  have h2 : (t.map ((fun x => UInt8.ofNat x.toNat) ∘ sign)).filterMap tape_Parse.bitB = t := by
    clear h1
    induction t with
    | nil => rfl
    | cons b t ih =>
      rw [List.map_cons, List.filterMap_cons]
      have : tape_Parse.bitB (((fun x => UInt8.ofNat x.toNat) ∘ sign) b) = some b := by revert b; decide
      rw [this, ih]
  unfold tape_Parse.val
  rw [if_pos h1, h2]
theorem Parse_signs (t : List Bool) (hl : t.length < 140737488355328) : tape_Parse.f (strOfNums (signs t)) = some (t, 0) := by
  unfold tape_Parse.f
  have : (strOfNums (signs t)).size < 140737488355328 := by
    show (strOfNums (signs t)).data.size < _
    simp [strOfNums, signs]; omega
  rw [if_pos this, val_signs]
theorem byte_at (s : ByteArray) (i : Nat) (h : i < s.data.toList.length) : bt s (i : Int) = ((s.data.toList[i].toNat : Nat) : Int) := by
  have h' : i < s.size := by simpa using h
  rw [← bt_at s (i : Int) (by simpa using h')]
  rfl
theorem okB_of (c : UInt8) (h1 : c ≠ 48) (h2 : c ≠ 49) (h3 : c ≠ 32) (h4 : c ≠ 95) : tape_Parse.okB c = false := by
  simp [tape_Parse.okB, h1, h2, h3, h4]
theorem num_ne (c : UInt8) (n : Nat) (hn : n < 256) (h : c ≠ UInt8.ofNat n) (m : Int) (hm : m = (n : Int)) : ¬ ((c.toNat : Nat) : Int) = m := by
  subst hm
  intro e
  apply h
  rw [← UInt8.toNat_inj]
  simp only [UInt8.toNat_ofNat']
  omega
theorem Loop_ev (s : ByteArray) (t : List Bool) (hl : t.length < 140737488355328) (hs : s.size ≤ 200) :
    Ev (fun k => signalmanlaw02_TapeTexts.l0 k s t t 0 (tape_Parse.val s.data.toList).1 (tape_Parse.val s.data.toList).2 ([] : List Bool) true 0) true := by
  have hsz : s.data.toList.length = s.size := by simp
  refine count s.data.toList.length (fun i k => signalmanlaw02_TapeTexts.l0 k s t t 0 (tape_Parse.val s.data.toList).1 (tape_Parse.val s.data.toList).2 ((s.data.toList.take i).filterMap tape_Parse.bitB) ((s.data.toList.take i).all tape_Parse.okB) (i : Int)) true ?_ ?_ |> fun z => Ev.to z (by funext k; rfl) rfl
  · intro i hi hn
    have hle : ((s.data.toList.take i).filterMap tape_Parse.bitB).length ≤ i := by
      have := List.length_filterMap_le tape_Parse.bitB (s.data.toList.take i)
      rw [List.length_take] at this; omega
    have et : s.data.toList.take (i + 1) = s.data.toList.take i ++ [s.data.toList[i]] := List.take_succ_eq_append_getElem hi
    rw [et, List.filterMap_append, List.all_append] at hn
    have hbt := byte_at s i hi
    generalize s.data.toList[i] = c at hn hbt
    generalize (s.data.toList.take i).filterMap tape_Parse.bitB = u at hn hle ⊢
    generalize (s.data.toList.take i).all tape_Parse.okB = ok at hn ⊢
    by_cases h0 : c = 48
    · subst h0
      have hn' : Ev (fun k => signalmanlaw02_TapeTexts.l0 k s t t 0 (tape_Parse.val s.data.toList).1 (tape_Parse.val s.data.toList).2 (u ++ [false]) ok ((i + 1 : Nat) : Int)) true :=
        Ev.to hn (by funext k; congr 1; cases ok <;> rfl) rfl
      refine Ev.step (f := fun k => signalmanlaw02_TapeTexts.j2 k s t t 0 (tape_Parse.val s.data.toList).1 (tape_Parse.val s.data.toList).2 u ok (i : Int) 48 true) (fun k => ?_) (Ev.step (fun k => ?_) hn')
      · simp only [signalmanlaw02_TapeTexts.l0]
        rw [if_pos (by omega), if_pos (by omega), hbt, if_pos (by decide)]; rfl
      · simp only [signalmanlaw02_TapeTexts.j2]
        rw [if_pos trivial, if_pos (by omega), if_pos (by omega), if_pos (by omega), hbt, w64s i (by omega)]; rfl
    · by_cases h1 : c = 49
      · subst h1
        have hn' : Ev (fun k => signalmanlaw02_TapeTexts.l0 k s t t 0 (tape_Parse.val s.data.toList).1 (tape_Parse.val s.data.toList).2 (u ++ [true]) ok ((i + 1 : Nat) : Int)) true :=
          Ev.to hn (by funext k; congr 1; cases ok <;> rfl) rfl
        refine Ev.step (f := fun k => signalmanlaw02_TapeTexts.j2 k s t t 0 (tape_Parse.val s.data.toList).1 (tape_Parse.val s.data.toList).2 u ok (i : Int) 49 true) (fun k => ?_) (Ev.step (fun k => ?_) hn')
        · simp only [signalmanlaw02_TapeTexts.l0]
          rw [if_pos (by omega), if_pos (by omega), hbt, if_neg (by decide)]; rfl
        · simp only [signalmanlaw02_TapeTexts.j2]
          rw [if_pos trivial, if_pos (by omega), if_pos (by omega), if_pos (by omega), hbt, w64s i (by omega)]; rfl
      · have n0 := num_ne c 48 (by decide) h0 48 rfl
        have n1 := num_ne c 49 (by decide) h1 49 rfl
        have eb : [c].filterMap tape_Parse.bitB = [] := by simp [tape_Parse.bitB, h0, h1]
        rw [eb, List.append_nil] at hn
        refine Ev.step (f := fun k => signalmanlaw02_TapeTexts.j2 k s t t 0 (tape_Parse.val s.data.toList).1 (tape_Parse.val s.data.toList).2 u ok (i : Int) ((c.toNat : Nat) : Int) false) (fun k => ?_) ?_
        · simp only [signalmanlaw02_TapeTexts.l0]
          rw [if_pos (by omega), if_pos (by omega), hbt, if_neg n0, beq_eq_false_iff_ne.mpr n1]
        · by_cases h2 : c = 32
          · subst h2
            have eo : (ok && [(32 : UInt8)].all tape_Parse.okB) = ok := by cases ok <;> rfl
            rw [eo] at hn
            refine Ev.step (fun k => ?_) hn
            simp only [signalmanlaw02_TapeTexts.j2]
            rw [if_neg (by simp), if_pos (by decide), w64s i (by omega)]
          · by_cases h3 : c = 95
            · subst h3
              have eo : (ok && [(95 : UInt8)].all tape_Parse.okB) = ok := by cases ok <;> rfl
              rw [eo] at hn
              refine Ev.step (fun k => ?_) hn
              simp only [signalmanlaw02_TapeTexts.j2]
              rw [if_neg (by simp), if_neg (by decide), if_pos (by decide), w64s i (by omega)]
            · have n2 := num_ne c 32 (by decide) h2 32 rfl
              have n3 := num_ne c 95 (by decide) h3 95 rfl
              have eo : (ok && [c].all tape_Parse.okB) = false := by simp [okB_of c h0 h1 h2 h3]
              rw [eo] at hn
              refine Ev.step (fun k => ?_) hn
              simp only [signalmanlaw02_TapeTexts.j2]
              rw [if_neg (by simp), if_neg n2, if_neg n3, w64s i (by omega)]
  · have hz : ¬ ((s.data.toList.length : Nat) : Int) < (s.size : Int) := by omega
    by_cases hok : s.data.toList.all tape_Parse.okB = true
    · have ev : tape_Parse.val s.data.toList = (s.data.toList.filterMap tape_Parse.bitB, 0) := by unfold tape_Parse.val; rw [if_pos hok]
      have hle := List.length_filterMap_le tape_Parse.bitB s.data.toList
      rw [List.take_length, ev, hok]
      refine Ev.step (f := fun k => ((tape_Tape_Text.f k t).bind fun t146 => ((signalmanref01_Text.f k t).bind fun t147 => (if t146.toList = t147.toList then (if (0 : Int) = 0 then ((signalmanref01_Same.f k t t).bind fun t148 => (if t148 = true then (if (0 : Int) = 0 then ((signalmanref01_Same.f k (s.data.toList.filterMap tape_Parse.bitB) (s.data.toList.filterMap tape_Parse.bitB)).bind fun t149 => (some t149)) else (some false)) else (some false))) else (some false)) else (some false))))) (fun k => ?_) ?_
      · simp only [signalmanlaw02_TapeTexts.l0]
        rw [if_neg hz]
        simp only [if_true]
      · refine Ev.bind (Text_ev t (by omega)) ?_
        refine Ev.bind (RefText_ev t (by omega)) ?_
        refine Ev.congr (fun k => if_pos rfl) ?_
        refine Ev.congr (fun k => if_pos rfl) ?_
        refine Ev.bind (RefSame_ev t t (by omega) (by omega)) ?_
        refine Ev.congr (fun k => if_pos (by simp)) ?_
        refine Ev.congr (fun k => if_pos rfl) ?_
        refine Ev.bind (RefSame_ev _ _ (by omega) (by omega)) ?_
        refine Ev.congr (fun k => ?_) (Ev.now _)
        simp
    · have ev : tape_Parse.val s.data.toList = ([], 11) := by unfold tape_Parse.val; rw [if_neg hok]
      rw [List.take_length, ev, eq_false_of_ne_true hok]
      refine Ev.step (f := fun k => ((signalmanref01_Same.f k t t).bind fun t145 => (if t145 = true then (some true) else (some false)))) (fun k => ?_) ?_
      · simp only [signalmanlaw02_TapeTexts.l0]
        rw [if_neg hz, if_neg (by simp), if_pos trivial]
        rfl
      · refine Ev.bind (RefSame_ev t t (by omega) (by omega)) ?_
        exact Ev.congr (fun k => if_pos (by simp)) (Ev.now _)

theorem TapeTexts : signalmanlaw02_TapeTexts.Pure := by
  intro l0 s _ _ hw hs
  have hb := wf8s hw
  have ew : Ev (fun k => signalmanlaw02_TapeTexts.j0 k l0 s true) true := by
    refine Ev.step (f := fun k => (signalmanlaw02_awake.f k).bind fun t => some t) (fun k => ?_) (Ev.bind Awake_ev (Ev.now true))
    simp only [signalmanlaw02_TapeTexts.j0]
    rw [if_pos trivial]
  refine Ev.rounds (g := fun k => signalmanlaw02_TapeTexts.f k l0 s) ?_
  unfold signalmanlaw02_TapeTexts.f
  refine Ev.bind Awake_ev ?_
  refine Ev.congr (fun k => if_pos rfl) ?_
  by_cases h0 : l0.length ≤ 100
  · refine Ev.congr (fun k => if_neg (by omega)) ?_
    by_cases h1 : s.size ≤ 200
    · rw [decide_eq_false (by omega)]
      have hL := bitsOf_length l0
      refine Ev.step (f := fun k => ((signalmanref01_Bits.f k l0).bind fun t130 => ((tape_Tape_Text.f k t130).bind fun t133 => ((tape_Parse.f t133).bind fun bt134 => ((tape_Parse.f s).bind fun bt138 => (signalmanlaw02_TapeTexts.l0 k s t130 bt134.1 bt134.2 bt138.1 bt138.2 ([] : List Bool) true 0)))))) (fun k => ?_) ?_
      · simp only [signalmanlaw02_TapeTexts.j0]
        rw [if_neg (by simp)]
      · refine Ev.bind (RefBits_ev l0 (by omega) hb) ?_
        refine Ev.bind (Text_ev _ (by omega)) ?_
        refine Ev.bind (Ev.congr (fun k => Parse_signs _ (by omega)) (Ev.now _)) ?_
        refine Ev.bind (Ev.congr (fun k => if_pos (by omega)) (Ev.now _)) ?_
        exact Loop_ev s (bitsOf l0) (by omega) h1
    · rw [decide_eq_true (by omega)]
      exact ew
  · exact Ev.congr (fun k => if_pos (by omega)) ew

end Go.Proofs.Ytjaenbcboecdbaa.Pure
