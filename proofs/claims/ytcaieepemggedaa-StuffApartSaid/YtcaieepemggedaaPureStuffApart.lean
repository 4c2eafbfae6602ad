/- The last step of the law StuffApart: what the printed functions tell is always true: unlike bits are unlike with noughts put in. No condition. -/
import Derived.Test.YtcaieepemggedaaMStuffApartx
import Derived.Test.YtcaieepemggedaaBase
import Derived.Laws.BitsAllLaws
namespace Go.Proofs.Ytcaieepemggedaa.Pure
open Go Go.RowKit Go.Proofs.Ytcaieepemggedaa.MStuffApart Go.Proofs.YtcaieepemggedaaW.PrintWords Go.Proofs.YtcaieepemggedaaW.PrintLast Go.Proofs.YtcaieepemggedaaW.PrintMore Go.Proofs.Ytcaieepemggedaa.Base

theorem wf8 {x : Int} (h : (Lit.int .u8 x).wf = true) : 0 ≤ x ∧ x < 256 := by
  simp [Lit.wf, IntKind.min, IntKind.max, IntKind.signed, IntKind.bits] at h; omega
theorem wf8s {l : List Int} (h : ∀ x ∈ l, (Lit.int .u8 x).wf = true) : ∀ x ∈ l, 0 ≤ x ∧ x < 256 := fun x hx => wf8 (h x hx)

theorem Text_ev (t : List Bool) (hl : t.length ≤ 140737488355328) : Ev (fun k => tape_Tape_Text.f k t) (strOfNums (signs t)) := by
  refine count t.length (fun i k => tape_Tape_Text.l0 k (strOfNums (signs (t.take i))) t (t.length : Int) (i : Int)) _ ?_ ?_ |> fun z => Ev.to z (by funext k; simp [tape_Tape_Text.f, strOfNums, signs]) rfl
  · intro i hi hn
    have et : t.take (i + 1) = t.take i ++ [t[i]] := List.take_succ_eq_append_getElem hi
    have hsz : (strOfNums (signs (t.take i))).size = i := by
      show (strOfNums (signs (t.take i))).data.size = i
      simp [strOfNums, signs]; omega
    refine Ev.step (fun k => ?_) hn
    simp only [tape_Tape_Text.l0]
    rw [if_pos (by omega), if_pos (by omega), if_pos (by omega), rdOf_nat false t i hi, w64s i (by omega), et]
    have e2 : strOfNums (signs (t.take i ++ [t[i]])) = strOfNums (signs (t.take i)) ++ (if t[i] = true then (⟨#[49]⟩ : ByteArray) else ⟨#[48]⟩) := by
      apply ByteArray.ext
      rw [ByteArray.data_append]
      cases t[i] <;> simp [strOfNums, signs, sign]
    rw [e2]
    cases hti : t[i] with
    | false => rw [if_neg (by simp), if_pos (by rw [hsz]; omega), if_neg (by simp)]
    | true => rw [if_pos rfl, if_pos (by rw [hsz]; omega), if_pos rfl]
  · refine Ev.step (fun k => ?_) (Ev.now _)
    simp only [tape_Tape_Text.l0]
    rw [if_neg (by omega), List.take_length]

theorem bit_div (b : Int) (j : Nat) (h0 : 0 ≤ b) (h1 : b < 256) (hj : j < 8) :
    (shl .u8 1 (j : Int)) = 2 ^ j ∧ ((Int.tmod (IntKind.u8.wrap (Int.tdiv b (shl .u8 1 (j : Int)))) 2) == 1) = bitN b j := by
  have hp : (2 : Int) ^ j ≤ 128 := by
    have : (2 : Nat) ^ j ≤ 2 ^ 7 := Nat.pow_le_pow_right (by decide) (by omega)
    exact_mod_cast this
  have hp0 : (0 : Int) < 2 ^ j := Int.pow_pos (by decide)
  have es : shl .u8 1 (j : Int) = 2 ^ j := by
    unfold shl
    rw [IntKind.wrap_u8]
    have : min ((j : Int).toNat) IntKind.u8.bits = j := by show min ((j : Int).toNat) 8 = j; omega
    rw [this, Int.one_mul]; omega
  refine ⟨es, ?_⟩
  rw [es, Int.tdiv_eq_ediv_of_nonneg h0]
  have h2 : 0 ≤ b / 2 ^ j := Int.ediv_nonneg h0 (by omega)
  have h3 : b / 2 ^ j < 256 := by
    have := Int.ediv_le_self (2 ^ j) h0
    omega
  rw [IntKind.wrap_u8, Int.emod_eq_of_lt h2 h3, Int.tmod_eq_emod_of_nonneg h2]
  rfl
theorem RefBits_ev (l : List Int) (hl : l.length ≤ 10000000000000) (hb : ∀ x ∈ l, 0 ≤ x ∧ x < 256) : Ev (fun k => signalmanref01_Bits.f k l) (bitsOf l) := by
  have hL : (bitsOf l).length = 8 * l.length := bitsOf_length l
  refine count (8 * l.length) (fun i k => signalmanref01_Bits.l0 k l ((bitsOf l).take i) (i : Int)) (bitsOf l) ?_ ?_ |> fun z => Ev.to z (by funext k; simp [signalmanref01_Bits.f]) rfl
  · intro i hi hn
    have hq : i / 8 < l.length := by omega
    have hx := hb l[i / 8] (List.getElem_mem hq)
    have hi' : i < (bitsOf l).length := by omega
    have et : (bitsOf l).take (i + 1) = (bitsOf l).take i ++ [bitN l[i / 8] (i % 8)] := by
      rw [List.take_succ_eq_append_getElem hi', bitsOf_get l i hi' hq]
    have ed : wrap64 (Int.tdiv (i : Int) 8) = ((i / 8 : Nat) : Int) := by
      rw [Int.tdiv_eq_ediv_of_nonneg (by omega), w64 _ (by omega) (by omega)]; omega
    have em : Int.tmod (i : Int) 8 = ((i % 8 : Nat) : Int) := by
      rw [Int.tmod_eq_emod_of_nonneg (by omega)]; omega
    have hbit := bit_div l[i / 8] (i % 8) hx.1 hx.2 (by omega)
    have hp0 : (0 : Int) < 2 ^ (i % 8) := Int.pow_pos (by decide)
    refine Ev.step (fun k => ?_) hn
    simp only [signalmanref01_Bits.l0]
    rw [w64 (8 * (l.length : Int)) (by omega) (by omega), ed, em, if_pos (by omega), if_pos (by omega), if_pos (by omega), if_pos (by omega), if_neg (by rw [hbit.1]; omega),
      if_pos (by rw [List.length_take]; omega), rd_nat l (i / 8) hq, hbit.2, w64s i (by omega), et]
  · refine Ev.step (fun k => ?_) (Ev.now _)
    simp only [signalmanref01_Bits.l0]
    rw [w64 (8 * (l.length : Int)) (by omega) (by omega), if_neg (by omega), List.take_of_length_le (by omega)]

/-- Bits with a nought behind each five ones; 'n' ones stand ahead. -/
def stuffed : Nat → List Bool → List Bool
  | _, [] => []
  | n, b :: t => if b then (if n + 1 = 5 then true :: false :: stuffed 0 t else true :: stuffed (n + 1) t) else false :: stuffed 0 t
/-- And back. -/
def bared : Nat → List Bool → List Bool × Int
  | n, [] => if n = 5 then ([], 5) else ([], 0)
  | n, b :: t => if n = 5 then (if b then ([], 4) else bared 0 t)
      else (if (bared (if b then n + 1 else 0) t).2 = 0 then (b :: (bared (if b then n + 1 else 0) t).1, 0) else ([], (bared (if b then n + 1 else 0) t).2))
theorem bared_none (t : List Bool) : ∀ n, (bared n t).2 ≠ 0 → (bared n t).1 = [] := by
  induction t with
  | nil => intro n h; simp only [bared] at *; split <;> rfl
  | cons b t ih =>
    intro n h
    simp only [bared] at *
    by_cases h5 : n = 5
    · rw [if_pos h5] at *
      cases b
      · exact ih 0 (by simpa using h)
      · rfl
    · rw [if_neg h5] at *
      generalize bared (if b = true then n + 1 else 0) t = r at *
      split
      · rename_i h0; rw [if_pos h0] at h; exact absurd rfl h
      · rfl
theorem stuffed_lo (t : List Bool) : ∀ n, t.length ≤ (stuffed n t).length := by
  induction t with
  | nil => intro n; simp [stuffed]
  | cons b t ih =>
    intro n
    have h0 := ih 0
    have h1 := ih (n + 1)
    simp only [stuffed]
    split
    · split <;> simp only [List.length_cons] <;> omega
    · simp only [List.length_cons]; omega
theorem stuffed_hi (t : List Bool) : ∀ n, n < 5 → 5 * (stuffed n t).length ≤ 6 * t.length + n := by
  induction t with
  | nil => intro n _; simp [stuffed]
  | cons b t ih =>
    intro n hn
    have h0 := ih 0 (by omega)
    simp only [stuffed]
    split
    · split
      · simp only [List.length_cons]; omega
      · have h1 := ih (n + 1) (by omega)
        simp only [List.length_cons]; omega
    · simp only [List.length_cons]; omega
theorem bared_stuffed (t : List Bool) : ∀ n, n < 5 → bared n (stuffed n t) = (t, 0) := by
  induction t with
  | nil => intro n hn; simp only [stuffed, bared]; rw [if_neg (by omega)]
  | cons b t ih =>
    intro n hn
    have h0 := ih 0 (by omega)
    cases b with
    | false =>
      simp only [stuffed, Bool.false_eq_true, if_false]
      simp only [bared]
      rw [if_neg (by omega)]
      simp only [Bool.false_eq_true, if_false, h0, if_true]
    | true =>
      simp only [stuffed, if_true]
      by_cases h5 : n + 1 = 5
      · rw [if_pos h5]
        simp only [bared]
        rw [if_neg (by omega)]
        simp only [if_true, Bool.false_eq_true, if_false, h5, h0]
      · rw [if_neg h5]
        simp only [bared]
        rw [if_neg (by omega)]
        simp only [if_true, ih (n + 1) (by omega)]
theorem stuffed_bared (t : List Bool) : (∀ n u, n < 5 → bared n t = (u, 0) → stuffed n u = t) ∧ (∀ u, bared 5 t = (u, 0) → t = false :: stuffed 0 u) := by
  induction t with
  | nil =>
    refine ⟨fun n u hn h => ?_, fun u h => ?_⟩
    · simp only [bared] at h
      rw [if_neg (by omega)] at h
      rw [← (Prod.mk.inj h).1]; rfl
    · simp only [bared] at h
      rw [if_pos trivial] at h
      exact absurd (Prod.mk.inj h).2 (by decide)
  | cons b t ih =>
    refine ⟨fun n u hn h => ?_, fun u h => ?_⟩
    · simp only [bared] at h
      rw [if_neg (by omega)] at h
      cases b with
      | false =>
        simp only [Bool.false_eq_true, if_false] at h
        by_cases h0 : (bared 0 t).2 = 0
        · rw [if_pos h0] at h
          rw [← (Prod.mk.inj h).1]
          simp only [stuffed, Bool.false_eq_true, if_false]
          rw [ih.1 0 (bared 0 t).1 (by omega) (Prod.ext rfl h0)]
        · rw [if_neg h0] at h
          exact absurd (Prod.mk.inj h).2 h0
      | true =>
        simp only [if_true] at h
        by_cases h0 : (bared (n + 1) t).2 = 0
        · rw [if_pos h0] at h
          rw [← (Prod.mk.inj h).1]
          simp only [stuffed, if_true]
          by_cases h5 : n + 1 = 5
          · rw [if_pos h5]
            rw [h5] at h0 ⊢
            rw [← ih.2 (bared 5 t).1 (Prod.ext rfl h0)]
          · rw [if_neg h5, ih.1 (n + 1) (bared (n + 1) t).1 (by omega) (Prod.ext rfl h0)]
        · rw [if_neg h0] at h
          exact absurd (Prod.mk.inj h).2 h0
    · simp only [bared, if_true] at h
      cases b with
      | false =>
        simp only [Bool.false_eq_true, if_false] at h
        rw [ih.1 0 u (by omega) h]
      | true =>
        simp only [if_true] at h
        exact absurd (Prod.mk.inj h).2 (by decide)
theorem stuffed_app (a b : List Bool) : ∀ n, stuffed n (a ++ false :: b) = stuffed n (a ++ [false]) ++ stuffed 0 b := by
  induction a with
  | nil => intro n; simp [stuffed]
  | cons c a ih =>
    intro n
    simp only [List.cons_append, stuffed]
    split
    · split
      · rw [ih]; rfl
      · rw [ih]; rfl
    · rw [ih]; rfl
theorem stuffed_inj (a b : List Bool) (h : stuffed 0 a = stuffed 0 b) : a = b := by
  have ha := bared_stuffed a 0 (by omega)
  have hb := bared_stuffed b 0 (by omega)
  rw [h, hb] at ha
  exact (Prod.mk.inj ha).1.symm

theorem Put_in (t : List Bool) (hl : t.length < 1000000000000) : ∀ d i n acc, i + d = t.length → n < 5 → acc.length ≤ 2 * i →
    Ev (fun k => stuff_Put.l0 k acc ((n : Nat) : Int) t (t.length : Int) (i : Int)) (acc ++ stuffed n (t.drop i)) := by
  intro d
  induction d with
  | zero =>
    intro i n acc hi hn ha
    refine Ev.to (Ev.step (g := fun k => stuff_Put.l0 k acc ((n : Nat) : Int) t (t.length : Int) (i : Int)) (fun k => ?_) (Ev.now acc)) rfl ?_
    · simp only [stuff_Put.l0]
      rw [if_neg (by omega)]
    · rw [List.drop_of_length_le (by omega)]; simp [stuffed]
  | succ d ih =>
    intro i n acc hi hn ha
    have h1 : i < t.length := by omega
    have ea : t.drop i = t[i] :: t.drop (i + 1) := List.drop_eq_getElem_cons h1
    cases hti : t[i] with
    | false =>
      refine Ev.to (Ev.step (g := fun k => stuff_Put.l0 k acc ((n : Nat) : Int) t (t.length : Int) (i : Int)) (fun k => ?_) (ih (i + 1) 0 (acc ++ [false]) (by omega) (by omega) (by simp; omega))) rfl ?_
      · simp only [stuff_Put.l0]
        rw [if_pos (by omega), if_pos (by omega), if_pos (by omega), if_pos (by omega), rdOf_nat false t i h1, hti, w64s i (by omega), Option.bind_some, if_neg (by simp)]
        rfl
      · rw [ea, hti]; simp [stuffed]
    | true =>
      by_cases h5 : n + 1 = 5
      · refine Ev.to (Ev.step (g := fun k => stuff_Put.l0 k acc ((n : Nat) : Int) t (t.length : Int) (i : Int)) (fun k => ?_) (ih (i + 1) 0 (acc ++ [true] ++ [false]) (by omega) (by omega) (by simp; omega))) rfl ?_
        · simp only [stuff_Put.l0]
          rw [if_pos (by omega), if_pos (by omega), if_pos (by omega), if_pos (by omega), rdOf_nat false t i h1, hti, w64s i (by omega), w64s n (by omega), Option.bind_some, if_pos rfl, if_pos (by omega), if_pos (by simp; omega)]
          rfl
        · rw [ea, hti]; simp [stuffed, h5]
      · refine Ev.to (Ev.step (g := fun k => stuff_Put.l0 k acc ((n : Nat) : Int) t (t.length : Int) (i : Int)) (fun k => ?_) (ih (i + 1) (n + 1) (acc ++ [true]) (by omega) (by omega) (by simp; omega))) rfl ?_
        · simp only [stuff_Put.l0]
          rw [if_pos (by omega), if_pos (by omega), if_pos (by omega), if_pos (by omega), rdOf_nat false t i h1, hti, w64s i (by omega), w64s n (by omega), Option.bind_some, if_pos rfl, if_neg (by omega)]
        · rw [ea, hti]; simp [stuffed, h5]
theorem Put_ev (t : List Bool) (hl : t.length < 1000000000000) : Ev (fun k => stuff_Put.f k t) (stuffed 0 t) :=
  Ev.to (Put_in t hl t.length 0 0 [] (by omega) (by omega) (by simp)) (by funext k; rfl) (by simp)

theorem Awake_ev : Ev (fun k => signalmanlaw04_awake.f k) true := by
  have ep : tape_Parse.f (⟨#[49, 49, 49, 49, 49, 48]⟩ : ByteArray) = some ([true, true, true, true, true, false], 0) := by decide +kernel
  have es : stuffed 0 [true, true, true, true, true, false] = [true, true, true, true, true, false, false] := by decide +kernel
  refine Ev.to (Ev.bind (f := fun k (bt109 : List Bool × Int) => (if bt109.2 = 0 then ((stuff_Put.f k bt109.1).bind fun t113 => ((tape_Tape_Text.f k t113).bind fun t116 => (some (t116.toList == ([49, 49, 49, 49, 49, 48, 48] : List UInt8))))) else (some false))) (g := fun _ => tape_Parse.f (⟨#[49, 49, 49, 49, 49, 48]⟩ : ByteArray)) (Ev.congr (fun k => ep) (Ev.now _)) ?_) rfl rfl
  refine Ev.congr (fun k => if_pos rfl) ?_
  refine Ev.bind (Put_ev _ (by decide)) ?_
  refine Ev.bind (Text_ev _ (by rw [es]; decide)) ?_
  refine Ev.congr (fun k => ?_) (Ev.now _)
  rw [ByteArray.toList_eq, strOfNums_toList, es]; decide +kernel

/-- The last bits are cut off: how many are left. -/
def kept (n m : Nat) : Nat := n - m % (n + 1)
theorem kept_le (n m : Nat) : kept n m ≤ n := by unfold kept; omega
theorem cut_eq (n m : Nat) (hn : n ≤ 1000000000000) (hm : m < 256) : wrap64 ((n : Int) - (Int.tmod (wrap64 (m : Int)) (wrap64 ((n : Int) + 1)))) = ((kept n m : Nat) : Int) := by
  have h1 : wrap64 (m : Int) = (m : Int) := w64 _ (by omega) (by omega)
  have h3 : m % (n + 1) ≤ n := Nat.le_of_lt_succ (Nat.mod_lt m (Nat.succ_pos n))
  rw [h1, w64s n (by omega), Int.tmod_eq_emod_of_nonneg (by omega)]
  rw [show ((m : Int) % ((n + 1 : Nat) : Int)) = ((m % (n + 1) : Nat) : Int) from by rw [Int.natCast_emod]]
  rw [w64 _ (by omega) (by omega)]
  unfold kept; omega

theorem Bits_ev (l : List Int) (a : Int) (hl : l.length ≤ 200) (hb : ∀ x ∈ l, 0 ≤ x ∧ x < 256) (ha : 0 ≤ a ∧ a < 256) : Ev (fun k => signalmanlaw04_bits.f k l a) ((bitsOf l).take (kept (bitsOf l).length a.toNat)) := by
  obtain ⟨m, rfl⟩ : ∃ m : Nat, a = m := Int.eq_ofNat_of_zero_le ha.1
  have hL := bitsOf_length l
  have ec := cut_eq (bitsOf l).length m (by omega) (by omega)
  have hk := kept_le (bitsOf l).length m
  unfold signalmanlaw04_bits.f
  refine Ev.bind (RefBits_ev l (by omega) hb) ?_
  refine Ev.congr (fun k => ?_) (Ev.now _)
  rw [ec, if_neg (by rw [w64s _ (by omega)]; omega), if_pos (by omega), if_pos (by omega)]
  rfl
theorem bits_len (l : List Int) (m : Nat) (hl : l.length ≤ 200) : ((bitsOf l).take m).length ≤ 1600 := by
  rw [List.length_take, bitsOf_length]; omega

theorem RefText_ev (t : List Bool) (hl : t.length < 140737488355328) : Ev (fun k => signalmanref01_Text.f k t) (strOfNums (signs t)) := by
  refine count t.length (fun i k => signalmanref01_Text.l0 k t (signs (t.take i)) (i : Int)) _ ?_ ?_ |> fun z => Ev.to z (by funext k; simp [signalmanref01_Text.f, signs]) rfl
  · intro i hi hn
    have et : t.take (i + 1) = t.take i ++ [t[i]] := List.take_succ_eq_append_getElem hi
    have hsz : (signs (t.take i)).length = i := by simp [signs]; omega
    have e2 : signs (t.take (i + 1)) = signs (t.take i) ++ [sign t[i]] := by rw [et]; unfold signs; rw [List.map_append]; rfl
    refine Ev.step (fun k => ?_) hn
    simp only [signalmanref01_Text.l0]
    rw [if_pos (by omega), if_pos (by omega), rdOf_nat false t i hi, w64s i (by omega), e2]
    cases hti : t[i] with
    | false => rw [if_neg (by simp), if_pos (by omega)]; rfl
    | true => rw [if_pos rfl, if_pos (by omega)]; rfl
  · refine Ev.step (fun k => ?_) (Ev.now _)
    simp only [signalmanref01_Text.l0]
    rw [if_neg (by omega), List.take_length]
theorem signs_inj : ∀ a b : List Bool, ((strOfNums (signs a)).toList = (strOfNums (signs b)).toList) → a = b := by
  intro a b h
  rw [ByteArray.toList_eq, ByteArray.toList_eq, strOfNums_toList, strOfNums_toList, signs, signs, List.map_map, List.map_map] at h
  have inj : ∀ x y : Bool, ((fun x => UInt8.ofNat x.toNat) ∘ sign) x = ((fun x => UInt8.ofNat x.toNat) ∘ sign) y → x = y := by decide
  generalize ((fun x => UInt8.ofNat x.toNat) ∘ sign) = g at h inj
  revert b
  induction a with
  | nil => intro b h; cases b <;> simp_all
  | cons x a ih =>
    intro b h
    cases b with
    | nil => simp at h
    | cons y b => simp only [List.map_cons, List.cons.injEq] at h; rw [inj x y h.1, ih b h.2]
theorem RefSame_ev (a b : List Bool) (ha : a.length < 140737488355328) (hb : b.length < 140737488355328) : Ev (fun k => signalmanref01_Same.f k a b) (a == b) := by
  have e : ((strOfNums (signs a)).toList == (strOfNums (signs b)).toList) = (a == b) := by
    by_cases h : a = b
    · subst h; simp
    · have : ¬ (strOfNums (signs a)).toList = (strOfNums (signs b)).toList := fun e => h (signs_inj a b e)
      rw [beq_eq_false_iff_ne.mpr this, beq_eq_false_iff_ne.mpr h]
  refine Ev.bind (f := fun k t122 => (signalmanref01_Text.f k b).bind fun t123 => some (t122.toList == t123.toList)) (RefText_ev a ha) ?_
  refine Ev.bind (f := fun _ t123 => some ((strOfNums (signs a)).toList == t123.toList)) (RefText_ev b hb) ?_
  rw [e]; exact Ev.now _

theorem StuffApart : signalmanlaw04_StuffApart.Pure := by
  intro l0 l1 a2 _ _ hw _ _ hw1 ha
  have hb := wf8s hw
  have hb1 := wf8s hw1
  have ha' := wf8 ha
  have ew : Ev (fun k => signalmanlaw04_StuffApart.j0 k l0 l1 a2 true) true := by
    refine Ev.step (f := fun k => (signalmanlaw04_awake.f k).bind fun t => some t) (fun k => ?_) (Ev.bind Awake_ev (Ev.now true))
    simp only [signalmanlaw04_StuffApart.j0]
    rw [if_pos trivial]
  refine Ev.rounds (g := fun k => signalmanlaw04_StuffApart.f k l0 l1 a2) ?_
  unfold signalmanlaw04_StuffApart.f
  refine Ev.bind Awake_ev ?_
  refine Ev.congr (fun k => if_pos rfl) ?_
  by_cases h0 : l0.length ≤ 60
  · refine Ev.congr (fun k => if_neg (by omega)) ?_
    by_cases h1 : l1.length ≤ 60
    · rw [decide_eq_false (by omega)]
      have hA := bitsOf_length l0
      have hn := bits_len l1 (kept (bitsOf l1).length a2.toNat) (by omega)
      have hB := Bits_ev l1 a2 (by omega) hb1 ha'
      generalize (bitsOf l1).take (kept (bitsOf l1).length a2.toNat) = t at hn hB
      have p0 := stuffed_hi (bitsOf l0) 0 (by omega)
      have p1 := stuffed_hi t 0 (by omega)
      have e : (stuffed 0 (bitsOf l0) == stuffed 0 t) = (bitsOf l0 == t) := by
        by_cases h : bitsOf l0 = t
        · rw [h]; simp
        · rw [beq_eq_false_iff_ne.mpr h, beq_eq_false_iff_ne.mpr (fun e => h (stuffed_inj _ _ e))]
      refine Ev.step (f := fun k => ((signalmanref01_Bits.f k l0).bind fun t138 => ((signalmanlaw04_bits.f k l1 a2).bind fun t141 => ((stuff_Put.f k t138).bind fun t144 => ((stuff_Put.f k t141).bind fun t147 => ((signalmanref01_Same.f k t144 t147).bind fun t150 => ((signalmanref01_Same.f k t138 t141).bind fun t151 => (some (t150 == t151))))))))) (fun k => ?_) ?_
      · simp only [signalmanlaw04_StuffApart.j0]
        rw [if_neg (by simp)]
      · refine Ev.bind (RefBits_ev l0 (by omega) hb) ?_
        refine Ev.bind hB ?_
        refine Ev.bind (Put_ev _ (by omega)) ?_
        refine Ev.bind (Put_ev _ (by omega)) ?_
        refine Ev.bind (RefSame_ev _ _ (by omega) (by omega)) ?_
        refine Ev.bind (RefSame_ev _ _ (by omega) (by omega)) ?_
        refine Ev.congr (fun k => ?_) (Ev.now _)
        rw [e]; simp
    · rw [decide_eq_true (by omega)]
      exact ew
  · exact Ev.congr (fun k => if_pos (by omega)) ew

end Go.Proofs.Ytcaieepemggedaa.Pure
