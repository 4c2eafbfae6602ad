/- A part of the proof of the given statement that each law names; no condition. Written by a program of this session's own (wip/tools/myprint.py, over the kit's print); Lean checks it. -/
import Derived.Test.YtonhgiclaieamaaMFlagCutsx0
import Derived.Test.YtonhgiclaieamaaMFlagCutsx3
namespace Go.Proofs.Ytonhgiclaieamaa.MFlagCuts
open Go.RowKit Go.Proofs.Ytonhgiclaieamaa Go.Proofs.YtonhgiclaieamaaW.PrintWords Go.Proofs.YtonhgiclaieamaaW.PrintLast Go.Proofs.YtonhgiclaieamaaW.PrintMore
attribute [local go_sem] max2_int min2_int max_two min_two max_three min_three max_four min_four   -- for this text's walks alone
set_option linter.unusedVariables false
set_option linter.unusedSimpArgs false

/-! ### signalmanref01_Check: function 35 -/
def signalmanref01_Check.f (k : Nat) (l0 : List Int) : Option (List Int) := (signalmanref01_Bits.f k l0).bind fun t => signalmanref01_Octets.f k (Crc.outBits t)
theorem signalmanref01_Check.mono : ∀ a0 k, LeO (signalmanref01_Check.f k a0) (signalmanref01_Check.f (k + 1) a0) := by
  intro a0 k
  unfold signalmanref01_Check.f
  exact LeO.bind (signalmanref01_Bits.mono a0 k) (fun _ => signalmanref01_Octets.mono _ k)
def signalmanref01_Check.arr (R m : Nat) : Array Value := ((List.range 16).map fun i => Value.bool (if i < m then Nat.testBit (65535 - R) (15 - i) else false)).toArray
theorem signalmanref01_Check.arr_size (R m : Nat) : (signalmanref01_Check.arr R m).size = 16 := by simp [signalmanref01_Check.arr]
theorem signalmanref01_Check.arr_get (R m i : Nat) (h : i < 16) : (signalmanref01_Check.arr R m)[i]? = some (Value.bool (if i < m then Nat.testBit (65535 - R) (15 - i) else false)) := by
  simp [signalmanref01_Check.arr, List.getElem?_range h]
theorem signalmanref01_Check.arr_set (R m : Nat) (h : m < 16) : (signalmanref01_Check.arr R m).setIfInBounds m (.bool (Nat.testBit (65535 - R) (15 - m))) = signalmanref01_Check.arr R (m + 1) := by
  apply Array.ext
  · simp [signalmanref01_Check.arr_size]
  · intro i h1 h2
    have h3 : i < 16 := by rw [signalmanref01_Check.arr_size] at h2; exact h2
    have e1 := signalmanref01_Check.arr_get R (m + 1) i h3
    rw [Array.getElem?_eq_getElem h2] at e1
    rw [Option.some.inj e1, Array.getElem_setIfInBounds (by rw [signalmanref01_Check.arr_size]; exact h3)]
    by_cases h4 : m = i
    · subst h4; simp
    · rw [if_neg h4]
      have e2 := signalmanref01_Check.arr_get R m i h3
      rw [Array.getElem?_eq_getElem (by rw [signalmanref01_Check.arr_size]; exact h3)] at e2
      rw [Option.some.inj e2]
      congr 1
      by_cases h5 : i < m
      · rw [if_pos h5, if_pos (by omega)]
      · rw [if_neg h5, if_neg (by omega)]
theorem signalmanref01_Check.bit (R m : Nat) (hR : R < 65536) (h : m < 16) : ((65535 - (R : Int)) / 2 ^ (15 - m) % 2 == 1) = Nat.testBit (65535 - R) (15 - m) := by
  rw [Nat.testBit_eq_decide_div_mod_eq]
  have e : (65535 - (R : Int)) / 2 ^ (15 - m) % 2 = (((65535 - R) / 2 ^ (15 - m) % 2 : Nat) : Int) := by
    have : (65535 - (R : Int)) = ((65535 - R : Nat) : Int) := by omega
    rw [this]; simp
  rw [e]
  have h2 : (65535 - R) / 2 ^ (15 - m) % 2 = 0 ∨ (65535 - R) / 2 ^ (15 - m) % 2 = 1 := by omega
  rcases h2 with h2 | h2 <;> rw [h2] <;> rfl
theorem signalmanref01_Check.reads (w : World) (R : Nat) (t : List Bool) (h : Crc.outBits t = (List.range 16).map fun i => Nat.testBit (65535 - R) (15 - i)) :
    Kd.C Kd.bool (w.alloc (.cells (signalmanref01_Check.arr R 16) 78)) (some ⟨w.heap.size, 0, none⟩) (Crc.outBits t).length (Crc.outBits t) := by
  have hL : (Crc.outBits t).length = 16 := by simp [Crc.outBits]
  refine Kd.C_of_reads (enc := Value.bool) (d := false) (h1 := fun _ => rfl) ⟨rfl, by omega, fun _ => ⟨_, rfl, fun j hj => ?_⟩⟩
  rw [hL] at hj
  rw [Addr.add_lit, World.cell?_alloc_mark, Nat.zero_add, signalmanref01_Check.arr_get R 16 j hj, if_pos hj, h]
  simp [List.getD_eq_getElem?_getD, List.getElem?_map, List.getElem?_range hj]
theorem signalmanref01_Check.turn (R : Nat) (b : Bool) (hR : R < 65536) (h : ((R : Int) / 32768 % 2 != (if b then 1 else 0)) = true) : Go.bits .xor .u32 ((R : Int) * 2 % 65536) 4129 = ((Crc.stepM R b : Nat) : Int) := by
  have e : ((R : Int) * 2 % 65536) = ((R * 2 % 65536 : Nat) : Int) := by omega
  have x : Go.bits .xor .u32 ((R * 2 % 65536 : Nat) : Int) 4129 = ((R * 2 % 65536 ^^^ 4129 : Nat) : Int) := u32_xor_nat _ 4129 (by omega) (by decide)
  rw [e, x, Crc.stepM_eq, if_pos]
  simp at h
  intro h2
  apply h
  cases b <;> simp at h2 ⊢ <;> omega
theorem signalmanref01_Check.keep (R : Nat) (b : Bool) (hR : R < 65536) (h : ((R : Int) / 32768 % 2 != (if b then 1 else 0)) = false) : ((R : Int) * 2 % 65536) = ((Crc.stepM R b : Nat) : Int) := by
  rw [Crc.stepM_eq, if_neg]
  · omega
  · simp at h
    intro h2
    apply h2
    cases b <;> simp at h ⊢ <;> omega
theorem signalmanref01_Check.next {t : List Bool} {n : Nat} {X : Int} {p : Prop} (hn : n < t.length) (hl : t.length ≤ 9223372036854775807) (hp : p) (hX : X = ((Crc.runM 65535 (t.take (n + 1)) : Nat) : Int)) :
    (∃ m : Nat, m ≤ t.length ∧ Value.int .i64 (wrap64 ((n : Int) + 1)) = .int .i64 (m : Int) ∧ Value.int .u32 X = .int .u32 ((Crc.runM 65535 (t.take m) : Nat) : Int) ∧ p) ∧ t.length - (intOf (Value.int .i64 (wrap64 ((n : Int) + 1)))).toNat < t.length - (intOf (Value.int .i64 (n : Int))).toNat := by
  have e : wrap64 ((n : Int) + 1) = ((n + 1 : Nat) : Int) := by unfold wrap64; omega
  rw [e]
  exact ⟨⟨n + 1, by omega, rfl, by rw [hX], hp⟩, by simp [intOf]; omega⟩
set_option maxHeartbeats 4000000 in
set_option maxRecDepth 100000 in
theorem signalmanref01_Check.calls (k : Nat) (A0 : Option Addr) (c0 : Nat) (l0 : List Int) (r : List Int) (w : World) (hr0 : Kd.C (Kd.int .u8) w A0 l0.length l0) (hc0 : l0.length ≤ c0) (h : signalmanref01_Check.f k l0 = some r) :
    Calls Try.prog 35 #[.slice A0 l0.length c0] w fun e w' => ∃ v0_ : Value, e = .returned (v0_) ∧ Kd.R (Kd.int .u8) 5 w' w.heap.size (fun _ => True) v0_ r ∧ Below w.heap.size w w' := by
  have HR0 := Aside0.mk hr0
  have HC0 := Aside0.mk hc0
  clear hr0 hc0
  obtain ⟨t, A1, A2⟩ := Option.bind_eq_some_iff.mp h
  clear h
  have HA := Aside0.mk A1
  have HO := Aside0.mk A2
  clear A1 A2
  go_enter Try.func35, Try.ntmps35
  go_wp2_with fail
  refine (signalmanref01_Bits.calls k A0 c0 l0 t _ HR0.out HC0.out HA.out).mono ?_
  rintro e w1 ⟨v, rfl, ho, hb⟩
  obtain ⟨Ao, co, rfl⟩ := Kd.R_slice ho
  have HT := Aside0.mk (Kd.R_reads' ho).2.2
  have HCo := Aside0.mk (Kd.R_reads' ho).2.1
  have HB := Aside0.mk hb
  clear ho hb
  go_wp2_with fail
  have HTL := Aside0.mk (show t.length ≤ 9223372036854775807 from HT.out.2.1)
  go_loopw [4, 5] (fun r i wr => ∃ n : Nat, n ≤ t.length ∧ i = .int .i64 n ∧ r = .int .u32 ((Crc.runM 65535 (t.take n) : Nat) : Int) ∧ wr = w1) (fun _ i _ => t.length - (intOf i).toNat)
  case atStart => exact ⟨0, Nat.zero_le _, rfl, rfl, rfl⟩
  case round =>
    obtain ⟨n, hn, rfl, rfl, rfl⟩ := hrel
    by_cases hlt : n < t.length
    · have hb0 : decide ((n : Int) < (t.length : Int)) = true := by simp; omega
      obtain ⟨ad, e, hx⟩ := Kd.at_bool HT.out (n : Int) (by omega) (by omega)
      cases e
      have p1 := eq_true (show 0 ≤ (n : Int) by omega)
      have p2 := eq_true (show (n : Int) < (t.length : Int) by omega)
      have hRl := Crc.runM_lt (t.take n) 65535 (by decide)
      have hS := Aside0.mk (show Crc.runM 65535 (t.take (n + 1)) = Crc.stepM (Crc.runM 65535 (t.take n)) t[n] by
        rw [List.take_succ_eq_append_getElem hlt]; unfold Crc.runM; rw [List.foldl_append]; rfl)
      have hb : rdOf false t (n : Int) = t[n] := by simp [rdOf, List.getD_eq_getElem?_getD, List.getElem?_eq_getElem hlt]
      rw [hb, Int.toNat_natCast] at hx
      clear hb
      generalize Crc.runM 65535 (t.take n) = R at hS hRl ⊢
      cases hbit : t[n] with
      | true =>
        rw [hbit] at hx hS
        clear hbit
        go_wp2
        · exact signalmanref01_Check.next hlt HTL.out trivial (by rw [hS.out]; exact signalmanref01_Check.turn R true hRl (by assumption))
        · exact signalmanref01_Check.next hlt HTL.out trivial (by rw [hS.out]; exact signalmanref01_Check.keep R true hRl (by assumption))
      | false =>
        rw [hbit] at hx hS
        clear hbit
        go_wp2
        · exact signalmanref01_Check.next hlt HTL.out trivial (by rw [hS.out]; exact signalmanref01_Check.turn R false hRl (by assumption))
        · exact signalmanref01_Check.next hlt HTL.out trivial (by rw [hS.out]; exact signalmanref01_Check.keep R false hRl (by assumption))
    · have hb0 : decide ((n : Int) < (t.length : Int)) = false := by simp; omega
      obtain rfl : n = t.length := by omega
      have hRl := Crc.runM_lt t 65535 (by decide)
      rw [List.take_length]
      have hO : Aside0 (Crc.outBits t = (List.range 16).map fun i => Nat.testBit (65535 - Crc.runM 65535 t) (15 - i)) := ⟨rfl⟩
      generalize Crc.runM 65535 t = R at hRl hO ⊢
      go_wp2
      go_loopw [9] (fun i wx => ∃ m : Nat, m ≤ 16 ∧ i = .int .i64 m ∧ wx = wr.alloc (.cells (signalmanref01_Check.arr R m) 78)) (fun i _ => 16 - (intOf i).toNat)
      case atStart => exact ⟨0, by omega, rfl, rfl⟩
      case round =>
        obtain ⟨m, hm, rfl, rfl⟩ := hrel
        by_cases hlt : m < 16
        · have hb1 : decide ((m : Int) < 16) = true := by simp; omega
          have hc : (wr.alloc (.cells (signalmanref01_Check.arr R m) 78)).cell? ⟨wr.heap.size, m, none⟩ = some (.bool false) := by
            rw [World.cell?_alloc_mark, signalmanref01_Check.arr_get R m m hlt, if_neg (Nat.lt_irrefl m)]
          have hf : (wr.alloc (.cells (signalmanref01_Check.arr R m) 78)).frozen? ⟨wr.heap.size, m, none⟩ = false := by simp [go_sem]
          go_wp2
          refine ⟨⟨m + 1, by omega, by simp, ?_⟩, by simp [intOf]; omega⟩
          rw [Int.tmod_eq_emod_of_nonneg (Int.ediv_nonneg (by omega) (Int.pow_nonneg (by decide))), signalmanref01_Check.bit R m hRl hlt, signalmanref01_Check.arr_set R m hlt]
        · obtain rfl : m = 16 := by omega
          have hb1 : decide (((16 : Nat) : Int) < 16) = false := by decide
          go_wp2_with fail
          have hL : (Crc.outBits t).length = 16 := by simp [Crc.outBits]
          have C := signalmanref01_Octets.calls k (some ⟨wr.heap.size, 0, none⟩) 16 (Crc.outBits t) r (wr.alloc (.cells (signalmanref01_Check.arr R 16) 78)) (signalmanref01_Check.reads wr R t hO.out) (by rw [hL]; exact Nat.le_refl _) HO.out
          rw [hL] at C
          refine C.mono ?_
          rintro e w2 ⟨v, rfl, ho2, hb2⟩
          have HB2 := Aside0.mk (below_step (below_alloc HB.out _) hb2)
          have HO2 := Aside0.mk (Kd.R_lower ho2 (below_size (below_alloc HB.out _)))
          clear ho2 hb2 C hL
          go_wp2
          go_ret
          exact ⟨_, rfl, HO2.out, HB2.out⟩

/-! ### signalmanref01_Whole: function 19 -/
def signalmanref01_Whole.f (k : Nat) (l0 : List Int) : Option (List Int) := if ([] : List Int).length + l0.length < 140737488355328 then ((some (([] : List Int) ++ l0 : List Int)).bind fun y198 => ((signalmanref01_Check.f k l0).bind fun t201 => (if y198.length + t201.length < 140737488355328 then (some (y198 ++ t201)) else (none)))) else (none)
theorem signalmanref01_Whole.mono : ∀ a0 k, LeO (signalmanref01_Whole.f k a0) (signalmanref01_Whole.f (k + 1) a0) := by
  intro a0 k
  unfold signalmanref01_Whole.f
  repeat' first
      | (with_reducible exact signalmanref01_Check.mono _ _)
      | (with_reducible exact LeO.refl _)
      | (with_reducible exact LeO.none _)
      | (with_reducible refine LeO.ite ?_ ?_)
      | (with_reducible refine LeO.bind ?_ (fun _ => ?_))
      | exact signalmanref01_Check.mono _ _
      | exact LeO.none _
      | refine LeO.ite ?_ ?_
      | refine LeO.bind ?_ (fun _ => ?_)
set_option maxHeartbeats 8000000 in
set_option maxRecDepth 100000 in
theorem signalmanref01_Whole.calls (k : Nat) (A0 : Option Addr) (c0 : Nat) (l0 : List Int) (r : List Int) (w : World) (hr0 : Kd.C (Kd.int .u8) w A0 l0.length l0) (hc0 : l0.length ≤ c0) (h : signalmanref01_Whole.f k l0 = some r) :
    Calls Try.prog 19 #[.slice A0 l0.length c0] w fun e w' => ∃ v0_ : Value, e = .returned (v0_) ∧ Kd.R (Kd.int .u8) 5 w' w.heap.size (fun _ => True) v0_ r ∧ Below w.heap.size w w' := by
  have HR0 := Aside0.mk hr0
  have HC0 := Aside0.mk hc0
  clear hr0 hc0
  have HB := Aside0.mk (Below.refl w.heap.size w)
  have H : (if ([] : List Int).length + l0.length < 140737488355328 then ((some (([] : List Int) ++ l0 : List Int)).bind fun y198 => ((signalmanref01_Check.f k l0).bind fun t201 => (if y198.length + t201.length < 140737488355328 then (some (y198 ++ t201)) else (none)))) else (none)) = some r := h
  clear h
  by_cases c2 : ([] : List Int).length + l0.length < 140737488355328
  · rw [if_pos c2] at H
    have LMc2 := Aside0.mk c2
    clear c2
    obtain ⟨y198, hy198⟩ : ∃ y_ : List Int, y_ = (([] : List Int) ++ l0) := ⟨_, rfl⟩
    replace H : ((signalmanref01_Check.f k l0).bind fun t201 => (if y198.length + t201.length < 140737488355328 then (some (y198 ++ t201)) else (none))) = some r := by first | (rw [hy198]; with_reducible exact H) | (have H2_ := (Option.bind_some _ _).symm.trans H; rw [hy198]; with_reducible exact H2_) | (have H2_ := (Option.bind_some _ _).symm.trans H; with_reducible exact H2_) | with_reducible exact H | (rw [hy198]; exact H) | exact H
    have Ny198 := Aside0.mk hy198
    clear hy198
    replace H := Option.bind_eq_some_iff.mp H
    obtain ⟨t201, A30, H⟩ := H
    replace H : (if y198.length + t201.length < 140737488355328 then (some (y198 ++ t201)) else (none)) = some r := H
    have A3 := Aside0.mk A30
    clear A30
    by_cases c4 : y198.length + t201.length < 140737488355328
    · rw [if_pos c4] at H
      have LMc4 := Aside0.mk c4
      clear c4
      obtain ⟨y204, hy204⟩ : ∃ y_ : List Int, y_ = (y198 ++ t201) := ⟨_, rfl⟩
      replace H : (some y204) = some r := by first | (rw [hy204]; with_reducible exact H) | (have H2_ := (Option.bind_some _ _).symm.trans H; rw [hy204]; with_reducible exact H2_) | (have H2_ := (Option.bind_some _ _).symm.trans H; with_reducible exact H2_) | with_reducible exact H | (rw [hy204]; exact H) | exact H
      have Ny204 := Aside0.mk hy204
      clear hy204
      obtain rfl := Option.some.inj H
      go_enter Try.func19, Try.ntmps19
      go_wp2_with (first | ((with_reducible refine gate_builtin (b := .append) (xs := #[.tmp 4, .tmp 5]) rfl ?_); at_builtin; refine Kd.R_append_rows (Kd.int .u8) (w0 := w) w.heap.size rfl (.tmp 4) (.tmp 5) 22 5 (.int .u8 0) 1 rfl Try.underlying22 info5 rfl (by decide) (by omega) (.slice none 0 0) ([] : List Int) l0 _ _ _ (fun _ => True) (fun _ => False) rfl rfl ?aO ?aR (fun _ _ h => h) (fun _ h => h.elim) ?aF ?aB ?aS ?aL ?_; (case aR => repeat (first | exact HR0.out | (with_reducible refine Kd.C_alloc ?_ _) | (with_reducible refine Kd.C_drewN ?_ _) | (with_reducible refine Kd.C_drew ?_))); (case aB => exact (by repeat (first | (with_reducible first | exact HB.out | apply below_alloc | apply pw_below_drewN | apply below_drew1) | exact HB.out))); (case aF => exact (fun _ _ => trivial)); (case aO => exact ((Kd.R_nil _ _ _ _ (fun _ => True)))); (case aS => exact (below_size (by repeat (first | (with_reducible first | exact HB.out | apply below_alloc | apply pw_below_drewN | apply below_drew1) | exact HB.out)))); (case aL => have := LMc2.out; omega); intro v199 w5 ho hb hg hat; rw [← Ny198.out] at ho; have n0_ := Aside0.mk (hb); have n1_ := Aside0.mk (ho); clear HB; have HB := n0_; have HO200 := n1_; clear n0_ n1_; clear ho hb hg hat) | ((with_reducible refine gate_callee (f := 35) rfl ?_); refine goesL_ (some 9) rfl rfl Try.func35 (by kernel_rfl) rfl #[.slice A0 l0.length c0] rfl (by (try simp only [List.map_toArray, List.map_cons, List.map_nil]); first | done | rfl | (simp only [List.length_drop, List.length_take]; rfl) | (simp [Act.eval, *]; done)) ?_; (with_reducible refine (signalmanref01_Check.calls k _ _ l0 t201 _ ?side1 ?side2 A3.out).mono ?_); (case side1 => repeat (first | exact (Kd.C_below HR0.out HB.out) | (with_reducible refine Kd.C_alloc ?_ _) | (with_reducible refine Kd.C_drewN ?_ _) | (with_reducible refine Kd.C_drew ?_))); (case side2 => exact HC0.out); rintro e w6 ⟨v202, rfl, ho0, hb⟩; refine ⟨_, rfl, ?_⟩; have n0_ := Aside0.mk (Kd.R_elder' (by (with_reducible repeat (first | apply Kd.R_alloc | apply Kd.R_drewN | apply Kd.R_drew)); exact HO200.out) (Kd.R_base ho0) hb); have n1_ := Aside0.mk (Kd.R_lower (Kd.R_new' ho0 (Kd.R_lt (by (with_reducible repeat (first | apply Kd.R_alloc | apply Kd.R_drewN | apply Kd.R_drew)); exact HO200.out))) (below_size (by repeat (first | (with_reducible first | exact HB.out | apply below_alloc | apply pw_below_drewN | apply below_drew1) | exact HB.out)))); have n2_ := Aside0.mk (below_step (by repeat (first | (with_reducible first | exact HB.out | apply below_alloc | apply pw_below_drewN | apply below_drew1) | exact HB.out)) hb); clear HO200; clear HB; have HO200 := n0_; have HO203 := n1_; have HB := n2_; clear n0_ n1_ n2_; (try clear hb); (try clear hb2); (try clear hk); (try clear hi); (try clear ho0); obtain ⟨Ao8, co8, eo8⟩ := Kd.R_slice HO203.out; subst eo8) | ((with_reducible refine gate_builtin (b := .append) (xs := #[.tmp 7, .tmp 9]) rfl ?_); at_builtin; refine Kd.R_append_rows (Kd.int .u8) (w0 := w) w.heap.size rfl (.tmp 7) (.tmp 9) 22 5 (.int .u8 0) 1 rfl Try.underlying22 info5 rfl (by decide) (by omega) v199 y198 t201 _ _ _ (fun k_ => some k_ ≠ (.slice Ao8 t201.length co8 : Value).ownBlock) (fun _ => False) rfl rfl ?aO ?aR (fun _ _ h => h) (fun _ h => h.elim) ?aF ?aB ?aS ?aL ?_; (case aR => repeat (first | exact (Kd.R_reads' HO203.out).2.2 | (with_reducible refine Kd.C_alloc ?_ _) | (with_reducible refine Kd.C_drewN ?_ _) | (with_reducible refine Kd.C_drew ?_))); (case aB => exact (by repeat (first | (with_reducible first | exact HB.out | apply below_alloc | apply pw_below_drewN | apply below_drew1) | exact HB.out))); (case aF => exact (fun k_ hk => Kd.fresh' (Kd.R_lt (by (with_reducible repeat (first | apply Kd.R_alloc | apply Kd.R_drewN | apply Kd.R_drew)); exact HO203.out)) k_ hk)); (case aO => exact (by (with_reducible repeat (first | apply Kd.R_alloc | apply Kd.R_drewN | apply Kd.R_drew)); exact Kd.R_mono HO200.out (fun _ hk => (by first | exact hk.2 | exact fun e_ => hk.2 (e_.trans (own_len _ _ _ _)))))); (case aS => exact (below_size (by repeat (first | (with_reducible first | exact HB.out | apply below_alloc | apply pw_below_drewN | apply below_drew1) | exact HB.out)))); (case aL => have := LMc4.out; omega); intro v205 w7 ho hb hg hat; rw [← Ny204.out] at ho; have n0_ := Aside0.mk (Kd.R_after (ok := (fun _ => True)) (by (with_reducible repeat (first | apply Kd.R_alloc | apply Kd.R_drewN | apply Kd.R_drew)); exact HO203.out) hg hat); have n1_ := Aside0.mk (hb); have n2_ := Aside0.mk (ho); clear HO203; clear HB; clear HO200; have HO203 := n0_; have HB := n1_; have HO206 := n2_; clear n0_ n1_ n2_; clear ho hb hg hat))
      go_ret
      exact ⟨_, by first | rfl | (simp [errW_none, errW_some] <;> rfl) | (simp [*, errW_none, errW_some] <;> rfl), by (with_reducible repeat (first | apply Kd.R_alloc | apply Kd.R_drewN | apply Kd.R_drew)); exact Kd.R_mono HO206.out (fun _ hk => trivial), by repeat (first | (with_reducible first | exact HB.out | apply below_alloc | apply pw_below_drewN | apply below_drew1) | exact HB.out)⟩
    · rw [if_neg c4] at H
      exact absurd H (by simp)
  · rw [if_neg c2] at H
    exact absurd H (by simp)

/-! ### signalmanref01_Frame: function 14 -/
def signalmanref01_Frame.f (k : Nat) (l0 : List Int) : Option (List Bool) := (signalmanref01_Whole.f k l0).bind fun t207 => ((signalmanref01_Bits.f k t207).bind fun t210 => ((signalmanref01_Put.f k t210).bind fun t213 => ((signalmanref01_Flag.f).bind fun t216 => (if t213.length + t216.length < 140737488355328 then (some (t213 ++ t216)) else (none)))))
theorem signalmanref01_Frame.mono : ∀ a0 k, LeO (signalmanref01_Frame.f k a0) (signalmanref01_Frame.f (k + 1) a0) := by
  intro a0 k
  unfold signalmanref01_Frame.f
  repeat' first
      | (with_reducible exact signalmanref01_Bits.mono _ _)
      | (with_reducible exact signalmanref01_Put.mono _ _)
      | (with_reducible exact signalmanref01_Whole.mono _ _)
      | (with_reducible exact LeO.refl _)
      | (with_reducible exact LeO.none _)
      | (with_reducible refine LeO.ite ?_ ?_)
      | (with_reducible refine LeO.bind ?_ (fun _ => ?_))
      | exact signalmanref01_Bits.mono _ _
      | exact signalmanref01_Put.mono _ _
      | exact signalmanref01_Whole.mono _ _
      | exact LeO.none _
      | refine LeO.ite ?_ ?_
      | refine LeO.bind ?_ (fun _ => ?_)
set_option maxHeartbeats 8000000 in
set_option maxRecDepth 100000 in
theorem signalmanref01_Frame.calls (k : Nat) (A0 : Option Addr) (c0 : Nat) (l0 : List Int) (r : List Bool) (w : World) (hr0 : Kd.C (Kd.int .u8) w A0 l0.length l0) (hc0 : l0.length ≤ c0) (h : signalmanref01_Frame.f k l0 = some r) :
    Calls Try.prog 14 #[.slice A0 l0.length c0] w fun e w' => ∃ v0_ : Value, e = .returned (v0_) ∧ Kd.R Kd.bool 4 w' w.heap.size (fun _ => True) v0_ r ∧ Below w.heap.size w w' := by
  have HR0 := Aside0.mk hr0
  have HC0 := Aside0.mk hc0
  clear hr0 hc0
  have HB := Aside0.mk (Below.refl w.heap.size w)
  have H : ((signalmanref01_Whole.f k l0).bind fun t207 => ((signalmanref01_Bits.f k t207).bind fun t210 => ((signalmanref01_Put.f k t210).bind fun t213 => ((signalmanref01_Flag.f).bind fun t216 => (if t213.length + t216.length < 140737488355328 then (some (t213 ++ t216)) else (none)))))) = some r := h
  clear h
  replace H := Option.bind_eq_some_iff.mp H
  obtain ⟨t207, A20, H⟩ := H
  replace H : ((signalmanref01_Bits.f k t207).bind fun t210 => ((signalmanref01_Put.f k t210).bind fun t213 => ((signalmanref01_Flag.f).bind fun t216 => (if t213.length + t216.length < 140737488355328 then (some (t213 ++ t216)) else (none))))) = some r := H
  have A2 := Aside0.mk A20
  clear A20
  replace H := Option.bind_eq_some_iff.mp H
  obtain ⟨t210, A30, H⟩ := H
  replace H : ((signalmanref01_Put.f k t210).bind fun t213 => ((signalmanref01_Flag.f).bind fun t216 => (if t213.length + t216.length < 140737488355328 then (some (t213 ++ t216)) else (none)))) = some r := H
  have A3 := Aside0.mk A30
  clear A30
  replace H := Option.bind_eq_some_iff.mp H
  obtain ⟨t213, A40, H⟩ := H
  replace H : ((signalmanref01_Flag.f).bind fun t216 => (if t213.length + t216.length < 140737488355328 then (some (t213 ++ t216)) else (none))) = some r := H
  have A4 := Aside0.mk A40
  clear A40
  replace H := Option.bind_eq_some_iff.mp H
  obtain ⟨t216, A50, H⟩ := H
  replace H : (if t213.length + t216.length < 140737488355328 then (some (t213 ++ t216)) else (none)) = some r := H
  have A5 := Aside0.mk A50
  clear A50
  by_cases c6 : t213.length + t216.length < 140737488355328
  · rw [if_pos c6] at H
    have LMc6 := Aside0.mk c6
    clear c6
    obtain ⟨y219, hy219⟩ : ∃ y_ : List Bool, y_ = (t213 ++ t216) := ⟨_, rfl⟩
    replace H : (some y219) = some r := by first | (rw [hy219]; with_reducible exact H) | (have H2_ := (Option.bind_some _ _).symm.trans H; rw [hy219]; with_reducible exact H2_) | (have H2_ := (Option.bind_some _ _).symm.trans H; with_reducible exact H2_) | with_reducible exact H | (rw [hy219]; exact H) | exact H
    have Ny219 := Aside0.mk hy219
    clear hy219
    obtain rfl := Option.some.inj H
    go_enter Try.func14, Try.ntmps14
    go_wp2_with (first | ((with_reducible refine gate_callee (f := 19) rfl ?_); refine goesL_ (some 4) rfl rfl Try.func19 (by kernel_rfl) rfl #[.slice A0 l0.length c0] rfl (by (try simp only [List.map_toArray, List.map_cons, List.map_nil]); first | done | rfl | (simp only [List.length_drop, List.length_take]; rfl) | (simp [Act.eval, *]; done)) ?_; (with_reducible refine (signalmanref01_Whole.calls k _ _ l0 t207 _ ?side1 ?side2 A2.out).mono ?_); (case side1 => repeat (first | exact HR0.out | (with_reducible refine Kd.C_alloc ?_ _) | (with_reducible refine Kd.C_drewN ?_ _) | (with_reducible refine Kd.C_drew ?_))); (case side2 => exact HC0.out); rintro e w7 ⟨v208, rfl, ho0, hb⟩; refine ⟨_, rfl, ?_⟩; have n0_ := Aside0.mk (Kd.R_lower ho0 (below_size (by repeat (first | (with_reducible first | exact HB.out | apply below_alloc | apply pw_below_drewN | apply below_drew1) | exact HB.out)))); have n1_ := Aside0.mk (below_step (by repeat (first | (with_reducible first | exact HB.out | apply below_alloc | apply pw_below_drewN | apply below_drew1) | exact HB.out)) hb); clear HB; have HO209 := n0_; have HB := n1_; clear n0_ n1_; (try clear hb); (try clear hb2); (try clear hk); (try clear hi); (try clear ho0); obtain ⟨Ao8, co8, eo8⟩ := Kd.R_slice HO209.out; subst eo8) | ((with_reducible refine gate_callee (f := 17) rfl ?_); refine goesL_ (some 5) rfl rfl Try.func17 (by kernel_rfl) rfl #[.slice Ao8 t207.length co8] rfl (by (try simp only [List.map_toArray, List.map_cons, List.map_nil]); first | done | rfl | (simp only [List.length_drop, List.length_take]; rfl) | (simp [Act.eval, *]; done)) ?_; (with_reducible refine (signalmanref01_Bits.calls k _ _ t207 t210 _ ?side1 ?side2 A3.out).mono ?_); (case side1 => repeat (first | exact (Kd.R_reads' HO209.out).2.2 | (with_reducible refine Kd.C_alloc ?_ _) | (with_reducible refine Kd.C_drewN ?_ _) | (with_reducible refine Kd.C_drew ?_))); (case side2 => exact (Kd.R_reads' HO209.out).2.1); rintro e w9 ⟨v211, rfl, ho0, hb⟩; refine ⟨_, rfl, ?_⟩; have n0_ := Aside0.mk (Kd.R_below (by (with_reducible repeat (first | apply Kd.R_alloc | apply Kd.R_drewN | apply Kd.R_drew)); exact HO209.out) hb); have n1_ := Aside0.mk (Kd.R_lower ho0 (below_size (by repeat (first | (with_reducible first | exact HB.out | apply below_alloc | apply pw_below_drewN | apply below_drew1) | exact HB.out)))); have n2_ := Aside0.mk (below_step (by repeat (first | (with_reducible first | exact HB.out | apply below_alloc | apply pw_below_drewN | apply below_drew1) | exact HB.out)) hb); clear HO209; clear HB; have HO209 := n0_; have HO212 := n1_; have HB := n2_; clear n0_ n1_ n2_; (try clear hb); (try clear hb2); (try clear hk); (try clear hi); (try clear ho0); obtain ⟨Ao10, co10, eo10⟩ := Kd.R_slice HO212.out; subst eo10) | ((with_reducible refine gate_callee (f := 18) rfl ?_); refine goesL_ (some 6) rfl rfl Try.func18 (by kernel_rfl) rfl #[.slice Ao10 t210.length co10] rfl (by (try simp only [List.map_toArray, List.map_cons, List.map_nil]); first | done | rfl | (simp only [List.length_drop, List.length_take]; rfl) | (simp [Act.eval, *]; done)) ?_; (with_reducible refine (signalmanref01_Put.calls k _ _ t210 t213 _ ?side1 ?side2 A4.out).mono ?_); (case side1 => repeat (first | exact (Kd.R_reads' HO212.out).2.2 | (with_reducible refine Kd.C_alloc ?_ _) | (with_reducible refine Kd.C_drewN ?_ _) | (with_reducible refine Kd.C_drew ?_))); (case side2 => exact (Kd.R_reads' HO212.out).2.1); rintro e w11 ⟨v214, rfl, ho0, hb⟩; refine ⟨_, rfl, ?_⟩; have n0_ := Aside0.mk (Kd.R_below (by (with_reducible repeat (first | apply Kd.R_alloc | apply Kd.R_drewN | apply Kd.R_drew)); exact HO209.out) hb); have n1_ := Aside0.mk (Kd.R_elder' (by (with_reducible repeat (first | apply Kd.R_alloc | apply Kd.R_drewN | apply Kd.R_drew)); exact HO212.out) (Kd.R_base ho0) hb); have n2_ := Aside0.mk (Kd.R_lower (Kd.R_new' ho0 (Kd.R_lt (by (with_reducible repeat (first | apply Kd.R_alloc | apply Kd.R_drewN | apply Kd.R_drew)); exact HO212.out))) (below_size (by repeat (first | (with_reducible first | exact HB.out | apply below_alloc | apply pw_below_drewN | apply below_drew1) | exact HB.out)))); have n3_ := Aside0.mk (below_step (by repeat (first | (with_reducible first | exact HB.out | apply below_alloc | apply pw_below_drewN | apply below_drew1) | exact HB.out)) hb); clear HO209; clear HO212; clear HB; have HO209 := n0_; have HO212 := n1_; have HO215 := n2_; have HB := n3_; clear n0_ n1_ n2_ n3_; (try clear hb); (try clear hb2); (try clear hk); (try clear hi); (try clear ho0)) | ((with_reducible refine gate_callee (f := 16) rfl ?_); refine goesL_ (some 7) rfl rfl Try.func16 (by kernel_rfl) rfl #[] rfl (by (try simp only [List.map_toArray, List.map_cons, List.map_nil]); first | done | rfl | (simp only [List.length_drop, List.length_take]; rfl) | (simp [Act.eval, *]; done)) ?_; (with_reducible refine (signalmanref01_Flag.calls  t216 _ A5.out).mono ?_); rintro e w12 ⟨v217, rfl, ho0, hb⟩; refine ⟨_, rfl, ?_⟩; have n0_ := Aside0.mk (Kd.R_below (by (with_reducible repeat (first | apply Kd.R_alloc | apply Kd.R_drewN | apply Kd.R_drew)); exact HO209.out) hb); have n1_ := Aside0.mk (Kd.R_elder' (by (with_reducible repeat (first | apply Kd.R_alloc | apply Kd.R_drewN | apply Kd.R_drew)); exact HO212.out) (Kd.R_base ho0) hb); have n2_ := Aside0.mk (Kd.R_elder' (by (with_reducible repeat (first | apply Kd.R_alloc | apply Kd.R_drewN | apply Kd.R_drew)); exact HO215.out) (Kd.R_base ho0) hb); have n3_ := Aside0.mk (Kd.R_lower (Kd.R_new' (Kd.R_new' ho0 (Kd.R_lt (by (with_reducible repeat (first | apply Kd.R_alloc | apply Kd.R_drewN | apply Kd.R_drew)); exact HO212.out))) (Kd.R_lt (by (with_reducible repeat (first | apply Kd.R_alloc | apply Kd.R_drewN | apply Kd.R_drew)); exact HO215.out))) (below_size (by repeat (first | (with_reducible first | exact HB.out | apply below_alloc | apply pw_below_drewN | apply below_drew1) | exact HB.out)))); have n4_ := Aside0.mk (below_step (by repeat (first | (with_reducible first | exact HB.out | apply below_alloc | apply pw_below_drewN | apply below_drew1) | exact HB.out)) hb); clear HO209; clear HO212; clear HO215; clear HB; have HO209 := n0_; have HO212 := n1_; have HO215 := n2_; have HO218 := n3_; have HB := n4_; clear n0_ n1_ n2_ n3_ n4_; (try clear hb); (try clear hb2); (try clear hk); (try clear hi); (try clear ho0); obtain ⟨Ao14, co14, eo14⟩ := Kd.R_slice HO218.out; subst eo14) | ((with_reducible refine gate_builtin (b := .append) (xs := #[.tmp 6, .tmp 7]) rfl ?_); at_builtin; refine Kd.R_append_rows Kd.bool (w0 := w) w.heap.size rfl (.tmp 6) (.tmp 7) 26 4 (.bool false) 1 rfl Try.underlying26 info4 rfl (by decide) (by omega) v214 t213 t216 _ _ _ (fun k_ => some k_ ≠ (.slice Ao10 t210.length co10 : Value).ownBlock ∧ some k_ ≠ (.slice Ao14 t216.length co14 : Value).ownBlock) (fun _ => False) rfl rfl ?aO ?aR (fun _ _ h => h) (fun _ h => h.elim) ?aF ?aB ?aS ?aL ?_; (case aR => repeat (first | exact (Kd.R_reads' HO218.out).2.2 | (with_reducible refine Kd.C_alloc ?_ _) | (with_reducible refine Kd.C_drewN ?_ _) | (with_reducible refine Kd.C_drew ?_))); (case aB => exact (by repeat (first | (with_reducible first | exact HB.out | apply below_alloc | apply pw_below_drewN | apply below_drew1) | exact HB.out))); (case aF => exact (fun k_ hk => ⟨Kd.fresh' (Kd.R_lt (by (with_reducible repeat (first | apply Kd.R_alloc | apply Kd.R_drewN | apply Kd.R_drew)); exact HO212.out)) k_ hk, Kd.fresh' (Kd.R_lt (by (with_reducible repeat (first | apply Kd.R_alloc | apply Kd.R_drewN | apply Kd.R_drew)); exact HO218.out)) k_ hk⟩)); (case aO => exact (by (with_reducible repeat (first | apply Kd.R_alloc | apply Kd.R_drewN | apply Kd.R_drew)); exact Kd.R_mono HO215.out (by first | exact fun _ hk => ⟨hk.1.2, hk.2⟩ | exact fun _ hk => ⟨fun e_ => hk.1.2 (e_.trans (own_len _ _ _ _)), hk.2⟩ | exact fun _ hk => ⟨hk.1.2, fun e_ => hk.2 (e_.trans (own_len _ _ _ _))⟩ | exact fun _ hk => ⟨fun e_ => hk.1.2 (e_.trans (own_len _ _ _ _)), fun e_ => hk.2 (e_.trans (own_len _ _ _ _))⟩))); (case aS => exact (below_size (by repeat (first | (with_reducible first | exact HB.out | apply below_alloc | apply pw_below_drewN | apply below_drew1) | exact HB.out)))); (case aL => have := LMc6.out; omega); intro v220 w13 ho hb hg hat; rw [← Ny219.out] at ho; have n0_ := Aside0.mk (Kd.R_over' (by (with_reducible repeat (first | apply Kd.R_alloc | apply Kd.R_drewN | apply Kd.R_drew)); exact HO209.out) (Kd.R_typed (by (with_reducible repeat (first | apply Kd.R_alloc | apply Kd.R_drewN | apply Kd.R_drew)); exact HO215.out)) (by decide) hg); have n1_ := Aside0.mk (Kd.R_after (ok := (fun k_ => some k_ ≠ (.slice Ao14 t216.length co14 : Value).ownBlock)) (by (with_reducible repeat (first | apply Kd.R_alloc | apply Kd.R_drewN | apply Kd.R_drew)); exact Kd.R_mono HO212.out (fun _ hk => ⟨hk.2, hk.1.2⟩)) hg hat); have n2_ := Aside0.mk (Kd.R_after (ok := (fun k_ => some k_ ≠ (.slice Ao10 t210.length co10 : Value).ownBlock)) (by (with_reducible repeat (first | apply Kd.R_alloc | apply Kd.R_drewN | apply Kd.R_drew)); exact Kd.R_mono HO218.out (by first | exact fun _ hk => ⟨hk.1.2, hk.2⟩ | exact fun _ hk => ⟨fun e_ => hk.1.2 (e_.trans (own_len _ _ _ _)), hk.2⟩ | exact fun _ hk => ⟨hk.1.2, fun e_ => hk.2 (e_.trans (own_len _ _ _ _))⟩ | exact fun _ hk => ⟨fun e_ => hk.1.2 (e_.trans (own_len _ _ _ _)), fun e_ => hk.2 (e_.trans (own_len _ _ _ _))⟩)) hg hat); have n3_ := Aside0.mk (hb); have n4_ := Aside0.mk (ho); clear HO209; clear HO212; clear HO218; clear HB; clear HO215; have HO209 := n0_; have HO212 := n1_; have HO218 := n2_; have HB := n3_; have HO221 := n4_; clear n0_ n1_ n2_ n3_ n4_; clear ho hb hg hat))
    go_ret
    exact ⟨_, by first | rfl | (simp [errW_none, errW_some] <;> rfl) | (simp [*, errW_none, errW_some] <;> rfl), by (with_reducible repeat (first | apply Kd.R_alloc | apply Kd.R_drewN | apply Kd.R_drew)); exact Kd.R_mono HO221.out (fun _ hk => trivial), by repeat (first | (with_reducible first | exact HB.out | apply below_alloc | apply pw_below_drewN | apply below_drew1) | exact HB.out)⟩
  · rw [if_neg c6] at H
    exact absurd H (by simp)

end Go.Proofs.Ytonhgiclaieamaa.MFlagCuts
