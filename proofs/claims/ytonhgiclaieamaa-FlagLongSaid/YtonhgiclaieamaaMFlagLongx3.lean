/- A part of the proof of the given statement that each law names; no condition. Written by a program of this session's own (wip/tools/myprint.py, over the kit's print); Lean checks it. -/
import Derived.Test.YtonhgiclaieamaaMFlagLongx0
import Derived.Test.YtonhgiclaieamaaMFlagLongx2
namespace Go.Proofs.Ytonhgiclaieamaa.MFlagLong
open Go.RowKit Go.Proofs.Ytonhgiclaieamaa Go.Proofs.YtonhgiclaieamaaW.PrintWords Go.Proofs.YtonhgiclaieamaaW.PrintLast Go.Proofs.YtonhgiclaieamaaW.PrintMore
attribute [local go_sem] max2_int min2_int max_two min_two max_three min_three max_four min_four   -- for this text's walks alone
set_option linter.unusedVariables false
set_option linter.unusedSimpArgs false

/-! ### signalmanlaw05_FlagLong: function 8 -/
theorem signalmanlaw05_FlagLong.run0 (J : List Bool → Option (List Int)) : Ear.runF J ⟨[], 0, false, 0⟩ signalmanlaw05_awake.flag = (⟨[], 0, true, 0⟩, []) := by kernel_rfl
theorem signalmanlaw05_FlagLong.flagf : signalmanref01_Flag.f = some signalmanlaw05_awake.flag := rfl
theorem signalmanlaw05_FlagLong.zeros (J : List Bool → Option (List Int)) : ∀ q, q ≤ 2815 → (Ear.runF J ⟨[], 0, true, 0⟩ (List.replicate q false)).1 = (if q ≤ 2687 then ⟨List.replicate q false, 0, true, 0⟩ else ⟨[], 0, false, q - 2688⟩) := by
  intro q
  induction q with
  | zero => exact fun _ => rfl
  | succ q ih =>
    intro hq
    have ih := ih (by omega)
    rw [List.replicate_succ', Ear.runF_snoc]
    show (Ear.bitF J (Ear.runF J ⟨[], 0, true, 0⟩ (List.replicate q false)).1 false).1 = _
    rw [ih]
    by_cases h1 : q + 1 ≤ 2687
    · rw [if_pos h1, if_pos (by omega)]
      have hlen : (List.replicate q false).length = q := List.length_replicate
      simp only [Ear.bitF, if_true, hlen]
      rw [if_neg (by simp), if_neg (by omega), if_neg (by omega)]
    · rw [if_neg h1]
      by_cases h2 : q ≤ 2687
      · rw [if_pos h2]
        have hlen : (List.replicate q false).length = q := List.length_replicate
        simp only [Ear.bitF, if_true, hlen]
        rw [if_neg (by simp), if_neg (by omega), if_pos (by omega), show q + 1 - 2688 = 0 by omega]
      · rw [if_neg h2]
        simp only [Ear.bitF]
        rw [if_neg (by simp), if_neg (by simp), if_neg (by omega), if_neg (by omega), show q - 2688 + 1 = q + 1 - 2688 by omega]
theorem signalmanlaw05_FlagLong.made (d : Nat) (hd : d ≤ 65536) (w : World) : ReadsOf Value.bool false (w.alloc (.cells (madeCells #[.bool false] d) 4)) (some ⟨w.heap.size, 0, none⟩) (List.replicate d false).length (List.replicate d false) := by
  rw [List.length_replicate]
  refine ⟨by simp, by omega, fun _ => ⟨_, rfl, fun j hj => ?_⟩⟩
  rw [Addr.add_lit, World.cell?_alloc_mark, Nat.zero_add]
  simp [madeCells, List.getD_eq_getElem?_getD, hj, Nat.mod_one]
theorem signalmanlaw05_FlagLong.next {B : Nat} {E okv : Nat → Prop} {w3 : World} {g : Nat} {s : Ear.St} (h : Ear.Is B (fun k => E k ∨ okv k) w3 g s) (q : Nat) : Ear.Is B (fun k => k = w3.heap.size) (w3.alloc (.cells (madeCells #[.bool false] q) 4)) g s := by
  have hs : (w3.alloc (.cells (madeCells #[.bool false] q) 4)).heap.size = w3.heap.size + 1 := by simp [World.alloc_eq]
  exact h.below (below_alloc (Below.refl _ _) _) (fun k hk => Or.inr ⟨by omega, by omega⟩)
theorem signalmanlaw05_FlagLong.inv1 : Ear.Inv ⟨[], 0, true, 0⟩ := ⟨by show 0 < 128; omega, fun _ => ⟨by show 0 ≤ 6; omega, by show 0 ≤ 2687 + 0; omega⟩, fun h => absurd h (by simp)⟩
theorem signalmanlaw05_FlagLong.asks {B : Nat} {E : Nat → Prop} {w : World} {g : Nat} {s : Ear.St} (h : Ear.Is B E w g s) {b : Bool} (hb : s.found = !b) : Calls Try.prog 26 #[.pointer (some ⟨g, 0, none⟩)] w fun e w' => e = .returned (.bool b) ∧ w = w' := by
  obtain ⟨_, P, vin, _, _, hA, _⟩ := h
  refine (Ear.counting_calls g vin s.ones s.n s.found w hA).mono ?_
  rintro e w' ⟨rfl, rfl⟩
  rw [hb, Bool.not_not]
  exact ⟨rfl, rfl⟩
theorem signalmanlaw05_FlagLong.asks_t {B : Nat} {E : Nat → Prop} {w : World} {g : Nat} {s : Ear.St} (h : Ear.Is B E w g s) (hb : s.found = false) : Calls Try.prog 26 #[.pointer (some ⟨g, 0, none⟩)] w fun e w' => e = .returned (.bool true) ∧ w = w' := signalmanlaw05_FlagLong.asks h (b := true) hb
theorem signalmanlaw05_FlagLong.asks_f {B : Nat} {E : Nat → Prop} {w : World} {g : Nat} {s : Ear.St} (h : Ear.Is B E w g s) (hb : s.found = true) : Calls Try.prog 26 #[.pointer (some ⟨g, 0, none⟩)] w fun e w' => e = .returned (.bool false) ∧ w = w' := signalmanlaw05_FlagLong.asks h (b := false) hb
set_option maxHeartbeats 8000000 in
set_option maxRecDepth 100000 in
theorem signalmanlaw05_FlagLong.long (k : Nat) (hf : signalmanlaw05_awake.f k = some true) (n : Nat) (hn : n < 65536) (hlong : 2687 < 2600 + n % 200) (w : World) :
    Calls Try.prog 8 #[.int .u16 (n : Int)] w fun e w' => e = .returned (.bool true) ∧ Below w.heap.size w w' := by
  have HF := Aside0.mk hf
  have HFull := Aside0.mk ((signalmanlaw05_awake.f_full k).1 hf)
  clear hf
  go_enter Try.func8, Try.ntmps8
  go_wp2_with (first
  | ((with_reducible refine gate_callee (f := 9) rfl ?_); refine goesL_ (some 5) rfl rfl Try.func9 (by kernel_rfl) rfl #[] rfl (by (try simp only [List.map_toArray, List.map_cons, List.map_nil]); first | done | rfl | (simp [Act.eval, *]; done)) ?_; (with_reducible refine (signalmanlaw05_awake.calls k true _ HF.out).mono ?_); rintro e w1 ⟨rfl, hb⟩; refine ⟨_, rfl, ?_⟩; have HB := Aside0.mk hb; clear hb))
  refine (signalmanref01_Flag.calls signalmanlaw05_awake.flag _ signalmanlaw05_FlagLong.flagf).mono ?_
  rintro e w2 ⟨v, rfl, ho, hb⟩
  obtain ⟨Af, cf, rfl, hcf, hrf, hff⟩ := Rowq.fresh_reads ho
  have hear := heap_alloc_new w1 (.cells #[.slice none 0 0, .int .i64 0, .bool false, .int .i64 0] 48)
  have hz1 : (w1.alloc (.cells #[.slice none 0 0, .int .i64 0, .bool false, .int .i64 0] 48)).heap.size = w1.heap.size + 1 := by simp [World.alloc_eq]
  have hA2 : Ear.At w2 w1.heap.size (.slice none 0 0) 0 false 0 := (hb.block _ (by omega)).trans hear
  have hsz1 := HB.out.size
  have hB2 : Below w.heap.size w w2 := (below_alloc HB.out (.cells #[.slice none 0 0, .int .i64 0, .bool false, .int .i64 0] 48)).trans (hb.mono (by omega))
  have hI2 := signalmanlaw05_awake.born (B := w.heap.size) hA2 hsz1
  have hbits := Ear.bits_calls (signalmanlaw05_awake.ok HFull.out) hI2 signalmanlaw05_awake.inv Af cf signalmanlaw05_awake.flag (by decide) (by decide) hrf (fun ad e hn => ⟨by have := hff ad e hn; omega, Rowq.reads_block hrf ad e hn⟩)
  rw [signalmanlaw05_FlagLong.run0] at hbits
  obtain ⟨q, hq⟩ : ∃ q, q = 2600 + n % 200 := ⟨_, rfl⟩
  have hq8 : q ≤ 2815 := by omega
  have e1 : (2600 + ((n : Int) % 200)) = (q : Int) := by omega
  have hm := print_make_of (P := Try.prog) 27 4 (.bool false) 1 Try.underlying27 info4 rfl (by decide) q (by omega)
  have g1 : decide ((2687 : Int) < (q : Int)) = true := decide_eq_true (by omega)
  have g2 : decide (2687 < q) = true := decide_eq_true (by omega)
  have HBITS := Aside0.mk hbits
  have HB2 := Aside0.mk hB2
  clear ho hb hcf hrf hff hear hz1 hA2 hB2 hI2 hbits hsz1 hq
  go_wp2_with (first
  | ((with_reducible refine gate_callee (f := 23) rfl ?_); refine goesL_ (some 11) rfl rfl Try.func23 (by kernel_rfl) rfl #[.pointer (some ⟨w1.heap.size, 0, none⟩), .slice Af signalmanlaw05_awake.flag.length cf] rfl (by (try simp only [List.map_toArray, List.map_cons, List.map_nil]); first | done | rfl | (simp [Act.eval, *]; done)) ?_; (with_reducible refine (HBITS.out).mono ?_); rintro e w3 ⟨v3, rfl, hP⟩; refine ⟨_, rfl, ?_⟩; obtain ⟨okv, hk3, hR3, hI3⟩ := hP.ex; have hI4 := signalmanlaw05_FlagLong.next hI3 q; have hbits2 := Ear.bits_calls (signalmanlaw05_awake.ok HFull.out) hI4 signalmanlaw05_FlagLong.inv1 (some ⟨w3.heap.size, 0, none⟩) q (List.replicate q false) (by rw [List.length_replicate]; omega) (by rw [List.length_replicate]; show 0 + q < 1000000000; omega) (signalmanlaw05_FlagLong.made q (by omega) w3) (fun ad e _ => by cases e; rfl); rw [List.length_replicate, signalmanlaw05_FlagLong.zeros _ q hq8, if_neg (show ¬ q ≤ 2687 by omega)] at hbits2; have HBITS2 := Aside0.mk hbits2; have HB3 := Aside0.mk (below_alloc (HB2.out.trans hP.below) (.cells (madeCells #[.bool false] q) 4)); clear hP hk3 hR3 hI3 hI4 hbits2)
  | ((with_reducible refine gate_callee (f := 23) rfl ?_); refine goesL_ (some 19) rfl rfl Try.func23 (by kernel_rfl) rfl #[.pointer (some ⟨w1.heap.size, 0, none⟩), .slice (some ⟨w3.heap.size, 0, none⟩) q q] rfl (by (try simp only [List.map_toArray, List.map_cons, List.map_nil]); first | done | rfl | (simp [Act.eval, *]; done)) ?_; (with_reducible refine (HBITS2.out).mono ?_); rintro e w4 ⟨v4, rfl, hP⟩; refine ⟨_, rfl, ?_⟩; obtain ⟨okv, hk3, hR3, hI5⟩ := hP.ex; have HI5 := Aside0.mk hI5; have HB4 := Aside0.mk (HB3.out.trans hP.below); clear hP hk3 hR3 hI5)
  | ((with_reducible refine gate_callee (f := 26) rfl ?_); refine goesL_ (some 21) rfl rfl Try.func26 (by kernel_rfl) rfl #[.pointer (some ⟨w1.heap.size, 0, none⟩)] rfl (by (try simp only [List.map_toArray, List.map_cons, List.map_nil]); first | done | rfl | (simp [Act.eval, *]; done)) ?_; (with_reducible refine (signalmanlaw05_FlagLong.asks_t HI5.out rfl).mono ?_); rintro e w5 ⟨rfl, rfl⟩; refine ⟨_, rfl, ?_⟩))
  go_ret
  exact ⟨rfl, HB4.out⟩
set_option maxHeartbeats 8000000 in
set_option maxRecDepth 100000 in
theorem signalmanlaw05_FlagLong.few (k : Nat) (hf : signalmanlaw05_awake.f k = some true) (n : Nat) (hn : n < 65536) (hfew : 2600 + n % 200 ≤ 2687) (w : World) :
    Calls Try.prog 8 #[.int .u16 (n : Int)] w fun e w' => e = .returned (.bool true) ∧ Below w.heap.size w w' := by
  have HF := Aside0.mk hf
  have HFull := Aside0.mk ((signalmanlaw05_awake.f_full k).1 hf)
  clear hf
  go_enter Try.func8, Try.ntmps8
  go_wp2_with (first
  | ((with_reducible refine gate_callee (f := 9) rfl ?_); refine goesL_ (some 5) rfl rfl Try.func9 (by kernel_rfl) rfl #[] rfl (by (try simp only [List.map_toArray, List.map_cons, List.map_nil]); first | done | rfl | (simp [Act.eval, *]; done)) ?_; (with_reducible refine (signalmanlaw05_awake.calls k true _ HF.out).mono ?_); rintro e w1 ⟨rfl, hb⟩; refine ⟨_, rfl, ?_⟩; have HB := Aside0.mk hb; clear hb))
  refine (signalmanref01_Flag.calls signalmanlaw05_awake.flag _ signalmanlaw05_FlagLong.flagf).mono ?_
  rintro e w2 ⟨v, rfl, ho, hb⟩
  obtain ⟨Af, cf, rfl, hcf, hrf, hff⟩ := Rowq.fresh_reads ho
  have hear := heap_alloc_new w1 (.cells #[.slice none 0 0, .int .i64 0, .bool false, .int .i64 0] 48)
  have hz1 : (w1.alloc (.cells #[.slice none 0 0, .int .i64 0, .bool false, .int .i64 0] 48)).heap.size = w1.heap.size + 1 := by simp [World.alloc_eq]
  have hA2 : Ear.At w2 w1.heap.size (.slice none 0 0) 0 false 0 := (hb.block _ (by omega)).trans hear
  have hsz1 := HB.out.size
  have hB2 : Below w.heap.size w w2 := (below_alloc HB.out (.cells #[.slice none 0 0, .int .i64 0, .bool false, .int .i64 0] 48)).trans (hb.mono (by omega))
  have hI2 := signalmanlaw05_awake.born (B := w.heap.size) hA2 hsz1
  have hbits := Ear.bits_calls (signalmanlaw05_awake.ok HFull.out) hI2 signalmanlaw05_awake.inv Af cf signalmanlaw05_awake.flag (by decide) (by decide) hrf (fun ad e hn => ⟨by have := hff ad e hn; omega, Rowq.reads_block hrf ad e hn⟩)
  rw [signalmanlaw05_FlagLong.run0] at hbits
  obtain ⟨q, hq⟩ : ∃ q, q = 2600 + n % 200 := ⟨_, rfl⟩
  have hq8 : q ≤ 2815 := by omega
  have e1 : (2600 + ((n : Int) % 200)) = (q : Int) := by omega
  have hm := print_make_of (P := Try.prog) 27 4 (.bool false) 1 Try.underlying27 info4 rfl (by decide) q (by omega)
  have g1 : decide ((2687 : Int) < (q : Int)) = false := decide_eq_false (by omega)
  have g2 : decide (2687 < q) = false := decide_eq_false (by omega)
  have HBITS := Aside0.mk hbits
  have HB2 := Aside0.mk hB2
  clear ho hb hcf hrf hff hear hz1 hA2 hB2 hI2 hbits hsz1 hq
  go_wp2_with (first
  | ((with_reducible refine gate_callee (f := 23) rfl ?_); refine goesL_ (some 11) rfl rfl Try.func23 (by kernel_rfl) rfl #[.pointer (some ⟨w1.heap.size, 0, none⟩), .slice Af signalmanlaw05_awake.flag.length cf] rfl (by (try simp only [List.map_toArray, List.map_cons, List.map_nil]); first | done | rfl | (simp [Act.eval, *]; done)) ?_; (with_reducible refine (HBITS.out).mono ?_); rintro e w3 ⟨v3, rfl, hP⟩; refine ⟨_, rfl, ?_⟩; obtain ⟨okv, hk3, hR3, hI3⟩ := hP.ex; have hI4 := signalmanlaw05_FlagLong.next hI3 q; have hbits2 := Ear.bits_calls (signalmanlaw05_awake.ok HFull.out) hI4 signalmanlaw05_FlagLong.inv1 (some ⟨w3.heap.size, 0, none⟩) q (List.replicate q false) (by rw [List.length_replicate]; omega) (by rw [List.length_replicate]; show 0 + q < 1000000000; omega) (signalmanlaw05_FlagLong.made q (by omega) w3) (fun ad e _ => by cases e; rfl); rw [List.length_replicate, signalmanlaw05_FlagLong.zeros _ q hq8, if_pos (show q ≤ 2687 by omega)] at hbits2; have HBITS2 := Aside0.mk hbits2; have HB3 := Aside0.mk (below_alloc (HB2.out.trans hP.below) (.cells (madeCells #[.bool false] q) 4)); clear hP hk3 hR3 hI3 hI4 hbits2)
  | ((with_reducible refine gate_callee (f := 23) rfl ?_); refine goesL_ (some 19) rfl rfl Try.func23 (by kernel_rfl) rfl #[.pointer (some ⟨w1.heap.size, 0, none⟩), .slice (some ⟨w3.heap.size, 0, none⟩) q q] rfl (by (try simp only [List.map_toArray, List.map_cons, List.map_nil]); first | done | rfl | (simp [Act.eval, *]; done)) ?_; (with_reducible refine (HBITS2.out).mono ?_); rintro e w4 ⟨v4, rfl, hP⟩; refine ⟨_, rfl, ?_⟩; obtain ⟨okv, hk3, hR3, hI5⟩ := hP.ex; have HI5 := Aside0.mk hI5; have HB4 := Aside0.mk (HB3.out.trans hP.below); clear hP hk3 hR3 hI5)
  | ((with_reducible refine gate_callee (f := 26) rfl ?_); refine goesL_ (some 21) rfl rfl Try.func26 (by kernel_rfl) rfl #[.pointer (some ⟨w1.heap.size, 0, none⟩)] rfl (by (try simp only [List.map_toArray, List.map_cons, List.map_nil]); first | done | rfl | (simp [Act.eval, *]; done)) ?_; (with_reducible refine (signalmanlaw05_FlagLong.asks_f HI5.out rfl).mono ?_); rintro e w5 ⟨rfl, rfl⟩; refine ⟨_, rfl, ?_⟩))
  go_ret
  exact ⟨rfl, HB4.out⟩
def signalmanlaw05_FlagLong.Pure : Prop := ∃ k, signalmanlaw05_awake.f k = some true
theorem signalmanlaw05_FlagLong.walk (P : signalmanlaw05_FlagLong.Pure) (a0 : Int) (w : World) (w0 : (Lit.int .u16 a0).wf = true) :
    Calls Try.prog 8 #[.int .u16 a0] w fun e w' => e = .returned (.bool true) ∧ Below w.heap.size w w' := by
  obtain ⟨k, hk⟩ := P
  have h0 : 0 ≤ a0 := by simp [Lit.wf, IntKind.min, IntKind.max, IntKind.signed, IntKind.bits] at w0; omega
  obtain ⟨n, rfl⟩ := Int.eq_ofNat_of_zero_le h0
  have hn : n < 65536 := by simp [Lit.wf, IntKind.min, IntKind.max, IntKind.signed, IntKind.bits] at w0; omega
  by_cases h : 2687 < 2600 + n % 200
  · exact signalmanlaw05_FlagLong.long k hk n hn h w
  · exact signalmanlaw05_FlagLong.few k hk n hn (by omega) w

end Go.Proofs.Ytonhgiclaieamaa.MFlagLong
