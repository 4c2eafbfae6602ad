/- A part of the proof of the given statement that each law names; no condition. Written by a program of this session's own (wip/tools/myprint.py, over the kit's print); Lean checks it. -/
import Derived.Test.YtaiallgcobpkaaaMWireOrderx0
import Derived.Test.YtaiallgcobpkaaaMWireOrderx1
namespace Go.Proofs.Ytaiallgcobpkaaa.MWireOrder
open Go.RowKit Go.Proofs.Ytaiallgcobpkaaa Go.Proofs.YtaiallgcobpkaaaW.PrintWords Go.Proofs.YtaiallgcobpkaaaW.PrintLast Go.Proofs.YtaiallgcobpkaaaW.PrintMore
attribute [local go_sem] max2_int min2_int max_two min_two max_three min_three max_four min_four   -- for this text's walks alone
set_option linter.unusedVariables false
set_option linter.unusedSimpArgs false

/-! ### signalmanlaw20_WireOrder: function 3 -/
theorem rdOf_nat_ {α : Type} (d : α) (xs : List α) (i : Nat) (h : i < xs.length) : rdOf d xs (i : Int) = xs[i] := by
  simp [rdOf, List.getD_eq_getElem?_getD, List.getElem?_eq_getElem h]
/-- What is under way behind so many bits: the next ones to come out, round about. -/
def signalmanlaw20_WireOrder.Holds (d : Nat) (s l : List Bool) (j : Nat) : Prop := l.length = d ∧ ∀ q, q < d → l.getD ((j + q) % d) false = s.getD (j + q) false
theorem signalmanlaw20_WireOrder.pass {w : World} {g gl d j : Nat} {s l : List Bool} {x : Bool} (hld : signalmanlaw20_WireOrder.Holds d s l j) (hq : d < 256) (hjs : ∃ h : j < s.length, (d = 0 → s[j] = x) ∧ s.getD (j + d) false = x) {y : Bool} (hy : s.getD j false = y) (h : Wire.Is w g gl l (if d = 0 then 0 else j % d) [] 0 0) :
    Calls Try.prog 11 #[.pointer (some ⟨g, 0, none⟩), .bool x] w fun e w' => e = .returned (.bool y) ∧ (∃ l', signalmanlaw20_WireOrder.Holds d s l' (j + 1) ∧ Wire.Is w' g gl l' (if d = 0 then 0 else (j + 1) % d) [] 0 0) ∧ Wire.Only (fun k => k = g ∨ k = gl) w w' := by
  subst hy
  obtain ⟨hl, hv⟩ := hld
  obtain ⟨hj, hx0, hx⟩ := hjs
  refine (Wire.pass_calls h (by decide) (by decide) (by omega) x).mono ?_
  rintro e w' ⟨rfl, hI, ho⟩
  have eg : Wire.goes [] 0 x = x := by cases x <;> rfl
  have eb : Wire.bends [] 0 x = 0 := by cases x <;> rfl
  rw [eg, eb] at hI
  have hgj : s.getD j false = s[j] := by simp [List.getD_eq_getElem?_getD, List.getElem?_eq_getElem hj]
  by_cases h0 : d = 0
  · have hl0 : l.length = 0 := by omega
    obtain rfl : l = [] := List.eq_nil_of_length_eq_zero hl0
    have ec : ∀ i, Wire.comes [] i [] 0 x = x := fun i => by cases x <;> rfl
    subst h0
    refine ⟨?_, ⟨[], ⟨rfl, fun q hq => absurd hq (by omega)⟩, ?_⟩, ho⟩
    · rw [ec, hgj, hx0 rfl]
    · simpa [Wire.onto] using hI
  · rw [if_neg h0] at hI
    rw [if_neg h0, if_neg h0]
    have hlt : j % d < d := Nat.mod_lt _ (by omega)
    refine ⟨?_, ⟨l.set (j % d) x, ⟨by rw [List.length_set]; exact hl, fun q hq' => ?_⟩, ?_⟩, ho⟩
    · have := hv 0 (by omega)
      rw [Nat.add_zero] at this
      unfold Wire.comes
      rw [if_neg (by omega), this]
    · by_cases hlast : q = d - 1
      · have e1 : j + 1 + q = j + d := by omega
        rw [e1, Nat.add_mod_right, hx]
        simp [List.getD_eq_getElem?_getD, List.getElem?_set, hl, hlt]
      · have e2 := hv (q + 1) (by omega)
        rw [show j + (q + 1) = j + 1 + q from by omega] at e2
        have hne : ¬ j % d = (j + 1 + q) % d := by
          intro e
          have h1 := Nat.mod_add_div j d
          have h2 := Nat.mod_add_div (j + 1 + q) d
          rw [← e] at h2
          have h3 : d * ((j + 1 + q) / d) = d * (j / d) + (1 + q) := by omega
          have h4 : d ∣ (1 + q) := (Nat.dvd_add_right (Nat.dvd_mul_right d (j / d))).mp (h3 ▸ Nat.dvd_mul_right d _)
          have := Nat.le_of_dvd (by omega) h4
          omega
        rw [← e2]
        simp only [List.getD_eq_getElem?_getD, List.getElem?_set, if_neg hne]
    · have : Wire.onto l (j % d) = (j + 1) % d := by
        unfold Wire.onto
        rw [if_neg (by omega), hl, Nat.mod_add_mod]
      rw [this] at hI
      simpa using hI
theorem signalmanlaw20_WireOrder.same_zero {k : Nat} {A0 A1 : Option Addr} {c0 c1 d : Nat} {w : World} (hr0 : Kd.C Kd.bool w A0 d (List.replicate d false)) (hc0 : d ≤ c0) (hr1 : Kd.C Kd.bool w A1 d (List.replicate d false)) (hc1 : d ≤ c1) (h : signalmanref01_Same.f k (List.replicate d false) (List.replicate d false) = some true) :
    Calls Try.prog 12 #[.slice A0 d c0, .slice A1 d c1] w fun e w' => e = .returned (.bool true) ∧ Below w.heap.size w w' := by
  have h1 := signalmanref01_Same.calls k A0 c0 (List.replicate d false) A1 c1 (List.replicate d false) true w (by rw [List.length_replicate]; exact hr0) (by rw [List.length_replicate]; exact hc0) (by rw [List.length_replicate]; exact hr1) (by rw [List.length_replicate]; exact hc1) h
  rw [List.length_replicate] at h1
  exact h1
set_option maxHeartbeats 8000000 in
set_option maxRecDepth 100000 in
theorem signalmanlaw20_WireOrder.early (d : Nat) (A : Option Addr) (c : Nat) (l0 : List Int) (w : World) (hl : 200 < l0.length) :
    Calls Try.prog 3 #[.int .u8 (d : Int), .slice A l0.length c] w fun e w' => e = .returned (.bool true) ∧ Below w.heap.size w w' := by
  have HB := Aside0.mk (Below.refl w.heap.size w)
  have d1 : decide ((200 : Int) < (l0.length : Int)) = true := decide_eq_true (by omega)
  have d2 : decide (200 < l0.length) = true := decide_eq_true hl
  go_enter Try.func3, Try.ntmps3
  go_wp2_with (first
  | ((with_reducible refine gate_callee (f := 8) rfl ?_); refine goesL_ (some 11) rfl rfl Try.func8 (by kernel_rfl) rfl #[] rfl (by (try simp only [List.map_toArray, List.map_cons, List.map_nil]); first | done | rfl | (simp [Act.eval, *]; done)) ?_; (with_reducible refine (Wire.awake_calls _).mono ?_); rintro e w5 ⟨rfl, hb⟩; refine ⟨_, rfl, ?_⟩; have n0_ := Aside0.mk (below_step HB.out hb); clear HB; have HB := n0_; clear n0_ hb)
  | ((with_reducible refine gate_callee (f := 8) rfl ?_); refine goesL_ (some 18) rfl rfl Try.func8 (by kernel_rfl) rfl #[] rfl (by (try simp only [List.map_toArray, List.map_cons, List.map_nil]); first | done | rfl | (simp [Act.eval, *]; done)) ?_; (with_reducible refine (Wire.awake_calls _).mono ?_); rintro e w5 ⟨rfl, hb⟩; refine ⟨_, rfl, ?_⟩; have n0_ := Aside0.mk (below_step HB.out hb); clear HB; have HB := n0_; clear n0_ hb))
  go_ret
  exact ⟨rfl, HB.out⟩
set_option maxHeartbeats 8000000 in
set_option maxRecDepth 100000 in
theorem signalmanlaw20_WireOrder.main (k : Nat) (d : Nat) (hd : d < 256) (A : Option Addr) (c : Nat) (l0 : List Int) (t : List Bool) (w : World) (hr : Kd.C (Kd.int .u8) w A l0.length l0) (hc : l0.length ≤ c) (hl : l0.length ≤ 200) (ht : t.length ≤ 10000) (h : signalmanref01_Bits.f k l0 = some t)
    (hs1 : signalmanref01_Same.f k (List.replicate d false) (List.replicate d false) = some true) (hs2 : signalmanref01_Same.f k t t = some true) :
    Calls Try.prog 3 #[.int .u8 (d : Int), .slice A l0.length c] w fun e w' => e = .returned (.bool true) ∧ Below w.heap.size w w' := by
  have HB := Aside0.mk (Below.refl w.heap.size w)
  have HR := Aside0.mk hr
  have HC := Aside0.mk hc
  have HH := Aside0.mk h
  have HTL := Aside0.mk ht
  have HS1 := Aside0.mk hs1
  have HS2 := Aside0.mk hs2
  clear hr hc h ht hs1 hs2
  have d1 : decide ((200 : Int) < (l0.length : Int)) = false := decide_eq_false (by omega)
  have d2 : decide (200 < l0.length) = false := decide_eq_false (by omega)
  go_enter Try.func3, Try.ntmps3
  go_wp2_with (first
  | ((with_reducible refine gate_callee (f := 8) rfl ?_); refine goesL_ (some 11) rfl rfl Try.func8 (by kernel_rfl) rfl #[] rfl (by (try simp only [List.map_toArray, List.map_cons, List.map_nil]); first | done | rfl | (simp [Act.eval, *]; done)) ?_; (with_reducible refine (Wire.awake_calls _).mono ?_); rintro e w5 ⟨rfl, hb⟩; refine ⟨_, rfl, ?_⟩; have n0_ := Aside0.mk (below_step HB.out hb); clear HB; have HB := n0_; clear n0_ hb)
  | ((with_reducible refine gate_callee (f := 9) rfl ?_); refine goesL_ (some 23) rfl rfl Try.func9 (by kernel_rfl) rfl #[.int .i64 (d : Int)] rfl (by (try simp only [List.map_toArray, List.map_cons, List.map_nil]); first | done | rfl | (simp [Act.eval, *]; done)) ?_; (with_reducible refine (Wire.new_is d (by omega) _).mono ?_); rintro e w1 ⟨g, gl, rfl, hg, hgl, hI, hb⟩; refine ⟨_, rfl, ?_⟩; have HG := Aside0.mk (Nat.le_trans HB.out.size hg); have HL := Aside0.mk (Nat.le_trans HB.out.size hgl); have HI := Aside0.mk hI; have n0_ := Aside0.mk (below_step HB.out hb); clear HB; have HB := n0_; clear n0_ hg hgl hI hb)
  | ((with_reducible refine gate_callee (f := 10) rfl ?_); refine goesL_ (some 29) rfl rfl Try.func10 (by kernel_rfl) rfl #[.slice A l0.length c] rfl (by (try simp only [List.map_toArray, List.map_cons, List.map_nil]); first | done | rfl | (simp [Act.eval, *]; done)) ?_; (with_reducible refine (signalmanref01_Bits.calls k A c l0 t _ (Kd.C_below HR.out HB.out) HC.out HH.out).mono ?_); rintro e w3 ⟨v, rfl, ho, hb⟩; refine ⟨_, rfl, ?_⟩; have HO := Aside0.mk ho; have HB3 := Aside0.mk hb; clear ho hb)
  | ((with_reducible refine gate_builtin (b := .append) (xs := #[.tmp 29, .tmp 30]) rfl ?_); at_builtin; refine Kd.R_append_zeros Kd.bool (w0 := w1) w1.heap.size rfl (.tmp 29) (.tmp 30) 28 3 4 (.bool false) 1 rfl Try.underlying28 Try.underlying3 info4 rfl (by decide) (by omega) v t false (d : Int) (fun _ => True) rfl rfl ?aP ?aF ?aO ?a0 ?aB ?aS ?aL ?_; (case aP => exact rfl); (case aF => exact fun _ _ => trivial); (case aO => exact HO.out); (case a0 => exact Int.natCast_nonneg d); (case aB => exact HB3.out); (case aS => exact HB3.out.size); (case aL => have := HTL.out; omega); intro v4 w4 ho hb hg hat; rw [Int.toNat_natCast] at ho; obtain ⟨u, hu⟩ : ∃ u, u = t ++ List.replicate d false := ⟨_, rfl⟩; rw [← hu] at ho; replace hu := Aside0.mk hu; obtain ⟨At, ct, rfl, hct, hrd, hfr⟩ := Wire.fresh_reads ho; have HT := Aside0.mk hrd; have HAp := Aside0.mk (Wire.Is.apart HI.out hfr); have n1_ := Aside0.mk (Wire.Is.below HI.out hb); have n0_ := Aside0.mk (below_step HB.out hb); clear HB HI HB3 HO; have HB := n0_; have HI := n1_; clear n0_ n1_ ho hb hg hat hct hrd hfr))
  obtain ⟨s, hs⟩ : ∃ s, s = List.replicate d false ++ (t ++ List.replicate d false) := ⟨_, rfl⟩
  replace hu := hu.out
  have hsl : s.length = d + (t.length + d) := by rw [hs]; simp
  have hul : u.length = t.length + d := by rw [hu]; simp
  have hT10 := HTL.out
  have hsu : ∀ j, j < u.length → s.getD (j + d) false = u.getD j false := by
    intro j hj
    rw [hs, hu, List.getD_eq_getElem?_getD, List.getD_eq_getElem?_getD, List.getElem?_append_right (by simp), List.length_replicate, Nat.add_sub_cancel]
  have hs0 : ∀ j, d = 0 → s.getD j false = u.getD j false := by
    intro j h0
    rw [hs, hu, h0]; rfl
  have HBS := Aside0.mk HB.out.size
  have HGL := Aside0.mk HI.out.lt
  have HTB := Aside0.mk (Wire.reads_block HT.out)
  have hm := print_make_of (P := Try.prog) 28 4 (.bool false) 1 Try.underlying28 info4 rfl (by decide) d (by omega)
  have HSO := Aside0.mk (show s.take u.length = List.replicate d false ++ t by
    rw [hul, hs, ← List.append_assoc, List.take_append_of_le_length (by simp; omega), List.take_of_length_le (by simp; omega)])
  have HI0 := Aside0.mk (show signalmanlaw20_WireOrder.Holds d s (List.replicate d false) 0 from ⟨by simp, fun q hq => by
    rw [hs, Nat.zero_add, Nat.mod_eq_of_lt hq]
    simp [List.getD_eq_getElem?_getD, hq, List.getElem?_append_left]⟩)
  have HSL := Aside0.mk hsl
  have HUL := Aside0.mk hul
  have HSU := Aside0.mk hsu
  have HS0 := Aside0.mk hs0
  clear d1 d2 hs hu hsl hul hsu hs0 hT10
  go_loopw [9, 10] (fun v9 v10 wr => ∃ j : Nat, j ≤ u.length ∧ v10 = .int .i64 j ∧ (∃ l, signalmanlaw20_WireOrder.Holds d s l j ∧ Aside0 (Wire.Is wr g gl l (if d = 0 then 0 else j % d) [] 0 0)) ∧ Aside0 (Below w.heap.size w wr) ∧ Aside0 (ReadsOf Value.bool false wr At u.length u) ∧ Aside0 (Kd.R Kd.bool 4 wr w4.heap.size (fun k => k ≠ g ∧ k ≠ gl) v9 (s.take j)) ∧ Aside0 (w4.heap.size ≤ wr.heap.size)) (fun _ v10 _ => u.length - (intOf v10).toNat)
  case atStart =>
    exact ⟨0, Nat.zero_le _, rfl, ⟨List.replicate d false, HI0.out, ⟨by simpa using HI.out⟩⟩, HB, HT, ⟨Kd.R_nil _ _ _ _ _⟩, ⟨Nat.le_refl _⟩⟩
  case round =>
    clear HI HB HT HI0
    obtain ⟨j, hj, rfl, ⟨l, hld, HI⟩, HB, HT, HO, HS⟩ := hrel
    by_cases hlt : j < u.length
    · have hpos : 0 < u.length := by omega
      have b1 : decide ((j : Int) < (u.length : Int)) = true := decide_eq_true (by omega)
      have p1 := eq_true (show 0 ≤ (j : Int) by omega)
      have p2 := eq_true (show (j : Int) < (u.length : Int) by omega)
      obtain ⟨ad, e, hx⟩ := ReadsOf.at_ HT.out (j : Int) (by omega) (by omega)
      cases e
      rw [rdOf_nat_ false u j hlt, Int.toNat_natCast] at hx
      have hjl : j < s.length := by have := HSL.out; have := HUL.out; omega
      have HLN := Aside0.mk (show j + 1 ≤ 140737488355328 by have := HUL.out; have := HTL.out; omega)
      have hgu : u.getD j false = u[j] := by simp [List.getD_eq_getElem?_getD, List.getElem?_eq_getElem hlt]
      have hjs : ∃ h : j < s.length, (d = 0 → s[j] = u[j]) ∧ s.getD (j + d) false = u[j] := by
        refine ⟨hjl, fun h0 => ?_, by rw [HSU.out j hlt, hgu]⟩
        have := HS0.out j h0
        rw [hgu] at this
        rw [← this, List.getD_eq_getElem?_getD, List.getElem?_eq_getElem hjl]; rfl
      have hq := hd
      have hsj : s.getD j false = s[j] := by simp [List.getD_eq_getElem?_getD, List.getElem?_eq_getElem hjl]
      have htk : s.take (j + 1) = s.take j ++ [s[j]] := List.take_succ_eq_append_getElem hjl
      generalize u[j] = x at hx hjs
      generalize s[j] = y at hsj htk
      replace hjs := Aside0.mk hjs
      replace hsj := Aside0.mk hsj
      replace htk := Aside0.mk htk
      clear hgu
      go_wp2_with (first
        | ((with_reducible refine gate_callee (f := 11) rfl ?_); refine goesL_ (some 44) rfl rfl Try.func11 (by kernel_rfl) rfl #[.pointer (some ⟨g, 0, none⟩), .bool x] rfl (by (try simp only [List.map_toArray, List.map_cons, List.map_nil]); first | done | rfl | (simp [Act.eval, *]; done)) ?_; (with_reducible refine (signalmanlaw20_WireOrder.pass (x := x) hld hq hjs.out hsj.out HI.out).mono ?_); rintro e w6 ⟨rfl, hI, ho⟩; refine ⟨_, rfl, ?_⟩; obtain ⟨l2, hld2, hI⟩ := hI; have n1_ := Aside0.mk hI; have n0_ := Aside0.mk (ho.below (B := w.heap.size) (fun k hk => hk.elim (fun e => e ▸ HG.out) (fun e => e ▸ HL.out)) HB.out HB.out.size); have n2_ := Aside0.mk (Wire.reads_only HT.out ho (fun ad e hn hp => hp.elim (HAp.out ad e hn).1 (HAp.out ad e hn).2)); have n3_ := Aside0.mk (Kd.R_step HO.out (fun k hk hlt => ho.block k hlt (fun hp => hp.elim hk.1 hk.2))); have n4_ := Aside0.mk (Nat.le_trans HS.out ho.size); clear HB HI HT HO HS hx; have HB := n0_; have HI := n1_; have HT := n2_; have HO := n3_; have HS := n4_; clear n0_ n1_ n2_ n3_ n4_ hI ho)
        | ((with_reducible refine gate_builtin (b := .append) (xs := #[.tmp 38, .tmp 45]) rfl ?_); at_builtin; refine Kd.R_append Kd.bool (w0 := w6) w4.heap.size rfl (.tmp 38) (.tmp 45) 28 4 (.bool false) 1 rfl Try.underlying28 info4 rfl (by decide) (by omega) _ (s.take j) y [.bool y] (fun k => k ≠ g ∧ k ≠ gl) (fun _ => False) rfl rfl ?aP (fun _ hk => hk.elim) ?aF ?aO ?aB ?aS ?aL ?_; (case aP => exact rfl); (case aF => exact fun k hk => ⟨by have := HI.out.lt; omega, by have := HI.out.lt; omega⟩); (case aO => exact HO.out); (case aB => exact Below.refl _ _); (case aS => exact HS.out); (case aL => have := HLN.out; rw [List.length_take]; omega); intro v7 w7 ho hb hg hat; have n0_ := Aside0.mk (below_weaken HB.out HBS.out hb); have n1_ := Aside0.mk (Wire.Is.under HI.out hb HGL.out.1 HGL.out.2); have n2_ := Aside0.mk (Wire.reads_under HT.out hb HTB.out); have n3_ := Aside0.mk ho; have n4_ := Aside0.mk (Nat.le_trans HS.out hb.size); clear HB HI HT HO HS; have HB := n0_; have HI := n1_; have HT := n2_; have HO := n3_; have HS := n4_; clear n0_ n1_ n2_ n3_ n4_ ho hb hg hat))
      have hul := HUL.out
      have hT10 := HTL.out
      have ew : wrap64 ((j : Int) + 1) = ((j + 1 : Nat) : Int) := by unfold wrap64; omega
      go_roundw
      case rel =>
        refine ⟨j + 1, by omega, by first | rfl | rw [ew] | (simp; done), ⟨l2, hld2, HI⟩, HB, HT, ⟨?_⟩, HS⟩
        rw [htk.out]
        exact HO.out
      case measure => first | (rw [ew]; simp [intOf]; omega) | (simp [intOf]; omega)
    · obtain rfl : j = u.length := by omega
      have b1 : decide ((u.length : Int) < (u.length : Int)) = false := decide_eq_false (by omega)
      have hO := HO.out
      rw [HSO.out] at hO
      obtain ⟨Ao, co, rfl, hco, hro, _⟩ := Wire.fresh_reads hO
      have hol : (List.replicate d false ++ t).length = d + t.length := by simp
      obtain ⟨i0, hi0, _, hsz0, _⟩ := info_parts info4
      obtain ⟨hc1, hA1, hC1⟩ := print_take_of (P := Try.prog) Value.bool false 28 4 .i64 Try.underlying28 hi0 hsz0 Ao co (List.replicate d false ++ t) (d : Int) (by omega) (by omega) hco
      obtain ⟨Ao2, hc2, hA2, hC2⟩ := print_drop_of (P := Try.prog) Value.bool false 28 4 .i64 Try.underlying28 hi0 hsz0 Ao co (List.replicate d false ++ t) (d : Int) (by omega) (by omega) hco
      have et : (List.replicate d false ++ t).take d = List.replicate d false := by rw [List.take_append_of_le_length (by simp), List.take_of_length_le (by simp)]
      have ed : (List.replicate d false ++ t).drop d = t := by rw [List.drop_append_of_le_length (by simp), List.drop_of_length_le (by simp)]; rfl
      have hA1' := hA1 _ hro
      have hA2' := hA2 _ hro
      rw [Int.toNat_natCast, et, List.length_replicate] at hc1 hA1' hC1
      rw [Int.toNat_natCast, ed] at hc2 hA2' hC2
      obtain ⟨co2, hco2⟩ : ∃ co2, co2 = co - d := ⟨_, rfl⟩
      rw [← hco2] at hc2 hC2
      have hcd := hC1
      have hcd2 := hC2
      have HO1 := Aside0.mk (show Kd.C Kd.bool wr Ao d (List.replicate d false) from Kd.C_of_reads (h1 := fun _ => rfl) hA1')
      have HO2 := Aside0.mk (show Kd.C Kd.bool wr Ao2 t.length t from Kd.C_of_reads (h1 := fun _ => rfl) hA2')
      obtain ⟨N, hN⟩ : ∃ N, N = (List.replicate d false ++ t).length := ⟨_, rfl⟩
      rw [← hN] at hc1 hc2 ⊢
      clear hO hro hA1 hA2 hA1' hA2' hC1 hC2 hco2 hN et ed hol hi0 hsz0 HO hco
      go_wp2
      refine start_ (n := 20) (S := fun _ => True) (ds := []) #[false, false, false, false, false, false, false, false, false, false, false, false, false, false, false, false, false, false, false, false] (by kernel_rfl) rfl rfl trivial (fun _ => ?_)
      have n0_ := Aside0.mk (below_drew1 HB.out)
      have n1_ := Aside0.mk (Kd.C_drew HO1.out)
      have n2_ := Aside0.mk (Kd.C_drew HO2.out)
      have n3_ := Aside0.mk (Wire.Is.below HI.out (below_drew1 (Below.refl _ _)))
      clear HB HO1 HO2 HI
      have HB := n0_
      have HO1 := n1_
      have HO2 := n2_
      have HI := n3_
      clear n0_ n1_ n2_ n3_
      generalize wr.drew = W0 at HB HO1 HO2 HI ⊢
      refine pure_ (i := 0) (N := some 47) (v := ?_) (a' := ?_) #[true, false, false, false, false, false, false, false, false, false, false, false, false, false, false, false, false, false, false, false] rfl rfl (by kernel_rfl) (fun _ _ _ h => h) (Or.inl ⟨by rfl, ?_⟩) ?_ ?_
      rotate_left
      · intro w'
        go_simp
        with_reducible rfl
      rotate_left
      · simp only [Act.put, List.setIfInBounds_toArray, List.set_cons_zero, List.set_cons_succ, i64_w, i32_w]
        rfl
      refine pure_ (i := 1) (N := some 48) (v := ?_) (a' := ?_) #[true, true, false, false, false, false, false, false, false, false, false, false, false, false, false, false, false, false, false, false] rfl rfl (by kernel_rfl) (fun _ _ _ h => h) (Or.inl ⟨by rfl, ?_⟩) ?_ ?_
      rotate_left
      · intro w'
        go_simp
        with_reducible rfl
      rotate_left
      · simp only [Act.put, List.setIfInBounds_toArray, List.set_cons_zero, List.set_cons_succ, i64_w, i32_w]
        rfl
      refine pure_ (i := 2) (N := some 49) (v := ?_) (a' := ?_) #[true, true, true, false, false, false, false, false, false, false, false, false, false, false, false, false, false, false, false, false] rfl rfl (by kernel_rfl) (fun _ _ _ h => h) (Or.inl ⟨by rfl, ?_⟩) ?_ ?_
      rotate_left
      · intro w'
        go_simp
        with_reducible rfl
      rotate_left
      · simp only [Act.put, List.setIfInBounds_toArray, List.set_cons_zero, List.set_cons_succ, i64_w, i32_w]
        rfl
      refine pure_ (i := 3) (N := some 50) (v := ?_) (a' := ?_) #[true, true, true, true, false, false, false, false, false, false, false, false, false, false, false, false, false, false, false, false] rfl rfl (by kernel_rfl) (fun _ _ _ h => h) (Or.inl ⟨by rfl, ?_⟩) ?_ ?_
      rotate_left
      · intro w'
        go_simp
        with_reducible rfl
      rotate_left
      · simp only [Act.put, List.setIfInBounds_toArray, List.set_cons_zero, List.set_cons_succ, i64_w, i32_w]
        rfl
      refine one_ (i := 4) (N := some 51) #[true, true, true, true, true, false, false, false, false, false, false, false, false, false, false, false, false, false, false, false] rfl rfl (by kernel_rfl) (by decide) (fun K hK => ?_)
      refine value_ (w1 := ?_) (v := ?_) (by rfl) rfl ?_ ?_
      rotate_left 2
      · go_simp
        constructor
        · rfl
        · rfl
      have HZ := Aside0.mk (Wire.made_C d (by omega) W0)
      have n0_ := Aside0.mk (below_alloc HB.out (.cells (madeCells #[.bool false] d) 4))
      have n2_ := Aside0.mk (Kd.C_alloc HO2.out (.cells (madeCells #[.bool false] d) 4))
      have n1_ := Aside0.mk (Kd.C_alloc HO1.out (.cells (madeCells #[.bool false] d) 4))
      have n3_ := Aside0.mk (Wire.Is.below HI.out (below_alloc (Below.refl _ _) (.cells (madeCells #[.bool false] d) 4)))
      clear HB HO1 HO2 HI
      have HB := n0_
      have HO1 := n1_
      have HO2 := n2_
      have HI := n3_
      clear n0_ n1_ n2_ n3_
      refine hK.out _ _ trivial (fun _ => ?_)
      clear hK K
      refine norm_ (a' := ?_) ?_ ?_
      rotate_left
      · show Act.put _ (some 51) _ = _
        simp only [Act.put, List.setIfInBounds_toArray, List.set_cons_zero, List.set_cons_succ, i64_w, i32_w]
        rfl
      refine one_ (i := 5) (N := some 52) #[true, true, true, true, true, true, false, false, false, false, false, false, false, false, false, false, false, false, false, false] rfl rfl (by kernel_rfl) (by decide) (fun K hK => ?_)
      refine goes_ Try.func12 (by kernel_rfl) rfl #[.slice Ao d co, .slice (some ⟨W0.heap.size, 0, none⟩) d d] (by rfl) rfl rfl (by (try simp only [List.map_toArray, List.map_cons, List.map_nil]); first | done | rfl) ?_
      with_reducible refine (signalmanlaw20_WireOrder.same_zero (k := k) (A0 := Ao) (c0 := co) (A1 := some ⟨W0.heap.size, 0, none⟩) (c1 := d) HO1.out hcd HZ.out (Nat.le_refl _) HS1.out).mono ?_
      rintro e wq ⟨rfl, hb⟩
      refine ⟨_, rfl, ?_⟩
      have n0_ := Aside0.mk (below_step HB.out hb)
      have n2_ := Aside0.mk (Kd.C_below HO2.out hb)
      have n3_ := Aside0.mk (Wire.Is.below HI.out hb)
      clear HB HO1 HO2 HI HZ hb
      have HB := n0_
      have HO2 := n2_
      have HI := n3_
      clear n0_ n2_ n3_
      refine hK.out _ _ trivial (fun _ => ?_)
      clear hK K
      refine norm_ (a' := ?_) ?_ ?_
      rotate_left
      · show Act.put _ (some 52) _ = _
        simp only [Act.put, List.setIfInBounds_toArray, List.set_cons_zero, List.set_cons_succ, i64_w, i32_w]
        rfl
      refine pure_ (i := 6) (N := some 53) (v := ?_) (a' := ?_) #[true, true, true, true, true, true, true, false, false, false, false, false, false, false, false, false, false, false, false, false] rfl rfl (by kernel_rfl) (fun _ _ _ h => h) (Or.inl ⟨by rfl, ?_⟩) ?_ ?_
      rotate_left
      · intro w'
        go_simp
        with_reducible rfl
      rotate_left
      · simp only [Act.put, List.setIfInBounds_toArray, List.set_cons_zero, List.set_cons_succ, i64_w, i32_w]
        rfl
      refine pure_ (i := 7) (N := some 54) (v := ?_) (a' := ?_) #[true, true, true, true, true, true, true, true, false, false, false, false, false, false, false, false, false, false, false, false] rfl rfl (by kernel_rfl) (fun _ _ _ h => h) (Or.inl ⟨by rfl, ?_⟩) ?_ ?_
      rotate_left
      · intro w'
        go_simp
        with_reducible rfl
      rotate_left
      · simp only [Act.put, List.setIfInBounds_toArray, List.set_cons_zero, List.set_cons_succ, i64_w, i32_w]
        rfl
      refine pure_ (i := 8) (N := some 55) (v := ?_) (a' := ?_) #[true, true, true, true, true, true, true, true, true, false, false, false, false, false, false, false, false, false, false, false] rfl rfl (by kernel_rfl) (fun _ _ _ h => h) (Or.inl ⟨by rfl, ?_⟩) ?_ ?_
      rotate_left
      · intro w'
        go_simp
        with_reducible rfl
      rotate_left
      · simp only [Act.put, List.setIfInBounds_toArray, List.set_cons_zero, List.set_cons_succ, i64_w, i32_w]
        rfl
      refine pure_ (i := 9) (N := some 56) (v := ?_) (a' := ?_) #[true, true, true, true, true, true, true, true, true, true, false, false, false, false, false, false, false, false, false, false] rfl rfl (by kernel_rfl) (fun _ _ _ h => h) (Or.inl ⟨by rfl, ?_⟩) ?_ ?_
      rotate_left
      · intro w'
        go_simp
        with_reducible rfl
      rotate_left
      · simp only [Act.put, List.setIfInBounds_toArray, List.set_cons_zero, List.set_cons_succ, i64_w, i32_w]
        rfl
      refine pure_ (i := 10) (N := some 57) (v := ?_) (a' := ?_) #[true, true, true, true, true, true, true, true, true, true, true, false, false, false, false, false, false, false, false, false] rfl rfl (by kernel_rfl) (fun _ _ _ h => h) (Or.inl ⟨by rfl, ?_⟩) ?_ ?_
      rotate_left
      · intro w'
        go_simp
        with_reducible rfl
      rotate_left
      · simp only [Act.put, List.setIfInBounds_toArray, List.set_cons_zero, List.set_cons_succ, i64_w, i32_w]
        rfl
      refine one_ (i := 11) (N := some 58) #[true, true, true, true, true, true, true, true, true, true, true, true, false, false, false, false, false, false, false, false] rfl rfl (by kernel_rfl) (by decide) (fun K hK => ?_)
      refine goes_ Try.func10 (by kernel_rfl) rfl #[.slice A l0.length c] (by rfl) rfl rfl (by (try simp only [List.map_toArray, List.map_cons, List.map_nil]); first | done | rfl) ?_
      with_reducible refine (signalmanref01_Bits.calls k A c l0 t _ (Kd.C_below HR.out HB.out) HC.out HH.out).mono ?_
      rintro e wp ⟨vb, rfl, ho, hb⟩
      refine ⟨_, rfl, ?_⟩
      obtain ⟨Ab, cb, rfl, hcb, hrb, hfb⟩ := Wire.fresh_reads ho
      have HCb := Aside0.mk (show Kd.C Kd.bool wp Ab t.length t from Kd.C_of_reads (h1 := fun _ => rfl) hrb)
      have HCB := Aside0.mk hcb
      have n0_ := Aside0.mk (below_step HB.out hb)
      have n2_ := Aside0.mk (Kd.C_below HO2.out hb)
      have n3_ := Aside0.mk (Wire.Is.below HI.out hb)
      clear HB HO2 HI hb ho hcb hrb hfb
      have HB := n0_
      have HO2 := n2_
      have HI := n3_
      clear n0_ n2_ n3_
      refine hK.out _ _ trivial (fun _ => ?_)
      clear hK K
      refine norm_ (a' := ?_) ?_ ?_
      rotate_left
      · show Act.put _ (some 58) _ = _
        simp only [Act.put, List.setIfInBounds_toArray, List.set_cons_zero, List.set_cons_succ, i64_w, i32_w]
        rfl
      refine one_ (i := 12) (N := some 59) #[true, true, true, true, true, true, true, true, true, true, true, true, true, false, false, false, false, false, false, false] rfl rfl (by kernel_rfl) (by decide) (fun K hK => ?_)
      refine goes_ Try.func12 (by kernel_rfl) rfl #[.slice Ao2 t.length co2, .slice Ab t.length cb] (by rfl) rfl rfl (by (try simp only [List.map_toArray, List.map_cons, List.map_nil]); first | done | rfl) ?_
      with_reducible refine (signalmanref01_Same.calls k Ao2 co2 t Ab cb t true _ HO2.out hcd2 HCb.out HCB.out HS2.out).mono ?_
      rintro e wq2 ⟨rfl, hb⟩
      refine ⟨_, rfl, ?_⟩
      have n0_ := Aside0.mk (below_step HB.out hb)
      have n3_ := Aside0.mk (Wire.Is.below HI.out hb)
      clear HB HO2 HI HCb hb
      have HB := n0_
      have HI := n3_
      clear n0_ n3_
      refine hK.out _ _ trivial (fun _ => ?_)
      clear hK K
      refine norm_ (a' := ?_) ?_ ?_
      rotate_left
      · show Act.put _ (some 59) _ = _
        simp only [Act.put, List.setIfInBounds_toArray, List.set_cons_zero, List.set_cons_succ, i64_w, i32_w]
        rfl
      refine pure_ (i := 13) (N := some 60) (v := ?_) (a' := ?_) #[true, true, true, true, true, true, true, true, true, true, true, true, true, true, false, false, false, false, false, false] rfl rfl (by kernel_rfl) (fun _ _ _ h => h) (Or.inl ⟨by rfl, ?_⟩) ?_ ?_
      rotate_left
      · intro w'
        go_simp
        with_reducible rfl
      rotate_left
      · simp only [Act.put, List.setIfInBounds_toArray, List.set_cons_zero, List.set_cons_succ, i64_w, i32_w]
        rfl
      refine pure_ (i := 14) (N := some 61) (v := ?_) (a' := ?_) #[true, true, true, true, true, true, true, true, true, true, true, true, true, true, true, false, false, false, false, false] rfl rfl (by kernel_rfl) (fun _ _ _ h => h) (Or.inl ⟨by rfl, ?_⟩) ?_ ?_
      rotate_left
      · intro w'
        go_simp
        with_reducible rfl
      rotate_left
      · simp only [Act.put, List.setIfInBounds_toArray, List.set_cons_zero, List.set_cons_succ, i64_w, i32_w]
        rfl
      refine pure_ (i := 15) (N := some 62) (v := ?_) (a' := ?_) #[true, true, true, true, true, true, true, true, true, true, true, true, true, true, true, true, false, false, false, false] rfl rfl (by kernel_rfl) (fun _ _ _ h => h) (Or.inl ⟨by rfl, ?_⟩) ?_ ?_
      rotate_left
      · intro w'
        go_simp
        with_reducible rfl
      rotate_left
      · simp only [Act.put, List.setIfInBounds_toArray, List.set_cons_zero, List.set_cons_succ, i64_w, i32_w]
        rfl
      refine one_ (i := 16) (N := some 63) #[true, true, true, true, true, true, true, true, true, true, true, true, true, true, true, true, true, false, false, false] rfl rfl (by kernel_rfl) (by decide) (fun K hK => ?_)
      refine goes_ Try.func13 (by kernel_rfl) rfl #[.pointer (some ⟨g, 0, none⟩)] (by rfl) rfl rfl (by (try simp only [List.map_toArray, List.map_cons, List.map_nil]); first | done | rfl) ?_
      with_reducible refine (Wire.bent_is HI.out).mono ?_
      rintro e wq3 ⟨rfl, rfl⟩
      refine ⟨_, rfl, ?_⟩
      refine hK.out _ _ trivial (fun _ => ?_)
      clear hK K
      refine norm_ (a' := ?_) ?_ ?_
      rotate_left
      · show Act.put _ (some 63) _ = _
        simp only [Act.put, List.setIfInBounds_toArray, List.set_cons_zero, List.set_cons_succ, i64_w, i32_w]
        rfl
      refine pure_ (i := 17) (N := some 64) (v := ?_) (a' := ?_) #[true, true, true, true, true, true, true, true, true, true, true, true, true, true, true, true, true, true, false, false] rfl rfl (by kernel_rfl) (fun _ _ _ h => h) (Or.inl ⟨by rfl, ?_⟩) ?_ ?_
      rotate_left
      · intro w'
        go_simp
        with_reducible rfl
      rotate_left
      · simp only [Act.put, List.setIfInBounds_toArray, List.set_cons_zero, List.set_cons_succ, i64_w, i32_w]
        rfl
      refine pure_ (i := 18) (N := some 65) (v := ?_) (a' := ?_) #[true, true, true, true, true, true, true, true, true, true, true, true, true, true, true, true, true, true, true, false] rfl rfl (by kernel_rfl) (fun _ _ _ h => h) (Or.inl ⟨by rfl, ?_⟩) ?_ ?_
      rotate_left
      · intro w'
        go_simp
        with_reducible rfl
      rotate_left
      · simp only [Act.put, List.setIfInBounds_toArray, List.set_cons_zero, List.set_cons_succ, i64_w, i32_w]
        rfl
      refine pure_ (i := 19) (N := some 4) (v := ?_) (a' := ?_) #[true, true, true, true, true, true, true, true, true, true, true, true, true, true, true, true, true, true, true, true] rfl rfl (by kernel_rfl) (fun _ _ _ h => h) (Or.inl ⟨by rfl, ?_⟩) ?_ ?_
      rotate_left
      · intro w'
        go_simp
        with_reducible rfl
      rotate_left
      · simp only [Act.put, List.setIfInBounds_toArray, List.set_cons_zero, List.set_cons_succ, i64_w, i32_w]
        rfl
      refine done_ (by kernel_rfl) ?_
      try go_wp2
      go_ret
      exact ⟨rfl, HB.out⟩
def signalmanlaw20_WireOrder.Pure : Prop := ∀ (a0 : Int) (l1 : List Int), (Lit.int .u8 a0).wf = true → l1.length ≤ maxLen → l1.length * 1 ≤ 140737488351232 → (∀ x ∈ l1, (Lit.int .u8 x).wf = true) → 0 ≤ a0 ∧ a0 < 256 ∧ (l1.length ≤ 200 → ∃ k t, signalmanref01_Bits.f k l1 = some t ∧ t.length ≤ 10000 ∧ signalmanref01_Same.f k (List.replicate a0.toNat false) (List.replicate a0.toNat false) = some true ∧ signalmanref01_Same.f k t t = some true)
theorem signalmanlaw20_WireOrder.walk (P : signalmanlaw20_WireOrder.Pure) (a0 : Int) (a1 : Option Addr) (len1 cap1 : Nat) (z1 : List Int) (w : World) (w0 : (Lit.int .u8 a0).wf = true) (w1 : (a1 = none ∧ len1 = 0 ∧ cap1 = 0 ∧ z1 = []) ∨ ∃ x, a1 = some x ∧ len1 ≤ cap1 ∧ cap1 ≤ maxLen ∧ z1.length = cap1 ∧ (∀ i, i < z1.length → w.cell? (x.add i) = some (.int .u8 (z1.getD i 0))) ∧ ∀ n ∈ z1, (Lit.int .u8 n).wf = true) (y1 : len1 * 1 ≤ 140737488351232) :
    Calls Try.prog 3 #[.int .u8 a0, .slice a1 len1 cap1] w fun e w' => e = .returned (.bool true) ∧ Below w.heap.size w w' := by
  obtain ⟨l1, rfl, hr1, hm1, hw1, hc1⟩ := ReadsInt.ofRowC w1
  obtain ⟨h0, h256, hP⟩ := P a0 l1 w0 hm1 y1 hw1
  obtain ⟨d, rfl⟩ := Int.eq_ofNat_of_zero_le h0
  have hC := Kd.C_of_reads (d := (0 : Int)) (h1 := fun _ => rfl) hr1
  by_cases hl : l1.length ≤ 200
  · obtain ⟨k, t, ht, hlen, hs1, hs2⟩ := hP hl
    rw [Int.toNat_natCast] at hs1
    exact signalmanlaw20_WireOrder.main k d (by omega) _ _ l1 t w hC hc1 hl hlen ht hs1 hs2
  · exact signalmanlaw20_WireOrder.early d _ _ l1 w (by omega)

end Go.Proofs.Ytaiallgcobpkaaa.MWireOrder
