/- (*flag.Ear).Bit, walked, one way at a time. No condition. Written for this claim (gen/earbit.py). -/
import Derived.Test.YtonhgiclaieamaaEarFlag
namespace Go.Proofs.Ytonhgiclaieamaa.Ear
open Go Go.RowKit Go.Proofs.Ytonhgiclaieamaa Go.Proofs.YtonhgiclaieamaaW.PrintWords Go.Proofs.YtonhgiclaieamaaW.PrintLast Go.Proofs.YtonhgiclaieamaaW.PrintMore Go.Proofs.Ytonhgiclaieamaa.Base Go.Proofs.Ytonhgiclaieamaa.Rowq
set_option linter.unusedVariables false
set_option linter.unusedSimpArgs false
theorem block_cells {w w' : World} {b : Nat} {c0 c1 : Value} {ty : TypeId} (h : w.heap[b]? = some (.cells #[c0, c1] ty (0, 0))) {P : Nat → Prop} (ho : Only P w w') (hp : ¬ P b) : w'.heap[b]? = some (.cells #[c0, c1] ty (0, 0)) := (ho.block b (Array.getElem?_eq_some_iff.1 h).1 hp).trans h
set_option maxHeartbeats 8000000 in
set_option maxRecDepth 100000 in
theorem bit_count (g : Nat) (vin vin2 : Value) (ones n ones2 n2 K : Int) (f2 ok on : Bool) (w : World) (h : At w g vin ones false n)
    (hc : ∀ W, At W g vin ones false n → Calls Try.prog 39 #[.pointer (some ⟨g, 0, none⟩), .bool on] W fun e w' => e = .returned (.tuple #[.agg #[.int .u8 K, .slice none 0 0], .bool ok]) ∧ At w' g vin2 ones2 f2 n2 ∧ Only (fun k => k = g) W w') :
    Calls Try.prog 27 #[.pointer (some ⟨g, 0, none⟩), .bool on] w fun e w' => e = .returned (.tuple #[.agg #[.int .u8 K, .slice none 0 0], .bool ok]) ∧ At w' g vin2 ones2 f2 n2 ∧ Only (fun k => k = g) w w' := by
  have hg := h.lt
  have HA := Aside0.mk (h.alloc (.cells #[.int .u8 0, .slice none 0 0] 57))
  have HX := Aside0.mk (boxed2 w (.int .u8 0) (.slice none 0 0) 57)
  have HC := Aside0.mk (hc _ HA.out)
  have HO := Aside0.mk (only_alloc (Only.refl (fun k => k = g) w) (.cells #[.int .u8 0, .slice none 0 0] 57))
  clear hc h
  go_enter Try.func27, Try.ntmps27
  go_wp2_with (first
  | ((with_reducible refine gate_callee (f := 26) rfl ?_); refine goesL_ (some 11) rfl rfl Try.func26 (by kernel_rfl) rfl #[.pointer (some ⟨g, 0, none⟩)] rfl (by (try simp only [List.map_toArray, List.map_cons, List.map_nil]); first | done | rfl | (simp [Act.eval, *]; done)) ?_; (with_reducible refine (counting_calls g vin ones n false _ HA.out).mono ?_); rintro e w1 ⟨rfl, rfl⟩; refine ⟨_, rfl, ?_⟩)
  | ((with_reducible refine gate_callee (f := 39) rfl ?_); refine goesL_ (some 14) rfl rfl Try.func39 (by kernel_rfl) rfl #[.pointer (some ⟨g, 0, none⟩), .bool on] rfl (by (try simp only [List.map_toArray, List.map_cons, List.map_nil]); first | done | rfl | (simp [Act.eval, *]; done)) ?_; (with_reducible refine (HC.out).mono ?_); rintro e w2 ⟨rfl, hA2, hO2⟩; refine ⟨_, rfl, ?_⟩; have HA2 := Aside0.mk hA2; have HO2 := Aside0.mk hO2; have hx2 := block_cells HX.out hO2 (fun e => by omega); obtain ⟨y0, y1, y2⟩ := two_cells hx2; have y20 := y2 0; have y21 := y2 1; have HX2 := Aside0.mk hx2; clear hA2 hO2 hx2 y2))
  obtain ⟨z0, z1, _⟩ := two_cells (two_sets HX2.out (.int .u8 K) (.slice none 0 0))
  refine bodyPost_ret (v := .tuple #[.agg #[.int .u8 K, .slice none 0 0], .bool ok]) (by simp [results, Try.results27, go_sem, z0, z1]) rfl ⟨rfl, ?_, ?_⟩
  · exact (HA2.out.far (by show g ≠ w.heap.size; omega) _).far (by show g ≠ w.heap.size; omega) _
  · refine only_far (only_far ⟨HO2.out.os.trans HO.out.os, HO2.out.tape.trans HO.out.tape, HO2.out.output.trans HO.out.output, Nat.le_trans HO.out.size HO2.out.size, fun k hk hn => (HO2.out.block k (Nat.lt_of_lt_of_le hk HO.out.size) hn).trans (HO.out.block k hk hn)⟩ (Nat.le_refl _) _) (Nat.le_refl _) _
set_option maxHeartbeats 8000000 in
set_option maxRecDepth 100000 in
theorem bit_on {J : List Bool → Option (List Int)} (HJ : JudgeOk J) (g m c : Nat) (A : Option Addr) (inb : List Bool) (ones n : Nat) (P : Nat → Prop) (w : World) (h : At w g (.slice A m c) ones true n) (hm : m = inb.length) (hm2 : m ≤ 2700) (hP : ∀ k, P k → k ≠ g ∧ k < w.heap.size) (hS : Spare w P (.slice A m c) inb) (ho : ones + 1 < 7) :
    Calls Try.prog 27 #[.pointer (some ⟨g, 0, none⟩), .bool true] w fun e w' => e = .returned (.tuple #[.agg #[.int .u8 0, .slice none 0 0], .bool false]) ∧ ∃ A1 c1, At w' g (.slice A1 (m + 1) c1) ((ones + 1 : Nat) : Int) true n ∧ Spare w' (fun k => P k ∨ w.heap.size + 2 ≤ k) (.slice A1 (m + 1) c1) (inb ++ [true]) ∧ Only (fun k => k = g ∨ P k) w w' := by
  have hg := h.lt
  have hO0 : Only (fun _ => False) w ((w.alloc (.cells #[.int .u8 0, .slice none 0 0] 57)).alloc (.cells #[.bool true] 4)) := only_alloc (only_alloc (Only.refl _ w) _) _
  have hs0 : ((w.alloc (.cells #[.int .u8 0, .slice none 0 0] 57)).alloc (.cells #[.bool true] 4)).heap.size = w.heap.size + 2 := by simp [World.alloc_eq]
  have hr0 : ReadsOf Value.bool false ((w.alloc (.cells #[.int .u8 0, .slice none 0 0] 57)).alloc (.cells #[.bool true] 4)) (some ⟨w.heap.size + 1, 0, none⟩) 1 [true] := by
    refine ⟨rfl, by simp, fun _ => ⟨_, rfl, fun j hj => ?_⟩⟩
    obtain rfl : j = 0 := by omega
    have hs1 : (w.alloc (.cells #[.int .u8 0, .slice none 0 0] 57)).heap.size = w.heap.size + 1 := by simp [World.alloc_eq]
    rw [Addr.add_lit, ← hs1, World.cell?_alloc_mark]
    rfl
  obtain ⟨v1, w1, hrun, hS1, hO1⟩ := append_spare 27 Try.underlying27 27 (fun k => P k ∨ w.heap.size + 2 ≤ k) (.slice A m c) inb [true] (some ⟨w.heap.size + 1, 0, none⟩) 1 ((w.alloc (.cells #[.int .u8 0, .slice none 0 0] 57)).alloc (.cells #[.bool true] 4)) ((hS.only hO0 (fun _ _ _ h => h)).mono (fun k hk _ => Or.inl hk)) hr0 (by simp; omega) (fun k hk => Or.inr (by omega))
  obtain ⟨A1, c1, rfl, hc1, hr1, hd1⟩ := hS1.reads
  obtain ⟨nb, hnb⟩ : ∃ nb, nb = inb ++ [true] := ⟨_, rfl⟩
  have hnl : nb.length = m + 1 := by rw [hnb, hm]; simp
  rw [← hnb] at hrun hS1 hc1 hr1
  rw [hnl] at hrun hS1 hc1 hr1
  have hgP : ¬ (P g ∨ w.heap.size + 2 ≤ g) := fun hp => hp.elim (fun hp => (hP g hp).1 rfl) (fun hp => by omega)
  have hA1 : At w1 g (.slice A m c) ones true n := (((h.alloc _).alloc _).only hO1 hgP)
  have hbw : ¬ (P w.heap.size ∨ w.heap.size + 2 ≤ w.heap.size) := fun hp => hp.elim (fun hp => by have := hP _ hp; omega) (fun hp => by omega)
  have hx0 : ((w.alloc (.cells #[.int .u8 0, .slice none 0 0] 57)).alloc (.cells #[.bool true] 4)).heap[w.heap.size]? = some (.cells #[.int .u8 0, .slice none 0 0] 57 (0, 0)) := (Below.heap_alloc _ _ _ (by simp [World.alloc_eq])).trans (boxed2 w _ _ 57)
  have hx1 := block_cells hx0 hO1 hbw
  obtain ⟨y0, y1, y2⟩ := two_cells hx1
  have y20 := y2 0
  have y21 := y2 1
  have hsz1 := hO1.size
  obtain ⟨c0, c1', c2, c3⟩ := hA1.cells
  have f0 := hA1.frozen 0
  have f1 := hA1.frozen 1
  have f2 := hA1.frozen 2
  have f3 := hA1.frozen 3
  have hO01 : Only (fun k => k = g ∨ P k) w w1 := ⟨hO1.os.trans hO0.os, hO1.tape.trans hO0.tape, hO1.output.trans hO0.output, by omega, fun k hk hn => (hO1.block k (by omega) (fun hp => hp.elim (fun hp => hn (Or.inr hp)) (fun hp => by omega))).trans (hO0.block k hk (fun h => h))⟩
  obtain ⟨e0, e1, e2, e3⟩ := (((h.alloc (.cells #[.int .u8 0, .slice none 0 0] 57)).alloc (.cells #[.bool true] 4))).cells
  obtain ⟨b0, b1, b2, b3⟩ := (h.alloc (.cells #[.int .u8 0, .slice none 0 0] 57)).cells
  obtain ⟨a0, a1, a2, a3⟩ := h.cells
  have d0 : decide ((7 : Int) ≤ (ones : Int) + 1) = false := decide_eq_false (by omega)
  have d1 : decide (7 ≤ ones + 1) = false := decide_eq_false (by omega)
  have HA0 := Aside0.mk (h.alloc (.cells #[.int .u8 0, .slice none 0 0] 57))
  have HR := Aside0.mk hrun
  have HA1 := Aside0.mk hA1
  have HX1 := Aside0.mk hx1
  have HS1 := Aside0.mk hS1
  have HO01 := Aside0.mk hO01
  have HNB := Aside0.mk hnb
  have HR1 := Aside0.mk hr1
  have HC1 := Aside0.mk hc1
  have HD1 := Aside0.mk hd1
  have HSZ := Aside0.mk (show w.heap.size + 2 ≤ w1.heap.size by omega)
  have HNL := Aside0.mk hnl
  clear hrun hA1 hx1 hS1 hO1 hO01 hnb hr1 hc1 hr0 hx0 hO0 hS h y2 hs0 hsz1 hnl hd1 hm hgP hbw
  go_enter Try.func27, Try.ntmps27
  go_wp2_with (first
  | ((with_reducible refine gate_callee (f := 26) rfl ?_); refine goesL_ (some 11) rfl rfl Try.func26 (by kernel_rfl) rfl #[.pointer (some ⟨g, 0, none⟩)] rfl (by (try simp only [List.map_toArray, List.map_cons, List.map_nil]); first | done | rfl | (simp [Act.eval, *]; done)) ?_; (with_reducible refine (counting_calls g (.slice A m c) ones n true _ HA0.out).mono ?_); rintro e w9 ⟨rfl, rfl⟩; refine ⟨_, rfl, ?_⟩)
  | ((with_reducible refine gate_builtin (b := .append) (xs := #[.tmp 21, .tmp 23]) rfl ?_); refine wpList_append_run rfl (.tmp 21) (.tmp 23) 27 rfl (.slice A m c) (.slice (some ⟨w.heap.size + 1, 0, none⟩) 1 1) rfl rfl (.slice A1 (m + 1) c1) w1 HR.out ?_))
  have hsz := HSZ.out
  have HXF := two_sets (blk_far (p := ⟨g, 1, none⟩) (blk_far (p := ⟨g, 0, none⟩) HX1.out (by show w.heap.size ≠ g; omega) (.slice A1 (m + 1) c1)) (by show w.heap.size ≠ g; omega) (.int .i64 ((ones : Int) + 1))) (.int .u8 0) (.slice none 0 0)
  obtain ⟨z0, z1, _⟩ := two_cells HXF
  refine bodyPost_ret (v := .tuple #[.agg #[.int .u8 0, .slice none 0 0], .bool false]) (by simp [results, Try.results27, go_sem, z0, z1]) rfl ⟨rfl, A1, c1, ?_, ?_, ?_⟩
  · exact (((((HA1.out.set0 _).set1 _).far (by show g ≠ w.heap.size; omega) _).far (by show g ≠ w.heap.size; omega) _).to (by omega) rfl)
  · have hS := HS1.out
    rw [HNB.out] at hS
    refine hS.only (Q := fun k => k = g ∨ k = w.heap.size) ((((Only.refl _ w1).set (Or.inl rfl) _).set (Or.inl rfl) _).set (Or.inr rfl) _ |>.set (Or.inr rfl) _) (fun k hk _ hq => ?_)
    rcases hk with hk | hk
    · have := hP k hk
      omega
    · omega
  · exact only_far (only_far ((HO01.out.set (p := ⟨g, 0, none⟩) (Or.inl rfl) _).set (p := ⟨g, 1, none⟩) (Or.inl rfl) _) (Nat.le_refl _) _) (Nat.le_refl _) _
set_option maxHeartbeats 8000000 in
set_option maxRecDepth 100000 in
theorem bit_off {J : List Bool → Option (List Int)} (HJ : JudgeOk J) (g m c : Nat) (A : Option Addr) (inb : List Bool) (ones n : Nat) (P : Nat → Prop) (w : World) (h : At w g (.slice A m c) ones true n) (hm : m = inb.length) (hm2 : m ≤ 2700) (hP : ∀ k, P k → k ≠ g ∧ k < w.heap.size) (hS : Spare w P (.slice A m c) inb) (ho : ones ≠ 6) (ho2 : ones ≤ 6) (hl : m + 1 ≤ 2687) :
    Calls Try.prog 27 #[.pointer (some ⟨g, 0, none⟩), .bool false] w fun e w' => e = .returned (.tuple #[.agg #[.int .u8 0, .slice none 0 0], .bool false]) ∧ ∃ A1 c1, At w' g (.slice A1 (m + 1) c1) ((0 : Nat) : Int) true n ∧ Spare w' (fun k => P k ∨ w.heap.size + 2 ≤ k) (.slice A1 (m + 1) c1) (inb ++ [false]) ∧ Only (fun k => k = g ∨ P k) w w' := by
  have hg := h.lt
  have hO0 : Only (fun _ => False) w ((w.alloc (.cells #[.int .u8 0, .slice none 0 0] 57)).alloc (.cells #[.bool false] 4)) := only_alloc (only_alloc (Only.refl _ w) _) _
  have hs0 : ((w.alloc (.cells #[.int .u8 0, .slice none 0 0] 57)).alloc (.cells #[.bool false] 4)).heap.size = w.heap.size + 2 := by simp [World.alloc_eq]
  have hr0 : ReadsOf Value.bool false ((w.alloc (.cells #[.int .u8 0, .slice none 0 0] 57)).alloc (.cells #[.bool false] 4)) (some ⟨w.heap.size + 1, 0, none⟩) 1 [false] := by
    refine ⟨rfl, by simp, fun _ => ⟨_, rfl, fun j hj => ?_⟩⟩
    obtain rfl : j = 0 := by omega
    have hs1 : (w.alloc (.cells #[.int .u8 0, .slice none 0 0] 57)).heap.size = w.heap.size + 1 := by simp [World.alloc_eq]
    rw [Addr.add_lit, ← hs1, World.cell?_alloc_mark]
    rfl
  obtain ⟨v1, w1, hrun, hS1, hO1⟩ := append_spare 27 Try.underlying27 27 (fun k => P k ∨ w.heap.size + 2 ≤ k) (.slice A m c) inb [false] (some ⟨w.heap.size + 1, 0, none⟩) 1 ((w.alloc (.cells #[.int .u8 0, .slice none 0 0] 57)).alloc (.cells #[.bool false] 4)) ((hS.only hO0 (fun _ _ _ h => h)).mono (fun k hk _ => Or.inl hk)) hr0 (by simp; omega) (fun k hk => Or.inr (by omega))
  obtain ⟨A1, c1, rfl, hc1, hr1, hd1⟩ := hS1.reads
  obtain ⟨nb, hnb⟩ : ∃ nb, nb = inb ++ [false] := ⟨_, rfl⟩
  have hnl : nb.length = m + 1 := by rw [hnb, hm]; simp
  rw [← hnb] at hrun hS1 hc1 hr1
  rw [hnl] at hrun hS1 hc1 hr1
  have hgP : ¬ (P g ∨ w.heap.size + 2 ≤ g) := fun hp => hp.elim (fun hp => (hP g hp).1 rfl) (fun hp => by omega)
  have hA1 : At w1 g (.slice A m c) ones true n := (((h.alloc _).alloc _).only hO1 hgP)
  have hbw : ¬ (P w.heap.size ∨ w.heap.size + 2 ≤ w.heap.size) := fun hp => hp.elim (fun hp => by have := hP _ hp; omega) (fun hp => by omega)
  have hx0 : ((w.alloc (.cells #[.int .u8 0, .slice none 0 0] 57)).alloc (.cells #[.bool false] 4)).heap[w.heap.size]? = some (.cells #[.int .u8 0, .slice none 0 0] 57 (0, 0)) := (Below.heap_alloc _ _ _ (by simp [World.alloc_eq])).trans (boxed2 w _ _ 57)
  have hx1 := block_cells hx0 hO1 hbw
  obtain ⟨y0, y1, y2⟩ := two_cells hx1
  have y20 := y2 0
  have y21 := y2 1
  have hsz1 := hO1.size
  obtain ⟨c0, c1', c2, c3⟩ := hA1.cells
  have f0 := hA1.frozen 0
  have f1 := hA1.frozen 1
  have f2 := hA1.frozen 2
  have f3 := hA1.frozen 3
  have hO01 : Only (fun k => k = g ∨ P k) w w1 := ⟨hO1.os.trans hO0.os, hO1.tape.trans hO0.tape, hO1.output.trans hO0.output, by omega, fun k hk hn => (hO1.block k (by omega) (fun hp => hp.elim (fun hp => hn (Or.inr hp)) (fun hp => by omega))).trans (hO0.block k hk (fun h => h))⟩
  obtain ⟨e0, e1, e2, e3⟩ := (((h.alloc (.cells #[.int .u8 0, .slice none 0 0] 57)).alloc (.cells #[.bool false] 4))).cells
  obtain ⟨b0, b1, b2, b3⟩ := (h.alloc (.cells #[.int .u8 0, .slice none 0 0] 57)).cells
  obtain ⟨a0, a1, a2, a3⟩ := h.cells
  have d0 : ((ones : Int) == 6) = false := by simp; omega
  have d1 : (ones == 6) = false := by simp; omega
  have d2 : decide ((2687 : Int) < (m : Int) + 1) = false := decide_eq_false (by omega)
  have d3 : decide (2687 < m + 1) = false := decide_eq_false (by omega)
  have d4 : decide ((2687 : Int) < ((m + 1 : Nat) : Int)) = false := decide_eq_false (by omega)
  have HA0 := Aside0.mk (h.alloc (.cells #[.int .u8 0, .slice none 0 0] 57))
  have HR := Aside0.mk hrun
  have HA1 := Aside0.mk hA1
  have HX1 := Aside0.mk hx1
  have HS1 := Aside0.mk hS1
  have HO01 := Aside0.mk hO01
  have HNB := Aside0.mk hnb
  have HR1 := Aside0.mk hr1
  have HC1 := Aside0.mk hc1
  have HD1 := Aside0.mk hd1
  have HSZ := Aside0.mk (show w.heap.size + 2 ≤ w1.heap.size by omega)
  have HNL := Aside0.mk hnl
  clear hrun hA1 hx1 hS1 hO1 hO01 hnb hr1 hc1 hr0 hx0 hO0 hS h y2 hs0 hsz1 hnl hd1 hm hgP hbw
  go_enter Try.func27, Try.ntmps27
  go_wp2_with (first
  | ((with_reducible refine gate_callee (f := 26) rfl ?_); refine goesL_ (some 11) rfl rfl Try.func26 (by kernel_rfl) rfl #[.pointer (some ⟨g, 0, none⟩)] rfl (by (try simp only [List.map_toArray, List.map_cons, List.map_nil]); first | done | rfl | (simp [Act.eval, *]; done)) ?_; (with_reducible refine (counting_calls g (.slice A m c) ones n true _ HA0.out).mono ?_); rintro e w9 ⟨rfl, rfl⟩; refine ⟨_, rfl, ?_⟩)
  | ((with_reducible refine gate_builtin (b := .append) (xs := #[.tmp 21, .tmp 23]) rfl ?_); refine wpList_append_run rfl (.tmp 21) (.tmp 23) 27 rfl (.slice A m c) (.slice (some ⟨w.heap.size + 1, 0, none⟩) 1 1) rfl rfl (.slice A1 (m + 1) c1) w1 HR.out ?_))
  have hsz := HSZ.out
  have HXF := two_sets (blk_far (p := ⟨g, 1, none⟩) (blk_far (p := ⟨g, 0, none⟩) HX1.out (by show w.heap.size ≠ g; omega) (.slice A1 (m + 1) c1)) (by show w.heap.size ≠ g; omega) (.int .i64 0)) (.int .u8 0) (.slice none 0 0)
  obtain ⟨z0, z1, _⟩ := two_cells HXF
  refine bodyPost_ret (v := .tuple #[.agg #[.int .u8 0, .slice none 0 0], .bool false]) (by simp [results, Try.results27, go_sem, z0, z1]) rfl ⟨rfl, A1, c1, ?_, ?_, ?_⟩
  · exact (((((HA1.out.set0 _).set1 _).far (by show g ≠ w.heap.size; omega) _).far (by show g ≠ w.heap.size; omega) _))
  · have hS := HS1.out
    rw [HNB.out] at hS
    refine hS.only (Q := fun k => k = g ∨ k = w.heap.size) ((((Only.refl _ w1).set (Or.inl rfl) _).set (Or.inl rfl) _).set (Or.inr rfl) _ |>.set (Or.inr rfl) _) (fun k hk _ hq => ?_)
    rcases hk with hk | hk
    · have := hP k hk
      omega
    · omega
  · exact only_far (only_far ((HO01.out.set (p := ⟨g, 0, none⟩) (Or.inl rfl) _).set (p := ⟨g, 1, none⟩) (Or.inl rfl) _) (Nat.le_refl _) _) (Nat.le_refl _) _
set_option maxHeartbeats 8000000 in
set_option maxRecDepth 100000 in
theorem bit_lost {J : List Bool → Option (List Int)} (HJ : JudgeOk J) (g m c : Nat) (A : Option Addr) (inb : List Bool) (ones n : Nat) (P : Nat → Prop) (w : World) (h : At w g (.slice A m c) ones true n) (hm : m = inb.length) (hm2 : m ≤ 2700) (hP : ∀ k, P k → k ≠ g ∧ k < w.heap.size) (hS : Spare w P (.slice A m c) inb) (ho : 7 ≤ ones + 1) (ho2 : ones ≤ 6) :
    Calls Try.prog 27 #[.pointer (some ⟨g, 0, none⟩), .bool true] w fun e w' => e = .returned (.tuple #[.agg #[.int .u8 0, .slice none 0 0], .bool false]) ∧ At w' g (.slice none 0 0) ((ones + 1 : Nat) : Int) false 0 ∧ Only (fun k => k = g ∨ P k) w w' := by
  have hg := h.lt
  have hO0 : Only (fun _ => False) w ((w.alloc (.cells #[.int .u8 0, .slice none 0 0] 57)).alloc (.cells #[.bool true] 4)) := only_alloc (only_alloc (Only.refl _ w) _) _
  have hs0 : ((w.alloc (.cells #[.int .u8 0, .slice none 0 0] 57)).alloc (.cells #[.bool true] 4)).heap.size = w.heap.size + 2 := by simp [World.alloc_eq]
  have hr0 : ReadsOf Value.bool false ((w.alloc (.cells #[.int .u8 0, .slice none 0 0] 57)).alloc (.cells #[.bool true] 4)) (some ⟨w.heap.size + 1, 0, none⟩) 1 [true] := by
    refine ⟨rfl, by simp, fun _ => ⟨_, rfl, fun j hj => ?_⟩⟩
    obtain rfl : j = 0 := by omega
    have hs1 : (w.alloc (.cells #[.int .u8 0, .slice none 0 0] 57)).heap.size = w.heap.size + 1 := by simp [World.alloc_eq]
    rw [Addr.add_lit, ← hs1, World.cell?_alloc_mark]
    rfl
  obtain ⟨v1, w1, hrun, hS1, hO1⟩ := append_spare 27 Try.underlying27 27 (fun k => P k ∨ w.heap.size + 2 ≤ k) (.slice A m c) inb [true] (some ⟨w.heap.size + 1, 0, none⟩) 1 ((w.alloc (.cells #[.int .u8 0, .slice none 0 0] 57)).alloc (.cells #[.bool true] 4)) ((hS.only hO0 (fun _ _ _ h => h)).mono (fun k hk _ => Or.inl hk)) hr0 (by simp; omega) (fun k hk => Or.inr (by omega))
  obtain ⟨A1, c1, rfl, hc1, hr1, hd1⟩ := hS1.reads
  obtain ⟨nb, hnb⟩ : ∃ nb, nb = inb ++ [true] := ⟨_, rfl⟩
  have hnl : nb.length = m + 1 := by rw [hnb, hm]; simp
  rw [← hnb] at hrun hS1 hc1 hr1
  rw [hnl] at hrun hS1 hc1 hr1
  have hgP : ¬ (P g ∨ w.heap.size + 2 ≤ g) := fun hp => hp.elim (fun hp => (hP g hp).1 rfl) (fun hp => by omega)
  have hA1 : At w1 g (.slice A m c) ones true n := (((h.alloc _).alloc _).only hO1 hgP)
  have hbw : ¬ (P w.heap.size ∨ w.heap.size + 2 ≤ w.heap.size) := fun hp => hp.elim (fun hp => by have := hP _ hp; omega) (fun hp => by omega)
  have hx0 : ((w.alloc (.cells #[.int .u8 0, .slice none 0 0] 57)).alloc (.cells #[.bool true] 4)).heap[w.heap.size]? = some (.cells #[.int .u8 0, .slice none 0 0] 57 (0, 0)) := (Below.heap_alloc _ _ _ (by simp [World.alloc_eq])).trans (boxed2 w _ _ 57)
  have hx1 := block_cells hx0 hO1 hbw
  obtain ⟨y0, y1, y2⟩ := two_cells hx1
  have y20 := y2 0
  have y21 := y2 1
  have hsz1 := hO1.size
  obtain ⟨c0, c1', c2, c3⟩ := hA1.cells
  have f0 := hA1.frozen 0
  have f1 := hA1.frozen 1
  have f2 := hA1.frozen 2
  have f3 := hA1.frozen 3
  have hO01 : Only (fun k => k = g ∨ P k) w w1 := ⟨hO1.os.trans hO0.os, hO1.tape.trans hO0.tape, hO1.output.trans hO0.output, by omega, fun k hk hn => (hO1.block k (by omega) (fun hp => hp.elim (fun hp => hn (Or.inr hp)) (fun hp => by omega))).trans (hO0.block k hk (fun h => h))⟩
  obtain ⟨e0, e1, e2, e3⟩ := (((h.alloc (.cells #[.int .u8 0, .slice none 0 0] 57)).alloc (.cells #[.bool true] 4))).cells
  obtain ⟨b0, b1, b2, b3⟩ := (h.alloc (.cells #[.int .u8 0, .slice none 0 0] 57)).cells
  obtain ⟨a0, a1, a2, a3⟩ := h.cells
  have d0 : decide ((7 : Int) ≤ (ones : Int) + 1) = true := decide_eq_true (by omega)
  have d1 : decide (7 ≤ ones + 1) = true := decide_eq_true (by omega)
  have HAT := Aside0.mk ((hA1.set0 (.slice A1 (m + 1) c1)).set1 ((ones : Int) + 1))
  have HX2 := Aside0.mk (blk_far (p := ⟨g, 1, none⟩) (blk_far (p := ⟨g, 0, none⟩) hx1 (by show w.heap.size ≠ g; omega) (.slice A1 (m + 1) c1)) (by show w.heap.size ≠ g; omega) (.int .i64 ((ones : Int) + 1)))
  have HNE := Aside0.mk (show w.heap.size ≠ g by omega)
  have HA0 := Aside0.mk (h.alloc (.cells #[.int .u8 0, .slice none 0 0] 57))
  have HR := Aside0.mk hrun
  have HA1 := Aside0.mk hA1
  have HX1 := Aside0.mk hx1
  have HS1 := Aside0.mk hS1
  have HO01 := Aside0.mk hO01
  have HNB := Aside0.mk hnb
  have HR1 := Aside0.mk hr1
  have HC1 := Aside0.mk hc1
  have HD1 := Aside0.mk hd1
  have HSZ := Aside0.mk (show w.heap.size + 2 ≤ w1.heap.size by omega)
  have HNL := Aside0.mk hnl
  clear hrun hA1 hx1 hS1 hO1 hO01 hnb hr1 hc1 hr0 hx0 hO0 hS h y2 hs0 hsz1 hnl hd1 hm hgP hbw
  go_enter Try.func27, Try.ntmps27
  go_wp2_with (first
  | ((with_reducible refine gate_callee (f := 26) rfl ?_); refine goesL_ (some 11) rfl rfl Try.func26 (by kernel_rfl) rfl #[.pointer (some ⟨g, 0, none⟩)] rfl (by (try simp only [List.map_toArray, List.map_cons, List.map_nil]); first | done | rfl | (simp [Act.eval, *]; done)) ?_; (with_reducible refine (counting_calls g (.slice A m c) ones n true _ HA0.out).mono ?_); rintro e w9 ⟨rfl, rfl⟩; refine ⟨_, rfl, ?_⟩)
  | ((with_reducible refine gate_builtin (b := .append) (xs := #[.tmp 21, .tmp 23]) rfl ?_); refine wpList_append_run rfl (.tmp 21) (.tmp 23) 27 rfl (.slice A m c) (.slice (some ⟨w.heap.size + 1, 0, none⟩) 1 1) rfl rfl (.slice A1 (m + 1) c1) w1 HR.out ?_)
  | ((with_reducible refine gate_callee (f := 40) rfl ?_); refine goesL_ (some 41) rfl rfl Try.func40 (by kernel_rfl) rfl #[.pointer (some ⟨g, 0, none⟩)] rfl (by (try simp only [List.map_toArray, List.map_cons, List.map_nil]); first | done | rfl | (simp [Act.eval, *]; done)) ?_; (with_reducible refine (lost_calls g _ _ _ _ _ HAT.out).mono ?_); rintro e w3 ⟨rfl, hA, hO⟩; refine ⟨_, rfl, ?_⟩; have HO3 := Aside0.mk hO; have hx3 := block_cells HX2.out hO (fun e => HNE.out e); obtain ⟨q0, q1, q2⟩ := two_cells hx3; have q20 := q2 0; have q21 := q2 1; have HX3 := Aside0.mk hx3; have HA3 := Aside0.mk hA; clear hO hx3 hA q2))
  obtain ⟨z0, z1, _⟩ := two_cells (two_sets HX3.out (.int .u8 0) (.slice none 0 0))
  have hsz := HSZ.out
  have hO3 := HO3.out
  have hs3 := hO3.size
  rw [set_size, set_size] at hs3
  have hOw : Only (fun k => k = g ∨ P k) w w3 := by
    have h2 := (HO01.out.set (p := ⟨g, 0, none⟩) (Or.inl rfl) (.slice A1 (m + 1) c1)).set (p := ⟨g, 1, none⟩) (Or.inl rfl) (.int .i64 ((ones : Int) + 1))
    have hh : w.heap.size ≤ w1.heap.size := by omega
    exact ⟨hO3.os.trans h2.os, hO3.tape.trans h2.tape, hO3.output.trans h2.output, by omega, fun k hk hn => (hO3.block k (by rw [set_size, set_size]; omega) (fun e => hn (Or.inl e))).trans (h2.block k hk hn)⟩
  refine bodyPost_ret (v := .tuple #[.agg #[.int .u8 0, (.slice none 0 0)], .bool false]) (by simp [results, Try.results27, go_sem, z0, z1]) rfl ⟨rfl, ?_, ?_⟩
  · exact ((HA3.out.to (by omega) rfl).far (by show g ≠ w.heap.size; omega) _).far (by show g ≠ w.heap.size; omega) _
  · exact only_far (only_far hOw (Nat.le_refl _) _) (Nat.le_refl _) _
set_option maxHeartbeats 8000000 in
set_option maxRecDepth 100000 in
theorem bit_long {J : List Bool → Option (List Int)} (HJ : JudgeOk J) (g m c : Nat) (A : Option Addr) (inb : List Bool) (ones n : Nat) (P : Nat → Prop) (w : World) (h : At w g (.slice A m c) ones true n) (hm : m = inb.length) (hm2 : m ≤ 2700) (hP : ∀ k, P k → k ≠ g ∧ k < w.heap.size) (hS : Spare w P (.slice A m c) inb) (ho : ones ≠ 6) (ho2 : ones ≤ 6) (hl : 2687 < m + 1) :
    Calls Try.prog 27 #[.pointer (some ⟨g, 0, none⟩), .bool false] w fun e w' => e = .returned (.tuple #[.agg #[.int .u8 0, .slice none 0 0], .bool false]) ∧ At w' g (.slice none 0 0) ((0 : Nat) : Int) false 0 ∧ Only (fun k => k = g ∨ P k) w w' := by
  have hg := h.lt
  have hO0 : Only (fun _ => False) w ((w.alloc (.cells #[.int .u8 0, .slice none 0 0] 57)).alloc (.cells #[.bool false] 4)) := only_alloc (only_alloc (Only.refl _ w) _) _
  have hs0 : ((w.alloc (.cells #[.int .u8 0, .slice none 0 0] 57)).alloc (.cells #[.bool false] 4)).heap.size = w.heap.size + 2 := by simp [World.alloc_eq]
  have hr0 : ReadsOf Value.bool false ((w.alloc (.cells #[.int .u8 0, .slice none 0 0] 57)).alloc (.cells #[.bool false] 4)) (some ⟨w.heap.size + 1, 0, none⟩) 1 [false] := by
    refine ⟨rfl, by simp, fun _ => ⟨_, rfl, fun j hj => ?_⟩⟩
    obtain rfl : j = 0 := by omega
    have hs1 : (w.alloc (.cells #[.int .u8 0, .slice none 0 0] 57)).heap.size = w.heap.size + 1 := by simp [World.alloc_eq]
    rw [Addr.add_lit, ← hs1, World.cell?_alloc_mark]
    rfl
  obtain ⟨v1, w1, hrun, hS1, hO1⟩ := append_spare 27 Try.underlying27 27 (fun k => P k ∨ w.heap.size + 2 ≤ k) (.slice A m c) inb [false] (some ⟨w.heap.size + 1, 0, none⟩) 1 ((w.alloc (.cells #[.int .u8 0, .slice none 0 0] 57)).alloc (.cells #[.bool false] 4)) ((hS.only hO0 (fun _ _ _ h => h)).mono (fun k hk _ => Or.inl hk)) hr0 (by simp; omega) (fun k hk => Or.inr (by omega))
  obtain ⟨A1, c1, rfl, hc1, hr1, hd1⟩ := hS1.reads
  obtain ⟨nb, hnb⟩ : ∃ nb, nb = inb ++ [false] := ⟨_, rfl⟩
  have hnl : nb.length = m + 1 := by rw [hnb, hm]; simp
  rw [← hnb] at hrun hS1 hc1 hr1
  rw [hnl] at hrun hS1 hc1 hr1
  have hgP : ¬ (P g ∨ w.heap.size + 2 ≤ g) := fun hp => hp.elim (fun hp => (hP g hp).1 rfl) (fun hp => by omega)
  have hA1 : At w1 g (.slice A m c) ones true n := (((h.alloc _).alloc _).only hO1 hgP)
  have hbw : ¬ (P w.heap.size ∨ w.heap.size + 2 ≤ w.heap.size) := fun hp => hp.elim (fun hp => by have := hP _ hp; omega) (fun hp => by omega)
  have hx0 : ((w.alloc (.cells #[.int .u8 0, .slice none 0 0] 57)).alloc (.cells #[.bool false] 4)).heap[w.heap.size]? = some (.cells #[.int .u8 0, .slice none 0 0] 57 (0, 0)) := (Below.heap_alloc _ _ _ (by simp [World.alloc_eq])).trans (boxed2 w _ _ 57)
  have hx1 := block_cells hx0 hO1 hbw
  obtain ⟨y0, y1, y2⟩ := two_cells hx1
  have y20 := y2 0
  have y21 := y2 1
  have hsz1 := hO1.size
  obtain ⟨c0, c1', c2, c3⟩ := hA1.cells
  have f0 := hA1.frozen 0
  have f1 := hA1.frozen 1
  have f2 := hA1.frozen 2
  have f3 := hA1.frozen 3
  have hO01 : Only (fun k => k = g ∨ P k) w w1 := ⟨hO1.os.trans hO0.os, hO1.tape.trans hO0.tape, hO1.output.trans hO0.output, by omega, fun k hk hn => (hO1.block k (by omega) (fun hp => hp.elim (fun hp => hn (Or.inr hp)) (fun hp => by omega))).trans (hO0.block k hk (fun h => h))⟩
  obtain ⟨e0, e1, e2, e3⟩ := (((h.alloc (.cells #[.int .u8 0, .slice none 0 0] 57)).alloc (.cells #[.bool false] 4))).cells
  obtain ⟨b0, b1, b2, b3⟩ := (h.alloc (.cells #[.int .u8 0, .slice none 0 0] 57)).cells
  obtain ⟨a0, a1, a2, a3⟩ := h.cells
  have d0 : ((ones : Int) == 6) = false := by simp; omega
  have d1 : (ones == 6) = false := by simp; omega
  have d2 : decide ((2687 : Int) < (m : Int) + 1) = true := decide_eq_true (by omega)
  have d3 : decide (2687 < m + 1) = true := decide_eq_true (by omega)
  have d4 : decide ((2687 : Int) < ((m + 1 : Nat) : Int)) = true := decide_eq_true (by omega)
  have HAT := Aside0.mk ((hA1.set0 (.slice A1 (m + 1) c1)).set1 0)
  have HX2 := Aside0.mk (blk_far (p := ⟨g, 1, none⟩) (blk_far (p := ⟨g, 0, none⟩) hx1 (by show w.heap.size ≠ g; omega) (.slice A1 (m + 1) c1)) (by show w.heap.size ≠ g; omega) (.int .i64 0))
  have HNE := Aside0.mk (show w.heap.size ≠ g by omega)
  have HA0 := Aside0.mk (h.alloc (.cells #[.int .u8 0, .slice none 0 0] 57))
  have HR := Aside0.mk hrun
  have HA1 := Aside0.mk hA1
  have HX1 := Aside0.mk hx1
  have HS1 := Aside0.mk hS1
  have HO01 := Aside0.mk hO01
  have HNB := Aside0.mk hnb
  have HR1 := Aside0.mk hr1
  have HC1 := Aside0.mk hc1
  have HD1 := Aside0.mk hd1
  have HSZ := Aside0.mk (show w.heap.size + 2 ≤ w1.heap.size by omega)
  have HNL := Aside0.mk hnl
  clear hrun hA1 hx1 hS1 hO1 hO01 hnb hr1 hc1 hr0 hx0 hO0 hS h y2 hs0 hsz1 hnl hd1 hm hgP hbw
  go_enter Try.func27, Try.ntmps27
  go_wp2_with (first
  | ((with_reducible refine gate_callee (f := 26) rfl ?_); refine goesL_ (some 11) rfl rfl Try.func26 (by kernel_rfl) rfl #[.pointer (some ⟨g, 0, none⟩)] rfl (by (try simp only [List.map_toArray, List.map_cons, List.map_nil]); first | done | rfl | (simp [Act.eval, *]; done)) ?_; (with_reducible refine (counting_calls g (.slice A m c) ones n true _ HA0.out).mono ?_); rintro e w9 ⟨rfl, rfl⟩; refine ⟨_, rfl, ?_⟩)
  | ((with_reducible refine gate_builtin (b := .append) (xs := #[.tmp 21, .tmp 23]) rfl ?_); refine wpList_append_run rfl (.tmp 21) (.tmp 23) 27 rfl (.slice A m c) (.slice (some ⟨w.heap.size + 1, 0, none⟩) 1 1) rfl rfl (.slice A1 (m + 1) c1) w1 HR.out ?_)
  | ((with_reducible refine gate_callee (f := 40) rfl ?_); refine goesL_ (some 63) rfl rfl Try.func40 (by kernel_rfl) rfl #[.pointer (some ⟨g, 0, none⟩)] rfl (by (try simp only [List.map_toArray, List.map_cons, List.map_nil]); first | done | rfl | (simp [Act.eval, *]; done)) ?_; (with_reducible refine (lost_calls g _ _ _ _ _ HAT.out).mono ?_); rintro e w3 ⟨rfl, hA, hO⟩; refine ⟨_, rfl, ?_⟩; have HO3 := Aside0.mk hO; have hx3 := block_cells HX2.out hO (fun e => HNE.out e); obtain ⟨q0, q1, q2⟩ := two_cells hx3; have q20 := q2 0; have q21 := q2 1; have HX3 := Aside0.mk hx3; have HA3 := Aside0.mk hA; clear hO hx3 hA q2))
  obtain ⟨z0, z1, _⟩ := two_cells (two_sets HX3.out (.int .u8 0) (.slice none 0 0))
  have hsz := HSZ.out
  have hO3 := HO3.out
  have hs3 := hO3.size
  rw [set_size, set_size] at hs3
  have hOw : Only (fun k => k = g ∨ P k) w w3 := by
    have h2 := (HO01.out.set (p := ⟨g, 0, none⟩) (Or.inl rfl) (.slice A1 (m + 1) c1)).set (p := ⟨g, 1, none⟩) (Or.inl rfl) (.int .i64 0)
    have hh : w.heap.size ≤ w1.heap.size := by omega
    exact ⟨hO3.os.trans h2.os, hO3.tape.trans h2.tape, hO3.output.trans h2.output, by omega, fun k hk hn => (hO3.block k (by rw [set_size, set_size]; omega) (fun e => hn (Or.inl e))).trans (h2.block k hk hn)⟩
  refine bodyPost_ret (v := .tuple #[.agg #[.int .u8 0, (.slice none 0 0)], .bool false]) (by simp [results, Try.results27, go_sem, z0, z1]) rfl ⟨rfl, ?_, ?_⟩
  · exact (HA3.out.far (by show g ≠ w.heap.size; omega) _).far (by show g ≠ w.heap.size; omega) _
  · exact only_far (only_far hOw (Nat.le_refl _) _) (Nat.le_refl _) _
set_option maxHeartbeats 8000000 in
set_option maxRecDepth 100000 in
theorem bit_flag_short {J : List Bool → Option (List Int)} (HJ : JudgeOk J) (g m c : Nat) (A : Option Addr) (inb : List Bool) (ones n : Nat) (P : Nat → Prop) (w : World) (h : At w g (.slice A m c) ones true n) (hm : m = inb.length) (hm2 : m ≤ 2700) (hP : ∀ k, P k → k ≠ g ∧ k < w.heap.size) (hS : Spare w P (.slice A m c) inb) (ho : ones = 6) (hl : m + 1 ≤ 8) :
    Calls Try.prog 27 #[.pointer (some ⟨g, 0, none⟩), .bool false] w fun e w' => e = .returned (.tuple #[.agg #[.int .u8 0, .slice none 0 0], .bool false]) ∧ At w' g (.slice none 0 0) 0 true n ∧ Only (fun k => k = g ∨ P k) w w' := by
  have hg := h.lt
  have hO0 : Only (fun _ => False) w ((w.alloc (.cells #[.int .u8 0, .slice none 0 0] 57)).alloc (.cells #[.bool false] 4)) := only_alloc (only_alloc (Only.refl _ w) _) _
  have hs0 : ((w.alloc (.cells #[.int .u8 0, .slice none 0 0] 57)).alloc (.cells #[.bool false] 4)).heap.size = w.heap.size + 2 := by simp [World.alloc_eq]
  have hr0 : ReadsOf Value.bool false ((w.alloc (.cells #[.int .u8 0, .slice none 0 0] 57)).alloc (.cells #[.bool false] 4)) (some ⟨w.heap.size + 1, 0, none⟩) 1 [false] := by
    refine ⟨rfl, by simp, fun _ => ⟨_, rfl, fun j hj => ?_⟩⟩
    obtain rfl : j = 0 := by omega
    have hs1 : (w.alloc (.cells #[.int .u8 0, .slice none 0 0] 57)).heap.size = w.heap.size + 1 := by simp [World.alloc_eq]
    rw [Addr.add_lit, ← hs1, World.cell?_alloc_mark]
    rfl
  obtain ⟨v1, w1, hrun, hS1, hO1⟩ := append_spare 27 Try.underlying27 27 (fun k => P k ∨ w.heap.size + 2 ≤ k) (.slice A m c) inb [false] (some ⟨w.heap.size + 1, 0, none⟩) 1 ((w.alloc (.cells #[.int .u8 0, .slice none 0 0] 57)).alloc (.cells #[.bool false] 4)) ((hS.only hO0 (fun _ _ _ h => h)).mono (fun k hk _ => Or.inl hk)) hr0 (by simp; omega) (fun k hk => Or.inr (by omega))
  obtain ⟨A1, c1, rfl, hc1, hr1, hd1⟩ := hS1.reads
  obtain ⟨nb, hnb⟩ : ∃ nb, nb = inb ++ [false] := ⟨_, rfl⟩
  have hnl : nb.length = m + 1 := by rw [hnb, hm]; simp
  rw [← hnb] at hrun hS1 hc1 hr1
  rw [hnl] at hrun hS1 hc1 hr1
  have hgP : ¬ (P g ∨ w.heap.size + 2 ≤ g) := fun hp => hp.elim (fun hp => (hP g hp).1 rfl) (fun hp => by omega)
  have hA1 : At w1 g (.slice A m c) ones true n := (((h.alloc _).alloc _).only hO1 hgP)
  have hbw : ¬ (P w.heap.size ∨ w.heap.size + 2 ≤ w.heap.size) := fun hp => hp.elim (fun hp => by have := hP _ hp; omega) (fun hp => by omega)
  have hx0 : ((w.alloc (.cells #[.int .u8 0, .slice none 0 0] 57)).alloc (.cells #[.bool false] 4)).heap[w.heap.size]? = some (.cells #[.int .u8 0, .slice none 0 0] 57 (0, 0)) := (Below.heap_alloc _ _ _ (by simp [World.alloc_eq])).trans (boxed2 w _ _ 57)
  have hx1 := block_cells hx0 hO1 hbw
  obtain ⟨y0, y1, y2⟩ := two_cells hx1
  have y20 := y2 0
  have y21 := y2 1
  have hsz1 := hO1.size
  obtain ⟨c0, c1', c2, c3⟩ := hA1.cells
  have f0 := hA1.frozen 0
  have f1 := hA1.frozen 1
  have f2 := hA1.frozen 2
  have f3 := hA1.frozen 3
  have hO01 : Only (fun k => k = g ∨ P k) w w1 := ⟨hO1.os.trans hO0.os, hO1.tape.trans hO0.tape, hO1.output.trans hO0.output, by omega, fun k hk hn => (hO1.block k (by omega) (fun hp => hp.elim (fun hp => hn (Or.inr hp)) (fun hp => by omega))).trans (hO0.block k hk (fun h => h))⟩
  obtain ⟨e0, e1, e2, e3⟩ := (((h.alloc (.cells #[.int .u8 0, .slice none 0 0] 57)).alloc (.cells #[.bool false] 4))).cells
  obtain ⟨b0, b1, b2, b3⟩ := (h.alloc (.cells #[.int .u8 0, .slice none 0 0] 57)).cells
  obtain ⟨a0, a1, a2, a3⟩ := h.cells
  have d0 : ((ones : Int) == 6) = true := by simp; omega
  have d1 : (ones == 6) = true := by simp; omega
  have HAT := Aside0.mk ((hA1.set0 (.slice A1 (m + 1) c1)).set1 0)
  have HX2 := Aside0.mk (blk_far (p := ⟨g, 1, none⟩) (blk_far (p := ⟨g, 0, none⟩) hx1 (by show w.heap.size ≠ g; omega) (.slice A1 (m + 1) c1)) (by show w.heap.size ≠ g; omega) (.int .i64 0))
  have HNE := Aside0.mk (show w.heap.size ≠ g by omega)
  have HRD := Aside0.mk (reads_only hr1 ((((Only.refl (fun k => k = g) w1).set rfl (.slice A1 (m + 1) c1)).set rfl (.int .i64 0)) : Only (fun k => k = g) w1 ((w1.setCell ⟨g, 0, none⟩ (.slice A1 (m + 1) c1)).setCell ⟨g, 1, none⟩ (.int .i64 0))) (fun ad e _ hp => hgP (hp ▸ hd1 ad e)))
  have HA0 := Aside0.mk (h.alloc (.cells #[.int .u8 0, .slice none 0 0] 57))
  have HR := Aside0.mk hrun
  have HA1 := Aside0.mk hA1
  have HX1 := Aside0.mk hx1
  have HS1 := Aside0.mk hS1
  have HO01 := Aside0.mk hO01
  have HNB := Aside0.mk hnb
  have HR1 := Aside0.mk hr1
  have HC1 := Aside0.mk hc1
  have HD1 := Aside0.mk hd1
  have HSZ := Aside0.mk (show w.heap.size + 2 ≤ w1.heap.size by omega)
  have HNL := Aside0.mk hnl
  clear hrun hA1 hx1 hS1 hO1 hO01 hnb hr1 hc1 hr0 hx0 hO0 hS h y2 hs0 hsz1 hnl hd1 hm hgP hbw
  go_enter Try.func27, Try.ntmps27
  go_wp2_with (first
  | ((with_reducible refine gate_callee (f := 26) rfl ?_); refine goesL_ (some 11) rfl rfl Try.func26 (by kernel_rfl) rfl #[.pointer (some ⟨g, 0, none⟩)] rfl (by (try simp only [List.map_toArray, List.map_cons, List.map_nil]); first | done | rfl | (simp [Act.eval, *]; done)) ?_; (with_reducible refine (counting_calls g (.slice A m c) ones n true _ HA0.out).mono ?_); rintro e w9 ⟨rfl, rfl⟩; refine ⟨_, rfl, ?_⟩)
  | ((with_reducible refine gate_builtin (b := .append) (xs := #[.tmp 21, .tmp 23]) rfl ?_); refine wpList_append_run rfl (.tmp 21) (.tmp 23) 27 rfl (.slice A m c) (.slice (some ⟨w.heap.size + 1, 0, none⟩) 1 1) rfl rfl (.slice A1 (m + 1) c1) w1 HR.out ?_)
  | ((with_reducible refine gate_callee (f := 41) rfl ?_); refine goesL_ (some 53) rfl rfl Try.func41 (by kernel_rfl) rfl #[.pointer (some ⟨g, 0, none⟩)] rfl (by (try simp only [List.map_toArray, List.map_cons, List.map_nil]); first | done | rfl | (simp [Act.eval, *]; done)) ?_; (with_reducible refine (flag_short g A1 (m + 1) c1 0 n true _ HAT.out (by omega)).mono ?_); rintro e w3 ⟨rfl, hA, hO⟩; refine ⟨_, rfl, ?_⟩; have HO3 := Aside0.mk hO; have hx3 := block_cells HX2.out hO (fun e => HNE.out e); obtain ⟨q0, q1, q2⟩ := two_cells hx3; have q20 := q2 0; have q21 := q2 1; have HX3 := Aside0.mk hx3; have HA3 := Aside0.mk hA; clear hO hx3 hA q2))
  obtain ⟨z0, z1, _⟩ := two_cells (two_sets HX3.out (.int .u8 0) (.slice none 0 0))
  have hsz := HSZ.out
  have hO3 := HO3.out
  have hs3 := hO3.size
  rw [set_size, set_size] at hs3
  have hOw : Only (fun k => k = g ∨ P k) w w3 := by
    have h2 := (HO01.out.set (p := ⟨g, 0, none⟩) (Or.inl rfl) (.slice A1 (m + 1) c1)).set (p := ⟨g, 1, none⟩) (Or.inl rfl) (.int .i64 0)
    have hh : w.heap.size ≤ w1.heap.size := by omega
    exact ⟨hO3.os.trans h2.os, hO3.tape.trans h2.tape, hO3.output.trans h2.output, by omega, fun k hk hn => (hO3.block k (by rw [set_size, set_size]; omega) (fun e => hn (Or.inl e))).trans (h2.block k hk hn)⟩
  refine bodyPost_ret (v := .tuple #[.agg #[.int .u8 0, (.slice none 0 0)], .bool false]) (by simp [results, Try.results27, go_sem, z0, z1]) rfl ⟨rfl, ?_, ?_⟩
  · exact (HA3.out.far (by show g ≠ w.heap.size; omega) _).far (by show g ≠ w.heap.size; omega) _
  · exact only_far (only_far hOw (Nat.le_refl _) _) (Nat.le_refl _) _
set_option maxHeartbeats 8000000 in
set_option maxRecDepth 100000 in
theorem bit_flag_wrong {J : List Bool → Option (List Int)} (HJ : JudgeOk J) (g m c : Nat) (A : Option Addr) (inb : List Bool) (ones n : Nat) (P : Nat → Prop) (w : World) (h : At w g (.slice A m c) ones true n) (hm : m = inb.length) (hm2 : m ≤ 2700) (hP : ∀ k, P k → k ≠ g ∧ k < w.heap.size) (hS : Spare w P (.slice A m c) inb) (ho : ones = 6) (hl : 8 < m + 1) (hJ : J ((inb ++ [false]).take (m + 1 - 8)) = none) :
    Calls Try.prog 27 #[.pointer (some ⟨g, 0, none⟩), .bool false] w fun e w' => e = .returned (.tuple #[.agg #[.int .u8 1, .slice none 0 0], .bool true]) ∧ At w' g (.slice none 0 0) 0 true n ∧ Only (fun k => k = g ∨ P k) w w' := by
  have hg := h.lt
  have hO0 : Only (fun _ => False) w ((w.alloc (.cells #[.int .u8 0, .slice none 0 0] 57)).alloc (.cells #[.bool false] 4)) := only_alloc (only_alloc (Only.refl _ w) _) _
  have hs0 : ((w.alloc (.cells #[.int .u8 0, .slice none 0 0] 57)).alloc (.cells #[.bool false] 4)).heap.size = w.heap.size + 2 := by simp [World.alloc_eq]
  have hr0 : ReadsOf Value.bool false ((w.alloc (.cells #[.int .u8 0, .slice none 0 0] 57)).alloc (.cells #[.bool false] 4)) (some ⟨w.heap.size + 1, 0, none⟩) 1 [false] := by
    refine ⟨rfl, by simp, fun _ => ⟨_, rfl, fun j hj => ?_⟩⟩
    obtain rfl : j = 0 := by omega
    have hs1 : (w.alloc (.cells #[.int .u8 0, .slice none 0 0] 57)).heap.size = w.heap.size + 1 := by simp [World.alloc_eq]
    rw [Addr.add_lit, ← hs1, World.cell?_alloc_mark]
    rfl
  obtain ⟨v1, w1, hrun, hS1, hO1⟩ := append_spare 27 Try.underlying27 27 (fun k => P k ∨ w.heap.size + 2 ≤ k) (.slice A m c) inb [false] (some ⟨w.heap.size + 1, 0, none⟩) 1 ((w.alloc (.cells #[.int .u8 0, .slice none 0 0] 57)).alloc (.cells #[.bool false] 4)) ((hS.only hO0 (fun _ _ _ h => h)).mono (fun k hk _ => Or.inl hk)) hr0 (by simp; omega) (fun k hk => Or.inr (by omega))
  obtain ⟨A1, c1, rfl, hc1, hr1, hd1⟩ := hS1.reads
  obtain ⟨nb, hnb⟩ : ∃ nb, nb = inb ++ [false] := ⟨_, rfl⟩
  have hnl : nb.length = m + 1 := by rw [hnb, hm]; simp
  rw [← hnb] at hrun hS1 hc1 hr1
  rw [hnl] at hrun hS1 hc1 hr1
  have hgP : ¬ (P g ∨ w.heap.size + 2 ≤ g) := fun hp => hp.elim (fun hp => (hP g hp).1 rfl) (fun hp => by omega)
  have hA1 : At w1 g (.slice A m c) ones true n := (((h.alloc _).alloc _).only hO1 hgP)
  have hbw : ¬ (P w.heap.size ∨ w.heap.size + 2 ≤ w.heap.size) := fun hp => hp.elim (fun hp => by have := hP _ hp; omega) (fun hp => by omega)
  have hx0 : ((w.alloc (.cells #[.int .u8 0, .slice none 0 0] 57)).alloc (.cells #[.bool false] 4)).heap[w.heap.size]? = some (.cells #[.int .u8 0, .slice none 0 0] 57 (0, 0)) := (Below.heap_alloc _ _ _ (by simp [World.alloc_eq])).trans (boxed2 w _ _ 57)
  have hx1 := block_cells hx0 hO1 hbw
  obtain ⟨y0, y1, y2⟩ := two_cells hx1
  have y20 := y2 0
  have y21 := y2 1
  have hsz1 := hO1.size
  obtain ⟨c0, c1', c2, c3⟩ := hA1.cells
  have f0 := hA1.frozen 0
  have f1 := hA1.frozen 1
  have f2 := hA1.frozen 2
  have f3 := hA1.frozen 3
  have hO01 : Only (fun k => k = g ∨ P k) w w1 := ⟨hO1.os.trans hO0.os, hO1.tape.trans hO0.tape, hO1.output.trans hO0.output, by omega, fun k hk hn => (hO1.block k (by omega) (fun hp => hp.elim (fun hp => hn (Or.inr hp)) (fun hp => by omega))).trans (hO0.block k hk (fun h => h))⟩
  obtain ⟨e0, e1, e2, e3⟩ := (((h.alloc (.cells #[.int .u8 0, .slice none 0 0] 57)).alloc (.cells #[.bool false] 4))).cells
  obtain ⟨b0, b1, b2, b3⟩ := (h.alloc (.cells #[.int .u8 0, .slice none 0 0] 57)).cells
  obtain ⟨a0, a1, a2, a3⟩ := h.cells
  have d0 : ((ones : Int) == 6) = true := by simp; omega
  have d1 : (ones == 6) = true := by simp; omega
  have HAT := Aside0.mk ((hA1.set0 (.slice A1 (m + 1) c1)).set1 0)
  have HX2 := Aside0.mk (blk_far (p := ⟨g, 1, none⟩) (blk_far (p := ⟨g, 0, none⟩) hx1 (by show w.heap.size ≠ g; omega) (.slice A1 (m + 1) c1)) (by show w.heap.size ≠ g; omega) (.int .i64 0))
  have HNE := Aside0.mk (show w.heap.size ≠ g by omega)
  have HRD := Aside0.mk (reads_only hr1 ((((Only.refl (fun k => k = g) w1).set rfl (.slice A1 (m + 1) c1)).set rfl (.int .i64 0)) : Only (fun k => k = g) w1 ((w1.setCell ⟨g, 0, none⟩ (.slice A1 (m + 1) c1)).setCell ⟨g, 1, none⟩ (.int .i64 0))) (fun ad e _ hp => hgP (hp ▸ hd1 ad e)))
  have HNA := Aside0.mk (show ∀ ad, A1 = some ad → ad.block ≠ g from fun ad e e2 => hgP (by have h_ := hd1 ad e; rw [e2] at h_; exact h_))
  have HJT := Aside0.mk (hnb ▸ hJ)
  have HA0 := Aside0.mk (h.alloc (.cells #[.int .u8 0, .slice none 0 0] 57))
  have HR := Aside0.mk hrun
  have HA1 := Aside0.mk hA1
  have HX1 := Aside0.mk hx1
  have HS1 := Aside0.mk hS1
  have HO01 := Aside0.mk hO01
  have HNB := Aside0.mk hnb
  have HR1 := Aside0.mk hr1
  have HC1 := Aside0.mk hc1
  have HD1 := Aside0.mk hd1
  have HSZ := Aside0.mk (show w.heap.size + 2 ≤ w1.heap.size by omega)
  have HNL := Aside0.mk hnl
  clear hrun hA1 hx1 hS1 hO1 hO01 hnb hr1 hc1 hr0 hx0 hO0 hS h y2 hs0 hsz1 hnl hd1 hm hgP hbw
  go_enter Try.func27, Try.ntmps27
  go_wp2_with (first
  | ((with_reducible refine gate_callee (f := 26) rfl ?_); refine goesL_ (some 11) rfl rfl Try.func26 (by kernel_rfl) rfl #[.pointer (some ⟨g, 0, none⟩)] rfl (by (try simp only [List.map_toArray, List.map_cons, List.map_nil]); first | done | rfl | (simp [Act.eval, *]; done)) ?_; (with_reducible refine (counting_calls g (.slice A m c) ones n true _ HA0.out).mono ?_); rintro e w9 ⟨rfl, rfl⟩; refine ⟨_, rfl, ?_⟩)
  | ((with_reducible refine gate_builtin (b := .append) (xs := #[.tmp 21, .tmp 23]) rfl ?_); refine wpList_append_run rfl (.tmp 21) (.tmp 23) 27 rfl (.slice A m c) (.slice (some ⟨w.heap.size + 1, 0, none⟩) 1 1) rfl rfl (.slice A1 (m + 1) c1) w1 HR.out ?_)
  | ((with_reducible refine gate_callee (f := 41) rfl ?_); refine goesL_ (some 53) rfl rfl Try.func41 (by kernel_rfl) rfl #[.pointer (some ⟨g, 0, none⟩)] rfl (by (try simp only [List.map_toArray, List.map_cons, List.map_nil]); first | done | rfl | (simp [Act.eval, *]; done)) ?_; (with_reducible refine (flag_wrong HJ g A1 (m + 1) c1 nb 0 n true _ HAT.out (by omega) HNL.out.symm (by omega) HC1.out HRD.out HNA.out HJT.out).mono ?_); rintro e w3 ⟨rfl, hA, hO⟩; refine ⟨_, rfl, ?_⟩; have HO3 := Aside0.mk hO; have hx3 := block_cells HX2.out hO (fun e => HNE.out e); obtain ⟨q0, q1, q2⟩ := two_cells hx3; have q20 := q2 0; have q21 := q2 1; have HX3 := Aside0.mk hx3; have HA3 := Aside0.mk hA; clear hO hx3 hA q2))
  obtain ⟨z0, z1, _⟩ := two_cells (two_sets HX3.out (.int .u8 1) (.slice none 0 0))
  have hsz := HSZ.out
  have hO3 := HO3.out
  have hs3 := hO3.size
  rw [set_size, set_size] at hs3
  have hOw : Only (fun k => k = g ∨ P k) w w3 := by
    have h2 := (HO01.out.set (p := ⟨g, 0, none⟩) (Or.inl rfl) (.slice A1 (m + 1) c1)).set (p := ⟨g, 1, none⟩) (Or.inl rfl) (.int .i64 0)
    have hh : w.heap.size ≤ w1.heap.size := by omega
    exact ⟨hO3.os.trans h2.os, hO3.tape.trans h2.tape, hO3.output.trans h2.output, by omega, fun k hk hn => (hO3.block k (by rw [set_size, set_size]; omega) (fun e => hn (Or.inl e))).trans (h2.block k hk hn)⟩
  refine bodyPost_ret (v := .tuple #[.agg #[.int .u8 1, (.slice none 0 0)], .bool true]) (by simp [results, Try.results27, go_sem, z0, z1]) rfl ⟨rfl, ?_, ?_⟩
  · exact (HA3.out.far (by show g ≠ w.heap.size; omega) _).far (by show g ≠ w.heap.size; omega) _
  · exact only_far (only_far hOw (Nat.le_refl _) _) (Nat.le_refl _) _
set_option maxHeartbeats 8000000 in
set_option maxRecDepth 100000 in
theorem bit_flag_right {J : List Bool → Option (List Int)} (HJ : JudgeOk J) (g m c : Nat) (A : Option Addr) (inb : List Bool) (ones n : Nat) (P : Nat → Prop) (w : World) (h : At w g (.slice A m c) ones true n) (hm : m = inb.length) (hm2 : m ≤ 2700) (hP : ∀ k, P k → k ≠ g ∧ k < w.heap.size) (hS : Spare w P (.slice A m c) inb) (ho : ones = 6) (hl : 8 < m + 1) (p : List Int) (hJ : J ((inb ++ [false]).take (m + 1 - 8)) = some p) :
    Calls Try.prog 27 #[.pointer (some ⟨g, 0, none⟩), .bool false] w fun e w' => ∃ v, e = .returned (.tuple #[.agg #[.int .u8 0, v], .bool true]) ∧ Kd.R (Kd.int .u8) 5 w' w.heap.size (fun k => w.heap.size ≤ k ∧ k < w'.heap.size) v p ∧ At w' g (.slice none 0 0) 0 true n ∧ Only (fun k => k = g ∨ P k) w w' := by
  have hg := h.lt
  have hO0 : Only (fun _ => False) w ((w.alloc (.cells #[.int .u8 0, .slice none 0 0] 57)).alloc (.cells #[.bool false] 4)) := only_alloc (only_alloc (Only.refl _ w) _) _
  have hs0 : ((w.alloc (.cells #[.int .u8 0, .slice none 0 0] 57)).alloc (.cells #[.bool false] 4)).heap.size = w.heap.size + 2 := by simp [World.alloc_eq]
  have hr0 : ReadsOf Value.bool false ((w.alloc (.cells #[.int .u8 0, .slice none 0 0] 57)).alloc (.cells #[.bool false] 4)) (some ⟨w.heap.size + 1, 0, none⟩) 1 [false] := by
    refine ⟨rfl, by simp, fun _ => ⟨_, rfl, fun j hj => ?_⟩⟩
    obtain rfl : j = 0 := by omega
    have hs1 : (w.alloc (.cells #[.int .u8 0, .slice none 0 0] 57)).heap.size = w.heap.size + 1 := by simp [World.alloc_eq]
    rw [Addr.add_lit, ← hs1, World.cell?_alloc_mark]
    rfl
  obtain ⟨v1, w1, hrun, hS1, hO1⟩ := append_spare 27 Try.underlying27 27 (fun k => P k ∨ w.heap.size + 2 ≤ k) (.slice A m c) inb [false] (some ⟨w.heap.size + 1, 0, none⟩) 1 ((w.alloc (.cells #[.int .u8 0, .slice none 0 0] 57)).alloc (.cells #[.bool false] 4)) ((hS.only hO0 (fun _ _ _ h => h)).mono (fun k hk _ => Or.inl hk)) hr0 (by simp; omega) (fun k hk => Or.inr (by omega))
  obtain ⟨A1, c1, rfl, hc1, hr1, hd1⟩ := hS1.reads
  obtain ⟨nb, hnb⟩ : ∃ nb, nb = inb ++ [false] := ⟨_, rfl⟩
  have hnl : nb.length = m + 1 := by rw [hnb, hm]; simp
  rw [← hnb] at hrun hS1 hc1 hr1
  rw [hnl] at hrun hS1 hc1 hr1
  have hgP : ¬ (P g ∨ w.heap.size + 2 ≤ g) := fun hp => hp.elim (fun hp => (hP g hp).1 rfl) (fun hp => by omega)
  have hA1 : At w1 g (.slice A m c) ones true n := (((h.alloc _).alloc _).only hO1 hgP)
  have hbw : ¬ (P w.heap.size ∨ w.heap.size + 2 ≤ w.heap.size) := fun hp => hp.elim (fun hp => by have := hP _ hp; omega) (fun hp => by omega)
  have hx0 : ((w.alloc (.cells #[.int .u8 0, .slice none 0 0] 57)).alloc (.cells #[.bool false] 4)).heap[w.heap.size]? = some (.cells #[.int .u8 0, .slice none 0 0] 57 (0, 0)) := (Below.heap_alloc _ _ _ (by simp [World.alloc_eq])).trans (boxed2 w _ _ 57)
  have hx1 := block_cells hx0 hO1 hbw
  obtain ⟨y0, y1, y2⟩ := two_cells hx1
  have y20 := y2 0
  have y21 := y2 1
  have hsz1 := hO1.size
  obtain ⟨c0, c1', c2, c3⟩ := hA1.cells
  have f0 := hA1.frozen 0
  have f1 := hA1.frozen 1
  have f2 := hA1.frozen 2
  have f3 := hA1.frozen 3
  have hO01 : Only (fun k => k = g ∨ P k) w w1 := ⟨hO1.os.trans hO0.os, hO1.tape.trans hO0.tape, hO1.output.trans hO0.output, by omega, fun k hk hn => (hO1.block k (by omega) (fun hp => hp.elim (fun hp => hn (Or.inr hp)) (fun hp => by omega))).trans (hO0.block k hk (fun h => h))⟩
  obtain ⟨e0, e1, e2, e3⟩ := (((h.alloc (.cells #[.int .u8 0, .slice none 0 0] 57)).alloc (.cells #[.bool false] 4))).cells
  obtain ⟨b0, b1, b2, b3⟩ := (h.alloc (.cells #[.int .u8 0, .slice none 0 0] 57)).cells
  obtain ⟨a0, a1, a2, a3⟩ := h.cells
  have d0 : ((ones : Int) == 6) = true := by simp; omega
  have d1 : (ones == 6) = true := by simp; omega
  have HAT := Aside0.mk ((hA1.set0 (.slice A1 (m + 1) c1)).set1 0)
  have HX2 := Aside0.mk (blk_far (p := ⟨g, 1, none⟩) (blk_far (p := ⟨g, 0, none⟩) hx1 (by show w.heap.size ≠ g; omega) (.slice A1 (m + 1) c1)) (by show w.heap.size ≠ g; omega) (.int .i64 0))
  have HNE := Aside0.mk (show w.heap.size ≠ g by omega)
  have HRD := Aside0.mk (reads_only hr1 ((((Only.refl (fun k => k = g) w1).set rfl (.slice A1 (m + 1) c1)).set rfl (.int .i64 0)) : Only (fun k => k = g) w1 ((w1.setCell ⟨g, 0, none⟩ (.slice A1 (m + 1) c1)).setCell ⟨g, 1, none⟩ (.int .i64 0))) (fun ad e _ hp => hgP (hp ▸ hd1 ad e)))
  have HNA := Aside0.mk (show ∀ ad, A1 = some ad → ad.block ≠ g from fun ad e e2 => hgP (by have h_ := hd1 ad e; rw [e2] at h_; exact h_))
  have HJT := Aside0.mk (hnb ▸ hJ)
  have HA0 := Aside0.mk (h.alloc (.cells #[.int .u8 0, .slice none 0 0] 57))
  have HR := Aside0.mk hrun
  have HA1 := Aside0.mk hA1
  have HX1 := Aside0.mk hx1
  have HS1 := Aside0.mk hS1
  have HO01 := Aside0.mk hO01
  have HNB := Aside0.mk hnb
  have HR1 := Aside0.mk hr1
  have HC1 := Aside0.mk hc1
  have HD1 := Aside0.mk hd1
  have HSZ := Aside0.mk (show w.heap.size + 2 ≤ w1.heap.size by omega)
  have HNL := Aside0.mk hnl
  clear hrun hA1 hx1 hS1 hO1 hO01 hnb hr1 hc1 hr0 hx0 hO0 hS h y2 hs0 hsz1 hnl hd1 hm hgP hbw
  go_enter Try.func27, Try.ntmps27
  go_wp2_with (first
  | ((with_reducible refine gate_callee (f := 26) rfl ?_); refine goesL_ (some 11) rfl rfl Try.func26 (by kernel_rfl) rfl #[.pointer (some ⟨g, 0, none⟩)] rfl (by (try simp only [List.map_toArray, List.map_cons, List.map_nil]); first | done | rfl | (simp [Act.eval, *]; done)) ?_; (with_reducible refine (counting_calls g (.slice A m c) ones n true _ HA0.out).mono ?_); rintro e w9 ⟨rfl, rfl⟩; refine ⟨_, rfl, ?_⟩)
  | ((with_reducible refine gate_builtin (b := .append) (xs := #[.tmp 21, .tmp 23]) rfl ?_); refine wpList_append_run rfl (.tmp 21) (.tmp 23) 27 rfl (.slice A m c) (.slice (some ⟨w.heap.size + 1, 0, none⟩) 1 1) rfl rfl (.slice A1 (m + 1) c1) w1 HR.out ?_)
  | ((with_reducible refine gate_callee (f := 41) rfl ?_); refine goesL_ (some 53) rfl rfl Try.func41 (by kernel_rfl) rfl #[.pointer (some ⟨g, 0, none⟩)] rfl (by (try simp only [List.map_toArray, List.map_cons, List.map_nil]); first | done | rfl | (simp [Act.eval, *]; done)) ?_; (with_reducible refine (flag_right HJ g A1 (m + 1) c1 nb 0 n true _ HAT.out (by omega) HNL.out.symm (by omega) HC1.out HRD.out HNA.out p HJT.out).mono ?_); rintro e w3 ⟨v, rfl, hR, hA, hO⟩; obtain ⟨Av, cv, rfl⟩ := Kd.R_slice hR; refine ⟨_, rfl, ?_⟩; have HR3 := Aside0.mk hR; have HO3 := Aside0.mk hO; have hx3 := block_cells HX2.out hO (fun e => HNE.out e); obtain ⟨q0, q1, q2⟩ := two_cells hx3; have q20 := q2 0; have q21 := q2 1; have HX3 := Aside0.mk hx3; have HA3 := Aside0.mk hA; clear hO hx3 hA q2 hR))
  obtain ⟨z0, z1, _⟩ := two_cells (two_sets HX3.out (.int .u8 0) (.slice Av p.length cv))
  have hsz := HSZ.out
  have hO3 := HO3.out
  have hs3 := hO3.size
  rw [set_size, set_size] at hs3
  have hOw : Only (fun k => k = g ∨ P k) w w3 := by
    have h2 := (HO01.out.set (p := ⟨g, 0, none⟩) (Or.inl rfl) (.slice A1 (m + 1) c1)).set (p := ⟨g, 1, none⟩) (Or.inl rfl) (.int .i64 0)
    have hh : w.heap.size ≤ w1.heap.size := by omega
    exact ⟨hO3.os.trans h2.os, hO3.tape.trans h2.tape, hO3.output.trans h2.output, by omega, fun k hk hn => (hO3.block k (by rw [set_size, set_size]; omega) (fun e => hn (Or.inl e))).trans (h2.block k hk hn)⟩
  refine bodyPost_ret (v := .tuple #[.agg #[.int .u8 0, (.slice Av p.length cv)], .bool true]) (by simp [results, Try.results27, go_sem, z0, z1]) rfl ⟨_, rfl, ?_, ?_, ?_⟩
  · have h1 := Kd.R_bound HR3.out
    have hsw : ((w1.setCell ⟨g, 0, none⟩ (.slice A1 (m + 1) c1)).setCell ⟨g, 1, none⟩ (.int .i64 0)).heap.size = w1.heap.size := by rw [set_size, set_size]
    refine Kd.R_mono (Kd.R_lower (Kd.R_step (Kd.R_step h1 (w1 := w3.setCell ⟨w.heap.size, 0, none⟩ (.int .u8 0)) (fun k hk _ => Below.heap_setCell w3 _ _ k ?_)) (w1 := (w3.setCell ⟨w.heap.size, 0, none⟩ (.int .u8 0)).setCell ⟨w.heap.size, 1, none⟩ (.slice Av p.length cv)) (fun k hk _ => Below.heap_setCell _ _ _ k ?_)) (by omega)) (fun k hk => ?_)
    · have := hk.2.1; show k ≠ w.heap.size; omega
    · have := hk.2.1; show k ≠ w.heap.size; omega
    · rw [set_size, set_size]
      have := hk.2.1; have := hk.2.2.1; exact ⟨by omega, by omega⟩
  · exact (HA3.out.far (by show g ≠ w.heap.size; omega) _).far (by show g ≠ w.heap.size; omega) _
  · exact only_far (only_far hOw (Nat.le_refl _) _) (Nat.le_refl _) _
end Go.Proofs.Ytonhgiclaieamaa.Ear
