/- The wire's example in the laws (signalmanlaw20.awake), walked. No condition. Written by hand for this claim. -/
import Derived.Test.YtaiallgcobpkaaaWirePass
namespace Go.Proofs.Ytaiallgcobpkaaa.Wire
open Go Go.RowKit Go.Proofs.Ytaiallgcobpkaaa Go.Proofs.YtaiallgcobpkaaaW.PrintWords Go.Proofs.YtaiallgcobpkaaaW.PrintLast Go.Proofs.YtaiallgcobpkaaaW.PrintMore Go.Proofs.Ytaiallgcobpkaaa.Base
set_option linter.unusedVariables false
set_option linter.unusedSimpArgs false
theorem Is.new {w : World} {g gl d : Nat} (hne : gl ≠ g) (hA : At w g (.slice (some ⟨gl, 0, none⟩) d d) (.slice none 0 0) 0 0 0) (hR : Row w gl (List.replicate d false)) : Is w g gl (List.replicate d false) 0 [] 0 0 :=
  ⟨hne, ⟨_, by rw [List.length_replicate]; exact hA, Mask.nil _ _ _ _ _⟩, hR, by rw [List.length_replicate]; omega⟩
theorem new_one (w : World) : Calls Try.prog 9 #[.int .i64 1] w fun e w' => ∃ g gl, e = .returned (.tuple #[.pointer (some ⟨g, 0, none⟩), .int .i64 0]) ∧ w.heap.size ≤ g ∧ w.heap.size ≤ gl ∧ Is w' g gl [false] 0 [] 0 0 ∧ Below w.heap.size w w' := by
  refine (new_calls 1 (by decide) w).mono ?_
  rintro e w1 ⟨g, gl, rfl, hne, hg, hgl, hg1, hgl1, hA, hR, hb⟩
  exact ⟨g, gl, rfl, hg, hgl, Is.new hne hA hR, hb⟩
theorem pass_true {w : World} {g gl : Nat} (h : Is w g gl [false] 0 [] 0 0) : Calls Try.prog 11 #[.pointer (some ⟨g, 0, none⟩), .bool true] w fun e w' => e = .returned (.bool false) ∧ Is w' g gl [true] 0 [] 0 0 ∧ Only (fun k => k = g ∨ k = gl) w w' := pass_calls h (by decide) (by decide) (by decide) true
theorem pass_false {w : World} {g gl : Nat} (h : Is w g gl [true] 0 [] 0 0) : Calls Try.prog 11 #[.pointer (some ⟨g, 0, none⟩), .bool false] w fun e w' => e = .returned (.bool true) ∧ Is w' g gl [false] 0 [] 0 0 ∧ Only (fun k => k = g ∨ k = gl) w w' := pass_calls h (by decide) (by decide) (by decide) false
set_option maxHeartbeats 8000000 in
set_option maxRecDepth 100000 in
theorem awake_calls (w : World) : Calls Try.prog 8 #[] w fun e w' => e = .returned (.bool true) ∧ Below w.heap.size w w' := by
  go_enter Try.func8, Try.ntmps8
  go_wp2_with (first
  | ((with_reducible refine gate_callee (f := 9) rfl ?_); refine goesL_ (some 4) rfl rfl Try.func9 (by kernel_rfl) rfl #[.int .i64 1] rfl (by (try simp only [List.map_toArray, List.map_cons, List.map_nil]); first | done | rfl | (simp [Act.eval, *]; done)) ?_; (with_reducible refine (new_one _).mono ?_); rintro e w1 ⟨g, gl, rfl, hg, hgl, hI, hb⟩; refine ⟨_, rfl, ?_⟩; have HI := Aside0.mk hI; have HG := Aside0.mk hg; have HL := Aside0.mk hgl; have HB := Aside0.mk hb; have HS := Aside0.mk hb.size; clear hg hgl hI hb)
  | ((with_reducible refine gate_callee (f := 11) rfl ?_); (try (refine gate_guard (by rfl) ?_; dsimp only)); refine goesL_ (some 14) rfl rfl Try.func11 (by kernel_rfl) rfl #[.pointer (some ⟨g, 0, none⟩), .bool true] rfl (by (try simp only [List.map_toArray, List.map_cons, List.map_nil]); first | done | rfl | (simp [Act.eval, *]; done)) ?_; (with_reducible refine (pass_true HI.out).mono ?_); rintro e w2 ⟨rfl, hI, ho⟩; refine ⟨_, rfl, ?_⟩; have HI2 := Aside0.mk hI; have HB2 := Aside0.mk (ho.below (B := w.heap.size) (fun k hk => hk.elim (fun e => e ▸ HG.out) (fun e => e ▸ HL.out)) HB.out HS.out); have HS2 := Aside0.mk (Nat.le_trans HS.out ho.size); clear hI ho)
  | ((with_reducible refine gate_callee (f := 11) rfl ?_); (try (refine gate_guard (by rfl) ?_; dsimp only)); refine goesL_ (some 18) rfl rfl Try.func11 (by kernel_rfl) rfl #[.pointer (some ⟨g, 0, none⟩), .bool false] rfl (by (try simp only [List.map_toArray, List.map_cons, List.map_nil]); first | done | rfl | (simp [Act.eval, *]; done)) ?_; (with_reducible refine (pass_false HI2.out).mono ?_); rintro e w3 ⟨rfl, hI, ho⟩; refine ⟨_, rfl, ?_⟩; have HB3 := Aside0.mk (ho.below (B := w.heap.size) (fun k hk => hk.elim (fun e => e ▸ HG.out) (fun e => e ▸ HL.out)) HB2.out HS2.out); clear hI ho))
  go_ret
  exact ⟨rfl, HB3.out⟩
theorem new_none (w : World) : Calls Try.prog 9 #[.int .i64 0] w fun e w' => ∃ g gl, e = .returned (.tuple #[.pointer (some ⟨g, 0, none⟩), .int .i64 0]) ∧ w.heap.size ≤ g ∧ w.heap.size ≤ gl ∧ Is w' g gl [] 0 [] 0 0 ∧ Below w.heap.size w w' := by
  refine (new_calls 0 (by decide) w).mono ?_
  rintro e w1 ⟨g, gl, rfl, hne, hg, hgl, hg1, hgl1, hA, hR, hb⟩
  exact ⟨g, gl, rfl, hg, hgl, Is.new hne hA hR, hb⟩
theorem new_is (d : Nat) (hd : d ≤ 65536) (w : World) : Calls Try.prog 9 #[.int .i64 (d : Int)] w fun e w' => ∃ g gl, e = .returned (.tuple #[.pointer (some ⟨g, 0, none⟩), .int .i64 0]) ∧ w.heap.size ≤ g ∧ w.heap.size ≤ gl ∧ Is w' g gl (List.replicate d false) 0 [] 0 0 ∧ Below w.heap.size w w' := by
  refine (new_calls d hd w).mono ?_
  rintro e w1 ⟨g, gl, rfl, hne, hg, hgl, hg1, hgl1, hA, hR, hb⟩
  exact ⟨g, gl, rfl, hg, hgl, Is.new hne hA hR, hb⟩
theorem break_is {w : World} {g gl : Nat} {l : List Bool} {i : Nat} {mask : List Bool} {ones bent n : Nat} (h : Is w g gl l i mask ones bent) (h1 : 7 ≤ n) (h2 : ones + n ≤ 65536) :
    Calls Try.prog 15 #[.pointer (some ⟨g, 0, none⟩), .int .i64 (n : Int)] w fun e w' => e = .returned (.int .i64 0) ∧ Is w' g gl l i mask (ones + n) bent ∧ Only (fun k => k = g) w w' := by
  obtain ⟨hne, ⟨vm, hA, A, c, rfl, hc, hr, hd⟩, hrow, hidx⟩ := h
  refine (break_calls g _ _ i bent ones n w hA h1 h2).mono ?_
  rintro e w' ⟨rfl, hA', ho⟩
  exact ⟨rfl, ⟨hne, ⟨_, hA', A, c, rfl, hc, reads_only hr ho (fun ad e hn hp => (hd ad e hn).1 hp), hd⟩, hrow.only ho hne, hidx⟩, ho⟩
theorem bent_is {w : World} {g gl : Nat} {l : List Bool} {i : Nat} {mask : List Bool} {ones bent : Nat} (h : Is w g gl l i mask ones bent) : Calls Try.prog 13 #[.pointer (some ⟨g, 0, none⟩)] w fun e w' => e = .returned (.int .i64 bent) ∧ w' = w := by
  obtain ⟨hne, ⟨vm, hA, _⟩, _, _⟩ := h
  exact bent_calls g _ _ _ _ _ w hA
theorem delay_is {w : World} {g gl : Nat} {l : List Bool} {i : Nat} {mask : List Bool} {ones bent : Nat} (h : Is w g gl l i mask ones bent) : Calls Try.prog 17 #[.pointer (some ⟨g, 0, none⟩)] w fun e w' => e = .returned (.int .i64 l.length) ∧ w' = w := by
  obtain ⟨hne, ⟨vm, hA, _⟩, _, _⟩ := h
  exact delay_calls g _ _ _ _ _ _ _ w hA
theorem masked_is {w : World} {g gl : Nat} {l : List Bool} {i : Nat} {mask : List Bool} {ones bent : Nat} (h : Is w g gl l i mask ones bent) (hb : mask.length + ones < 4611686018427387904) : Calls Try.prog 16 #[.pointer (some ⟨g, 0, none⟩)] w fun e w' => e = .returned (.int .i64 ((mask.length + ones : Nat) : Int)) ∧ ∃ k, w' = w.drewN k := by
  obtain ⟨hne, ⟨vm, hA, A, c, rfl, hc, hr, hd⟩, _, _⟩ := h
  exact masked_calls g A _ c _ _ _ _ w hA hb
theorem Is.lt {w : World} {g gl : Nat} {l : List Bool} {i : Nat} {mask : List Bool} {ones bent : Nat} (h : Is w g gl l i mask ones bent) : g < w.heap.size ∧ gl < w.heap.size := by
  obtain ⟨hne, ⟨vm, hA, _⟩, hrow, _⟩ := h
  exact ⟨(Array.getElem?_eq_some_iff.1 hA).1, (Array.getElem?_eq_some_iff.1 hrow).1⟩
theorem Is.below {w w' : World} {g gl : Nat} {l : List Bool} {i : Nat} {mask : List Bool} {ones bent : Nat} (h : Is w g gl l i mask ones bent) (hb : Below w.heap.size w w') : Is w' g gl l i mask ones bent := by
  have hlt := h.lt
  refine h.only (P := fun k => w.heap.size ≤ k) ⟨hb.os, hb.tape, hb.output, hb.size, fun k hk _ => hb.block k hk⟩ (by omega) (by omega) (fun k hp hk => by omega)
theorem Is.under {B : Nat} {w w' : World} {g gl : Nat} {l : List Bool} {i ones bent : Nat} (h : Is w g gl l i [] ones bent) (hb : Below B w w') (hg : g < B) (hgl : gl < B) : Is w' g gl l i [] ones bent :=
  h.only (P := fun k => B ≤ k) ⟨hb.os, hb.tape, hb.output, hb.size, fun k hk hn => hb.block k (by omega)⟩ (by omega) (by omega) (fun _ _ _ => rfl)
theorem reads_under {B : Nat} {w w' : World} {A : Option Addr} {n : Nat} {xs : List Bool} (h : ReadsOf Value.bool false w A n xs) (hb : Below B w w') (hA : ∀ ad, A = some ad → 0 < n → ad.block < B) : ReadsOf Value.bool false w' A n xs :=
  reads_only (P := fun k => B ≤ k) h ⟨hb.os, hb.tape, hb.output, hb.size, fun k hk hn => hb.block k (by omega)⟩ (fun ad e hn hp => by have := hA ad e hn; omega)
theorem reads_block {w : World} {A : Option Addr} {n : Nat} {xs : List Bool} (h : ReadsOf Value.bool false w A n xs) : ∀ ad, A = some ad → 0 < n → ad.block < w.heap.size := by
  intro ad e hn
  obtain ⟨a0, e0, hc⟩ := h.2.2 hn
  rw [e] at e0
  obtain rfl := Option.some.inj e0
  have := World.block_lt_of_cell? _ _ (hc 0 hn)
  rwa [add_block] at this
theorem made_C (d : Nat) (hd : d ≤ 65536) (w : World) : Kd.C Kd.bool (w.alloc (.cells (madeCells #[.bool false] d) 4)) (some ⟨w.heap.size, 0, none⟩) d (List.replicate d false) := by
  refine Kd.C_of_reads (enc := Value.bool) (d := false) (h1 := fun _ => rfl) ⟨by simp, by omega, fun _ => ⟨_, rfl, fun j hj => ?_⟩⟩
  rw [Addr.add_lit, World.cell?_alloc_mark, Nat.zero_add, made_row]
  simp [encs, List.getD_eq_getElem?_getD, hj]
/-- A row made later lies apart from the wire. -/
theorem Is.apart {w : World} {g gl : Nat} {l : List Bool} {i : Nat} {mask : List Bool} {ones bent : Nat} (h : Is w g gl l i mask ones bent) {A : Option Addr} {n : Nat} (hf : ∀ ad, A = some ad → 0 < n → w.heap.size ≤ ad.block) : ∀ ad, A = some ad → 0 < n → ad.block ≠ g ∧ ad.block ≠ gl := by
  intro ad e hn
  have := hf ad e hn
  have hlt := h.lt
  exact ⟨by omega, by omega⟩
/-- A row that was made: where it lies, and what it reads. -/
theorem fresh_reads {w : World} {base : Nat} {ok : Nat → Prop} {v : Value} {xs : List Bool} (h : Kd.R Kd.bool 4 w base ok v xs) :
    ∃ A c, v = .slice A xs.length c ∧ xs.length ≤ c ∧ ReadsOf Value.bool false w A xs.length xs ∧ ∀ ad, A = some ad → 0 < xs.length → base ≤ ad.block := by
  obtain ⟨A, c, rfl⟩ := Kd.R_slice h
  have hr := Kd.R_reads' h
  refine ⟨A, c, rfl, hr.2.1, Kd.reads_of_C (h1 := fun _ => rfl) hr.2.2, fun ad e hn => ?_⟩
  have ho := Kd.own_of_R h
  rcases ho.2 with ⟨hv, _⟩ | ⟨g, cap, cur, hv, hb, _⟩
  · subst e
    simp at hv
  · subst e
    simp only [Value.slice.injEq, Option.some.injEq] at hv
    obtain ⟨e1, _⟩ := hv
    rw [e1]; exact hb
end Go.Proofs.Ytaiallgcobpkaaa.Wire
