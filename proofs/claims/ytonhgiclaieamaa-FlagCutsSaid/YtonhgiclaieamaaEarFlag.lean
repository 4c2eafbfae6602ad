/- (*flag.Ear).flag, walked, out of what flag.Judge answers. No condition. Written by hand for this claim. -/
import Derived.Test.YtonhgiclaieamaaEar
namespace Go.Proofs.Ytonhgiclaieamaa.Ear
open Go Go.RowKit Go.Proofs.Ytonhgiclaieamaa Go.Proofs.YtonhgiclaieamaaW.PrintWords Go.Proofs.YtonhgiclaieamaaW.PrintLast Go.Proofs.YtonhgiclaieamaaW.PrintMore Go.Proofs.Ytonhgiclaieamaa.Base Go.Proofs.Ytonhgiclaieamaa.Rowq
set_option linter.unusedVariables false
set_option linter.unusedSimpArgs false
theorem info57 : (Try.prog.info? 57).map (fun i => (i.zero, i.size, i.bytes)) = some (some (.agg #[(.int .u8 0), (.slice none 0 0)]), 2, 32) := by kernel_rfl
/-- What flag.Judge answers to few bits: the octets, or that there are none. -/
def JudgeOk (J : List Bool → Option (List Int)) : Prop := ∀ (w : World) (A : Option Addr) (n c : Nat) (t : List Bool), n = t.length → Kd.C Kd.bool w A n t → n ≤ c → n ≤ 3000 →
  (∀ p, J t = some p → Calls Try.prog 12 #[.slice A n c] w fun e w' => ∃ v, e = .returned (.tuple #[v, .int .i64 0]) ∧ Kd.R (Kd.int .u8) 5 w' w.heap.size (fun _ => True) v p ∧ Below w.heap.size w w') ∧
  (J t = none → Calls Try.prog 12 #[.slice A n c] w fun e w' => ∃ (v : Value) (er : Int), e = .returned (.tuple #[v, .int .i64 er]) ∧ er ≠ 0 ∧ Below w.heap.size w w')
theorem set_size (w : World) (p : Addr) (u : Value) : (w.setCell p u).heap.size = w.heap.size := by simp [World.setCell]
theorem boxed2 (w : World) (c0 c1 : Value) (ty : TypeId) : (w.alloc (.cells #[c0, c1] ty)).heap[w.heap.size]? = some (.cells #[c0, c1] ty (0, 0)) := heap_alloc_new w _
theorem two_cells {w : World} {b : Nat} {c0 c1 : Value} {ty : TypeId} (h : w.heap[b]? = some (.cells #[c0, c1] ty (0, 0))) : w.cell? ⟨b, 0, none⟩ = some c0 ∧ w.cell? ⟨b, 1, none⟩ = some c1 ∧ (∀ j, w.frozen? ⟨b, j, none⟩ = false) := by
  refine ⟨?_, ?_, fun j => ?_⟩ <;> simp [World.cell?, World.frozen?, h]
theorem two_sets {w : World} {b : Nat} {c0 c1 : Value} {ty : TypeId} (h : w.heap[b]? = some (.cells #[c0, c1] ty (0, 0))) (x y : Value) : ((w.setCell ⟨b, 0, none⟩ x).setCell ⟨b, 1, none⟩ y).heap[b]? = some (.cells #[x, y] ty (0, 0)) := by
  have e1 := blk_set h 0 x
  have e2 := blk_set e1 1 y
  exact e2
theorem only_then {P : Nat → Prop} {w W w2 : World} (h : Only P w W) (hb : Below W.heap.size W w2) : Only P w w2 :=
  ⟨hb.os.trans h.os, hb.tape.trans h.tape, hb.output.trans h.output, Nat.le_trans h.size hb.size, fun k hk hn => (hb.block k (by have := h.size; omega)).trans (h.block k hk hn)⟩
set_option maxHeartbeats 8000000 in
set_option maxRecDepth 100000 in
theorem flag_short (g : Nat) (A : Option Addr) (m c : Nat) (ones n : Int) (found : Bool) (w : World) (h : At w g (.slice A m c) ones found n) (hm : m ≤ 8) :
    Calls Try.prog 41 #[.pointer (some ⟨g, 0, none⟩)] w fun e w' => e = .returned (.tuple #[.agg #[.int .u8 0, .slice none 0 0], .bool false]) ∧ At w' g (.slice none 0 0) ones found n ∧ Only (fun k => k = g) w w' := by
  obtain ⟨c0, c1, c2, c3⟩ := h.cells
  have f0 := h.frozen 0
  have d1 : decide ((m : Int) ≤ 8) = true := decide_eq_true (by omega)
  have d2 : decide (m ≤ 8) = true := decide_eq_true (by omega)
  have hg := h.lt
  go_enter Try.func41, Try.ntmps41
  go_wp2
  refine bodyPost_ret (v := .tuple #[.agg #[.int .u8 0, .slice none 0 0], .bool false]) (by simp [results, Try.results41, go_sem]) rfl ⟨rfl, ?_, ?_⟩
  · exact (h.set0 _).alloc _
  · exact only_alloc ((Only.refl (fun k => k = g) w).set rfl _) _
set_option maxHeartbeats 8000000 in
set_option maxRecDepth 100000 in
theorem flag_right {J : List Bool → Option (List Int)} (HJ : JudgeOk J) (g : Nat) (A : Option Addr) (m c : Nat) (t : List Bool) (ones n : Int) (found : Bool) (w : World) (h : At w g (.slice A m c) ones found n) (hm : 8 < m) (hmt : m = t.length) (hm2 : m ≤ 3000) (hc : m ≤ c)
    (hr : ReadsOf Value.bool false w A m t) (hA : ∀ ad, A = some ad → ad.block ≠ g) (p : List Int) (hp : J (t.take (m - 8)) = some p) :
    Calls Try.prog 41 #[.pointer (some ⟨g, 0, none⟩)] w fun e w' => ∃ v, e = .returned (.tuple #[.agg #[.int .u8 0, v], .bool true]) ∧ Kd.R (Kd.int .u8) 5 w' w.heap.size (fun k => w.heap.size ≤ k ∧ k < w'.heap.size) v p ∧ At w' g (.slice none 0 0) ones found n ∧ Only (fun k => k = g) w w' := by
  obtain ⟨c0, c1, c2, c3⟩ := h.cells
  have f0 := h.frozen 0
  have d1 : decide ((m : Int) ≤ 8) = false := decide_eq_false (by omega)
  have d2 : decide (m ≤ 8) = false := decide_eq_false (by omega)
  have hg := h.lt
  obtain ⟨q, hq⟩ : ∃ q, m = q + 8 := ⟨m - 8, by omega⟩
  have hq8 : m - 8 = q := by omega
  rw [hq8] at hp
  obtain ⟨i0, hi0, _, hsz0, _⟩ := info_parts info4
  subst hmt
  obtain ⟨hcq, hAq, hCq⟩ := print_take_of (P := Try.prog) Value.bool false 27 4 .i64 Try.underlying27 hi0 hsz0 A c t (q : Int) (by omega) (by omega) hc
  have hW : Only (fun k => k = g) w ((w.setCell ⟨g, 0, none⟩ (.slice none 0 0)).alloc (.cells #[.int .u8 0, .slice none 0 0] 57)) := only_alloc ((Only.refl (fun k => k = g) w).set rfl _) _
  have hr1 := hAq _ (reads_only hr hW (fun ad e _ => hA ad e))
  rw [Int.toNat_natCast] at hcq hr1 hCq
  have hql : (t.take q).length = q := by rw [List.length_take]; omega
  rw [hql] at hcq hr1 hCq
  have hJ := (HJ ((w.setCell ⟨g, 0, none⟩ (.slice none 0 0)).alloc (.cells #[.int .u8 0, .slice none 0 0] 57)) A q c (t.take q) hql.symm (Kd.C_of_reads (h1 := fun _ => rfl) hr1) hCq (by omega)).1 p hp
  have hbx := boxed2 (w.setCell ⟨g, 0, none⟩ (.slice none 0 0)) (.int .u8 0) (.slice none 0 0) 57
  rw [set_size] at hbx
  have hAt : At ((w.setCell ⟨g, 0, none⟩ (.slice none 0 0)).alloc (.cells #[.int .u8 0, .slice none 0 0] 57)) g (.slice none 0 0) ones found n := (h.set0 _).alloc _
  have hsz : ((w.setCell ⟨g, 0, none⟩ (.slice none 0 0)).alloc (.cells #[.int .u8 0, .slice none 0 0] 57)).heap.size = w.heap.size + 1 := by simp [World.alloc_eq, World.setCell]
  have ew : (t.length : Int) - 8 = (q : Int) := by omega
  have ew2 : IntKind.i64.wrap ((t.length : Int) - 8) = (q : Int) := by rw [IntWalk.i64_in _ (by omega)]; omega
  have ew3 : wrap64 (q : Int) = (q : Int) := by unfold wrap64; omega
  have HJ1 := Aside0.mk hJ
  have HBX := Aside0.mk hbx
  have HAT := Aside0.mk hAt
  have HSZ := Aside0.mk hsz
  have HW := Aside0.mk hW
  clear hJ hbx hAt hsz hW hr1 hAq hql hq hq8 hp hr hi0 hsz0
  generalize hN : t.length = N at *
  go_enter Try.func41, Try.ntmps41
  go_wp2_with (first
  | ((with_reducible refine gate_callee (f := 12) rfl ?_); refine goesL_ (some 24) rfl rfl Try.func12 (by kernel_rfl) rfl #[.slice A q c] rfl (by (try simp only [List.map_toArray, List.map_cons, List.map_nil]); first | done | rfl | (simp [Act.eval, *]; done)) ?_; (with_reducible refine (HJ1.out).mono ?_); rintro e w2 ⟨v, rfl, ho, hb⟩; obtain ⟨Av, cv, rfl⟩ := Kd.R_slice ho; refine ⟨_, rfl, ?_⟩; have HR := Aside0.mk ho; have HB := Aside0.mk hb; have hbx2 := (hb.block _ (by have := HSZ.out; omega)).trans HBX.out; obtain ⟨y0, y1, y2⟩ := two_cells hbx2; have y20 := y2 0; have y21 := y2 1; have HX2 := Aside0.mk hbx2; clear ho hb hbx2 y2))
  obtain ⟨z0, z1, _⟩ := two_cells (two_sets HX2.out (.int .u8 0) (.slice Av p.length cv))
  have hsz := HSZ.out
  have hsz2 := HB.out.size
  refine bodyPost_ret (v := .tuple #[.agg #[.int .u8 0, .slice Av p.length cv], .bool true]) (by simp [results, Try.results41, go_sem, z0, z1]) rfl ⟨_, rfl, ?_, ?_, ?_⟩
  · have h1 := Kd.R_bound HR.out
    refine Kd.R_mono (Kd.R_lower (Kd.R_step (Kd.R_step h1 (w1 := w2.setCell ⟨w.heap.size, 0, none⟩ (.int .u8 0)) (fun k hk _ => Below.heap_setCell w2 _ _ k ?_)) (w1 := (w2.setCell ⟨w.heap.size, 0, none⟩ (.int .u8 0)).setCell ⟨w.heap.size, 1, none⟩ (.slice Av p.length cv)) (fun k hk _ => Below.heap_setCell _ _ _ k ?_)) (by omega)) (fun k hk => ?_)
    · have := hk.2.1; show k ≠ w.heap.size; omega
    · have := hk.2.1; show k ≠ w.heap.size; omega
    · rw [set_size, set_size]
      have := hk.2.1; have := hk.2.2.1; exact ⟨by omega, by omega⟩
  · have h1 : At w2 g (.slice none 0 0) ones found n := (HB.out.block g (by omega)).trans HAT.out
    exact (h1.far (by show g ≠ w.heap.size; omega) _).far (by show g ≠ w.heap.size; omega) _
  · exact only_far (only_far (only_then HW.out HB.out) (Nat.le_refl _) _) (Nat.le_refl _) _
set_option maxHeartbeats 8000000 in
set_option maxRecDepth 100000 in
theorem flag_wrong {J : List Bool → Option (List Int)} (HJ : JudgeOk J) (g : Nat) (A : Option Addr) (m c : Nat) (t : List Bool) (ones n : Int) (found : Bool) (w : World) (h : At w g (.slice A m c) ones found n) (hm : 8 < m) (hmt : m = t.length) (hm2 : m ≤ 3000) (hc : m ≤ c)
    (hr : ReadsOf Value.bool false w A m t) (hA : ∀ ad, A = some ad → ad.block ≠ g) (hp : J (t.take (m - 8)) = none) :
    Calls Try.prog 41 #[.pointer (some ⟨g, 0, none⟩)] w fun e w' => e = .returned (.tuple #[.agg #[.int .u8 1, .slice none 0 0], .bool true]) ∧ At w' g (.slice none 0 0) ones found n ∧ Only (fun k => k = g) w w' := by
  obtain ⟨c0, c1, c2, c3⟩ := h.cells
  have f0 := h.frozen 0
  have d1 : decide ((m : Int) ≤ 8) = false := decide_eq_false (by omega)
  have d2 : decide (m ≤ 8) = false := decide_eq_false (by omega)
  have hg := h.lt
  obtain ⟨q, hq⟩ : ∃ q, m = q + 8 := ⟨m - 8, by omega⟩
  have hq8 : m - 8 = q := by omega
  rw [hq8] at hp
  obtain ⟨i0, hi0, _, hsz0, _⟩ := info_parts info4
  subst hmt
  obtain ⟨hcq, hAq, hCq⟩ := print_take_of (P := Try.prog) Value.bool false 27 4 .i64 Try.underlying27 hi0 hsz0 A c t (q : Int) (by omega) (by omega) hc
  have hW : Only (fun k => k = g) w ((w.setCell ⟨g, 0, none⟩ (.slice none 0 0)).alloc (.cells #[.int .u8 0, .slice none 0 0] 57)) := only_alloc ((Only.refl (fun k => k = g) w).set rfl _) _
  have hr1 := hAq _ (reads_only hr hW (fun ad e _ => hA ad e))
  rw [Int.toNat_natCast] at hcq hr1 hCq
  have hql : (t.take q).length = q := by rw [List.length_take]; omega
  rw [hql] at hcq hr1 hCq
  have hJ := (HJ ((w.setCell ⟨g, 0, none⟩ (.slice none 0 0)).alloc (.cells #[.int .u8 0, .slice none 0 0] 57)) A q c (t.take q) hql.symm (Kd.C_of_reads (h1 := fun _ => rfl) hr1) hCq (by omega)).2 hp
  have hbx := boxed2 (w.setCell ⟨g, 0, none⟩ (.slice none 0 0)) (.int .u8 0) (.slice none 0 0) 57
  rw [set_size] at hbx
  have hAt : At ((w.setCell ⟨g, 0, none⟩ (.slice none 0 0)).alloc (.cells #[.int .u8 0, .slice none 0 0] 57)) g (.slice none 0 0) ones found n := (h.set0 _).alloc _
  have hsz : ((w.setCell ⟨g, 0, none⟩ (.slice none 0 0)).alloc (.cells #[.int .u8 0, .slice none 0 0] 57)).heap.size = w.heap.size + 1 := by simp [World.alloc_eq, World.setCell]
  have ew : (t.length : Int) - 8 = (q : Int) := by omega
  have ew2 : IntKind.i64.wrap ((t.length : Int) - 8) = (q : Int) := by rw [IntWalk.i64_in _ (by omega)]; omega
  have ew3 : wrap64 (q : Int) = (q : Int) := by unfold wrap64; omega
  have HJ1 := Aside0.mk hJ
  have HBX := Aside0.mk hbx
  have HAT := Aside0.mk hAt
  have HSZ := Aside0.mk hsz
  have HW := Aside0.mk hW
  clear hJ hbx hAt hsz hW hr1 hAq hql hq hq8 hp hr hi0 hsz0
  generalize hN : t.length = N at *
  go_enter Try.func41, Try.ntmps41
  go_wp2_with (first
  | ((with_reducible refine gate_callee (f := 12) rfl ?_); refine goesL_ (some 24) rfl rfl Try.func12 (by kernel_rfl) rfl #[.slice A q c] rfl (by (try simp only [List.map_toArray, List.map_cons, List.map_nil]); first | done | rfl | (simp [Act.eval, *]; done)) ?_; (with_reducible refine (HJ1.out).mono ?_); rintro e w2 ⟨v, er, rfl, her, hb⟩; refine ⟨_, rfl, ?_⟩; have r1 : (er == 0) = false := (by simpa using her); have r2 : (er != 0) = true := (by simpa using her); have HB := Aside0.mk hb; have hbx2 := (hb.block _ (by have := HSZ.out; omega)).trans HBX.out; obtain ⟨y0, y1, y2⟩ := two_cells hbx2; have y20 := y2 0; have y21 := y2 1; have HX2 := Aside0.mk hbx2; clear hb hbx2 y2 her))
  obtain ⟨z0, z1, _⟩ := two_cells (two_sets HX2.out (.int .u8 1) (.slice none 0 0))
  have hsz := HSZ.out
  refine bodyPost_ret (v := .tuple #[.agg #[.int .u8 1, .slice none 0 0], .bool true]) (by simp [results, Try.results41, go_sem, z0, z1]) rfl ⟨rfl, ?_, ?_⟩
  · have h1 : At w2 g (.slice none 0 0) ones found n := (HB.out.block g (by omega)).trans HAT.out
    exact (h1.far (by show g ≠ w.heap.size; omega) _).far (by show g ≠ w.heap.size; omega) _
  · exact only_far (only_far (only_then HW.out HB.out) (Nat.le_refl _) _) (Nat.le_refl _) _
end Go.Proofs.Ytonhgiclaieamaa.Ear
