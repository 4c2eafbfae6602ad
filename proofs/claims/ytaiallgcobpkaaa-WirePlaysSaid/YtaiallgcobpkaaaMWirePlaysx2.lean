/- A part of the proof of the given statement that each law names; no condition. Written by a program of this session's own (wip/tools/myprint.py, over the kit's print); Lean checks it. -/
import Derived.Test.YtaiallgcobpkaaaMWirePlaysx0
import Derived.Test.YtaiallgcobpkaaaMWirePlaysx1
namespace Go.Proofs.Ytaiallgcobpkaaa.MWirePlays
open Go.RowKit Go.Proofs.Ytaiallgcobpkaaa Go.Proofs.YtaiallgcobpkaaaW.PrintWords Go.Proofs.YtaiallgcobpkaaaW.PrintLast Go.Proofs.YtaiallgcobpkaaaW.PrintMore
attribute [local go_sem] max2_int min2_int max_two min_two max_three min_three max_four min_four   -- for this text's walks alone
set_option linter.unusedVariables false
set_option linter.unusedSimpArgs false

/-! ### signalmanlaw20_WirePlays: function 6 -/
theorem rdOf_nat_ {α : Type} (d : α) (xs : List α) (i : Nat) (h : i < xs.length) : rdOf d xs (i : Int) = xs[i] := by
  simp [rdOf, List.getD_eq_getElem?_getD, List.getElem?_eq_getElem h]
theorem signalmanlaw20_WirePlays.next (x : Addr) (i j : Nat) (hj : 0 < j) : x.add (i + j) = ⟨(x.add i).block, (x.add i).off + j, none⟩ := by
  rw [← add_add]
  show (if j = 0 then _ else _) = _
  rw [if_neg (by omega)]
theorem signalmanlaw20_WirePlays.len_le {n1 a b j n : Nat} (h : n1 = a + b) (hb : b ≤ 240) (ha : a ≤ 240 * j) (hj : j ≤ n) (hn : n ≤ 40) : n1 ≤ 20000 := by omega
/-- The acts that came in. -/
def signalmanlaw20_WirePlays.Acts (w : World) (A : Option Addr) (n : Nat) (aK aN : Nat → Int) (aA : Nat → Option Addr) (aP : Nat → List Int) (aC : Nat → Nat) : Prop := ∀ i, i < n → ∃ x, A = some x ∧ w.cell? (x.add (i * 3)) = some (.int .u8 (aK i)) ∧ w.cell? (x.add (i * 3 + 1)) = some (.int .u8 (aN i)) ∧ w.cell? (x.add (i * 3 + 2)) = some (.slice (aA i) (aP i).length (aC i)) ∧ Kd.C (Kd.int .u8) w (aA i) (aP i).length (aP i) ∧ (aP i).length ≤ aC i ∧ 0 ≤ aK i ∧ aK i < 256 ∧ 0 ≤ aN i ∧ aN i < 256
set_option maxHeartbeats 8000000 in
set_option maxRecDepth 100000 in
theorem signalmanlaw20_WirePlays.early (dl : Nat) (A : Option Addr) (n c : Nat) (w : World) (hl : 40 < n) :
    Calls Try.prog 6 #[.int .u8 (dl : Int), .slice A n c] w fun e w' => e = .returned (.bool true) ∧ Below w.heap.size w w' := by
  have HB := Aside0.mk (Below.refl w.heap.size w)
  have d0 : decide ((40 : Int) < (n : Int)) = true := decide_eq_true (by omega)
  have d1 : decide (40 < n) = true := decide_eq_true (by omega)
  go_enter Try.func6, Try.ntmps6
  go_wp2_with (first
  | ((with_reducible refine gate_callee (f := 8) rfl ?_); refine goesL_ (some 18) rfl rfl Try.func8 (by kernel_rfl) rfl #[] rfl (by (try simp only [List.map_toArray, List.map_cons, List.map_nil]); first | done | rfl | (simp [Act.eval, *]; done)) ?_; (with_reducible refine (Wire.awake_calls _).mono ?_); rintro e w5 ⟨rfl, hb⟩; refine ⟨_, rfl, ?_⟩; have n0_ := Aside0.mk (below_step HB.out hb); clear HB; have HB := n0_; clear n0_; clear hb)
  | ((with_reducible refine gate_callee (f := 8) rfl ?_); refine goesL_ (some 25) rfl rfl Try.func8 (by kernel_rfl) rfl #[] rfl (by (try simp only [List.map_toArray, List.map_cons, List.map_nil]); first | done | rfl | (simp [Act.eval, *]; done)) ?_; (with_reducible refine (Wire.awake_calls _).mono ?_); rintro e w5 ⟨rfl, hb⟩; refine ⟨_, rfl, ?_⟩; have n0_ := Aside0.mk (below_step HB.out hb); clear HB; have HB := n0_; clear n0_; clear hb))
  go_ret
  exact ⟨rfl, HB.out⟩
set_option maxHeartbeats 8000000 in
set_option maxRecDepth 100000 in
theorem signalmanlaw20_WirePlays.main (k : Nat) (dl : Nat) (hdl : dl < 256) (A : Option Addr) (n c : Nat) (aK aN : Nat → Int) (aA : Nat → Option Addr) (aP : Nat → List Int) (aC : Nat → Nat) (w : World) (hn : n ≤ 40) (ha : signalmanlaw20_WirePlays.Acts w A n aK aN aA aP aC) (hP : ∀ i, i < n → (aP i).length ≤ 30 → ∃ t, signalmanref01_Bits.f k (aP i) = some t ∧ t.length ≤ 240) :
    Calls Try.prog 6 #[.int .u8 (dl : Int), .slice A n c] w fun e w' => e = .returned (.bool true) ∧ Below w.heap.size w w' := by
  have HB := Aside0.mk (Below.refl w.heap.size w)
  have HA := Aside0.mk ha
  have HP := Aside0.mk hP
  clear ha hP
  obtain ⟨d, hd⟩ : ∃ d : Nat, d = dl % 100 := ⟨_, rfl⟩
  have hd1 : ((dl : Int) % 100) = (d : Int) := by omega
  have hd2 : d < 100 := by omega
  have hm := print_make_of (P := Try.prog) 28 4 (.bool false) 1 Try.underlying28 info4 rfl (by decide) d (by omega)
  have d0 : decide ((40 : Int) < (n : Int)) = false := decide_eq_false (by omega)
  have d1 : decide (40 < n) = false := decide_eq_false (by omega)
  clear hd
  go_enter Try.func6, Try.ntmps6
  go_wp2_with (first
  | ((with_reducible refine gate_callee (f := 8) rfl ?_); refine goesL_ (some 18) rfl rfl Try.func8 (by kernel_rfl) rfl #[] rfl (by (try simp only [List.map_toArray, List.map_cons, List.map_nil]); first | done | rfl | (simp [Act.eval, *]; done)) ?_; (with_reducible refine (Wire.awake_calls _).mono ?_); rintro e w5 ⟨rfl, hb⟩; refine ⟨_, rfl, ?_⟩; have n0_ := Aside0.mk (below_step HB.out hb); clear HB; have HB := n0_; clear n0_; clear hb)
  | ((with_reducible refine gate_callee (f := 9) rfl ?_); refine goesL_ (some 31) rfl rfl Try.func9 (by kernel_rfl) rfl #[.int .i64 (d : Int)] rfl (by (try simp only [List.map_toArray, List.map_cons, List.map_nil]); first | done | rfl | (simp [Act.eval, *]; done)) ?_; (with_reducible refine (Wire.new_bare d (by omega) _).mono ?_); rintro e w1 ⟨g, gl, rfl, hg, hgl, hI, hb⟩; refine ⟨_, rfl, ?_⟩; have HG := Aside0.mk (Nat.le_trans HB.out.size hg); have HL := Aside0.mk (Nat.le_trans HB.out.size hgl); have HI := Aside0.mk (Wire.Trio.start hI (by omega) (Nat.le_trans HB.out.size hg) (Nat.le_trans HB.out.size hgl)); have n0_ := Aside0.mk (below_step HB.out hb); clear HB; have HB := n0_; clear n0_; clear hg hgl hI hb))
  have n0_ := Aside0.mk (below_alloc HB.out (.cells (madeCells #[.bool false] d) 4))
  clear HB
  have HB := n0_
  clear n0_ hm d0 d1
  obtain ⟨um0, hum0⟩ : ∃ u, u = List.replicate d false := ⟨_, rfl⟩
  have HI0 := HI.out
  rw [← hum0] at HI0
  have hul0 := Aside0.mk (show um0.length = d by rw [hum0, List.length_replicate])
  replace hum0 := Aside0.mk hum0
  clear HI
  have HI := Aside0.mk HI0
  clear HI0
  go_loopw [8, 9, 10, 11, 12] (fun v8 v9 v10 v11 v12 wr => ∃ j : Nat, j ≤ n ∧ v12 = .int .i64 j ∧ ∃ (km um : List Bool) (ones bent nk nu : Nat) (Ak : Option Addr) (ck : Nat) (Au : Option Addr) (cu : Nat), v9 = .slice Ak nk ck ∧ v8 = .slice Au nu cu ∧ v10 = .int .i64 (ones : Int) ∧ v11 = .int .i64 (bent : Int) ∧ Aside0 (nk = km.length) ∧ Aside0 (um.length = d) ∧ Aside0 (km.length ≤ 240 * j) ∧ Aside0 (ones ≤ 255 * j) ∧ Aside0 (bent ≤ 480 * j) ∧ Aside0 (Wire.Trio w.heap.size (fun _ => False) wr g gl um km ones bent (.slice Ak nk ck) km (.slice Au nu cu) um) ∧ Aside0 (Below w.heap.size w wr)) (fun _ _ _ _ v12 _ => n - (intOf v12).toNat)
  case atStart =>
    exact ⟨0, Nat.zero_le _, rfl, [], um0, 0, 0, 0, d, none, 0, _, d, rfl, rfl, rfl, rfl, ⟨rfl⟩, hul0, ⟨Nat.le_refl _⟩, ⟨Nat.le_refl _⟩, ⟨Nat.le_refl _⟩, HI, HB⟩
  case round =>
    clear HI HB
    obtain ⟨j, hj, rfl, km, um, ones, bent, nk, nu, Ak, ck, Au, cu, rfl, rfl, rfl, rfl, HKN, HUL, HKL, HOL, HBL, HI, HB⟩ := hrel
    by_cases hlt : j < n
    · obtain ⟨x, hx, c0, c1, c2, hC, hle, k0, k1, n0, n1⟩ := HA.out j hlt
      have HX := Aside0.mk hx
      subst hx
      have e0 := pw_cell_below HB.out c0
      have e1 := pw_cell_below HB.out c1
      have e2 := pw_cell_below HB.out c2
      rw [signalmanlaw20_WirePlays.next x (j * 3) 1 (by decide)] at e1
      rw [signalmanlaw20_WirePlays.next x (j * 3) 2 (by decide)] at e2
      have HC := Aside0.mk hC
      have HCL := Aside0.mk hle
      clear c0 c1 c2 hC hle
      generalize aK j = K at e0 k0 k1
      generalize aN j = N at e1 n0 n1
      have HPj := Aside0.mk (HP.out j hlt)
      generalize aP j = p at e2 HC HCL HPj
      generalize aA j = Ap at e2 HC
      generalize aC j = cp at e2 HCL
      have b1 : decide ((j : Int) < (n : Int)) = true := decide_eq_true (by omega)
      have p1 := eq_true (show 0 ≤ (j : Int) by omega)
      have p2 := eq_true (show (j : Int) < (n : Int) by omega)
      obtain ⟨x0, x1, x2⟩ := Wire.boxed wr (.int .u8 K) (.int .u8 N) (.slice Ap p.length cp) 39
      have hob : ones ≤ 20000 := by have := HOL.out; omega
      have hbb : bent ≤ 30000 := by have := HBL.out; omega
      have hnb : nk ≤ 20000 := by have := HKL.out; have := HKN.out; omega
      by_cases hp : p.length ≤ 30
      · have f1 : decide ((30 : Int) < (p.length : Int)) = false := decide_eq_false (by omega)
        have f2 : decide (30 < p.length) = false := decide_eq_false (by omega)
        obtain ⟨t, ht, htl⟩ := HPj.out hp
        have HTt := Aside0.mk ht
        have HTL := Aside0.mk htl
        clear ht htl
        by_cases h0 : K % 5 = 0
        · have f3 : (K % 5 == 0) = true := by rw [h0]; rfl
          clear h0
          go_wp2_with (first
            | ((with_reducible refine gate_callee (f := 10) rfl ?_); refine goesL_ (some 109) rfl rfl Try.func10 (by kernel_rfl) rfl #[.slice Ap p.length cp] rfl (by (try simp only [List.map_toArray, List.map_cons, List.map_nil]); first | done | rfl | (simp [Act.eval, *]; done)) ?_; (with_reducible refine (signalmanref01_Bits.calls k Ap cp p t _ (Kd.C_below HC.out (below_alloc HB.out _)) HCL.out HTt.out).mono ?_); rintro e w2 ⟨v, rfl, ho, hb⟩; refine ⟨_, rfl, ?_⟩; obtain ⟨At, ct, rfl, hct, hrt, hft⟩ := Wire.fresh_reads ho; have HT := Aside0.mk hrt; have x2' := pw_cell_below hb x2; clear x2; have x2 := x2'; clear x2'; have n0_ := Aside0.mk (Wire.Trio.below (Wire.Trio.box HI.out _) hb (fun k hk => Or.inl hk)); have n1_ := Aside0.mk (below_step (below_alloc HB.out _) hb); clear HI HB; have HI := n0_; have HB := n1_; clear n0_ n1_; clear ho hb hct hrt hft)
            | ((with_reducible refine gate_builtin (b := .append) (xs := #[.tmp 106, .tmp 109]) rfl ?_); obtain ⟨A1, n1, c1, w3, hrun, hn1, hT, hb, hk⟩ := Wire.Trio.kput HI.out t At ct HT.out (by have := HTL.out; have := HKL.out; omega); refine Wire.wpList_append_run rfl (.tmp 106) (.tmp 109) 28 rfl (.slice Ak nk ck) (.slice At t.length ct) rfl rfl (.slice A1 n1 c1) w3 hrun ?_; have hn1b : n1 ≤ 20000 := signalmanlaw20_WirePlays.len_le hn1 HTL.out HKL.out hj hn; replace hn1 := Aside0.mk hn1; have x2' := Wire.KeptE.cell hk (p := ⟨wr.heap.size, 2, none⟩) rfl x2; clear x2; have x2 := x2'; clear x2'; have n0_ := Aside0.mk (hT); have n1_ := Aside0.mk (HB.out.trans hb); clear HI HB; have HI := n0_; have HB := n1_; clear n0_ n1_; clear HT hT hb hk hrun)
            | ((with_reducible refine gate_callee (f := 10) rfl ?_); refine goesL_ (some 114) rfl rfl Try.func10 (by kernel_rfl) rfl #[.slice Ap p.length cp] rfl (by (try simp only [List.map_toArray, List.map_cons, List.map_nil]); first | done | rfl | (simp [Act.eval, *]; done)) ?_; (with_reducible refine (signalmanref01_Bits.calls k Ap cp p t _ (Kd.C_below HC.out HB.out) HCL.out HTt.out).mono ?_); rintro e w2 ⟨v, rfl, ho, hb⟩; refine ⟨_, rfl, ?_⟩; obtain ⟨At2, ct2, rfl, hct, hrt, hft⟩ := Wire.fresh_reads ho; have HT := Aside0.mk hrt; clear x2; have n0_ := Aside0.mk (Wire.Trio.below HI.out hb (fun k hk => Or.inl hk)); have n1_ := Aside0.mk (below_step HB.out hb); clear HI HB; have HI := n0_; have HB := n1_; clear n0_ n1_; clear ho hb hct hrt hft)
            | ((with_reducible refine gate_callee (f := 14) rfl ?_); refine goesL_ (some 115) rfl rfl Try.func14 (by kernel_rfl) rfl #[.pointer (some ⟨g, 0, none⟩), .slice At2 t.length ct2] rfl (by (try simp only [List.map_toArray, List.map_cons, List.map_nil]); first | done | rfl | (simp [Act.eval, *]; done)) ?_; (with_reducible refine (Wire.tbend HI.out t At2 ct2 HT.out (by have := HTL.out; have := HKL.out; omega)).mono ?_); rintro e w6 ⟨rfl, hT, hb, hk⟩; refine ⟨_, rfl, ?_⟩; have n0_ := Aside0.mk (hT); have n1_ := Aside0.mk (HB.out.trans hb); clear HI HB; have HI := n0_; have HB := n1_; clear n0_ n1_; clear HT hT hb hk)
            | ((with_reducible refine gate_callee (f := 16) rfl ?_); refine goesL_ (some 147) rfl rfl Try.func16 (by kernel_rfl) rfl #[.pointer (some ⟨g, 0, none⟩)] rfl (by (try simp only [List.map_toArray, List.map_cons, List.map_nil]); first | done | rfl | (simp [Act.eval, *]; done)) ?_; (with_reducible refine (Wire.tmaskedx (x := (n1 : Int) + (ones : Int)) HI.out (by rw [List.length_append]; have := HTL.out; have := HKL.out; have := HOL.out; omega) (by rw [List.length_append]; have := hn1.out; have := HKN.out; omega)).mono ?_); rintro e wm ⟨rfl, hT, hb, hk⟩; refine ⟨_, rfl, ?_⟩; have n0_ := Aside0.mk (hT); have n1_ := Aside0.mk (HB.out.trans hb); clear HI HB; have HI := n0_; have HB := n1_; clear n0_ n1_; clear hT hb hk)
            | ((with_reducible refine gate_callee (f := 13) rfl ?_); (try (refine gate_guard (by rfl) ?_; dsimp only)); refine goesL_ (some 155) rfl rfl Try.func13 (by kernel_rfl) rfl #[.pointer (some ⟨g, 0, none⟩)] rfl (by (try simp only [List.map_toArray, List.map_cons, List.map_nil]); first | done | rfl | (simp [Act.eval, *]; done)) ?_; (with_reducible refine (Wire.tbentx (x := (bent : Int)) HI.out rfl).mono ?_); rintro e wm2 ⟨rfl, rfl⟩; refine ⟨_, rfl, ?_⟩)
            | ((with_reducible refine gate_callee (f := 17) rfl ?_); (try (refine gate_guard (by rfl) ?_; dsimp only)); refine goesL_ (some 161) rfl rfl Try.func17 (by kernel_rfl) rfl #[.pointer (some ⟨g, 0, none⟩)] rfl (by (try simp only [List.map_toArray, List.map_cons, List.map_nil]); first | done | rfl | (simp [Act.eval, *]; done)) ?_; (with_reducible refine (Wire.tdelayx HI.out HUL.out).mono ?_); rintro e wm3 ⟨rfl, rfl⟩; refine ⟨_, rfl, ?_⟩))
          go_roundw
          case rel =>
            refine ⟨j + 1, by omega, by first | rfl | (simp; done) | (congr 1; omega), km ++ t, um, ones, bent, n1, nu, A1, c1, Au, cu, rfl, rfl, rfl, rfl, ⟨by rw [List.length_append]; have := hn1.out; omega⟩, HUL, ⟨by rw [List.length_append]; have := HTL.out; have := HKL.out; omega⟩, ⟨by have := HOL.out; omega⟩, ⟨by have := HBL.out; omega⟩, ⟨HI.out.same (fun _ h => h.elim)⟩, HB⟩
          case measure => (simp [intOf]; omega)
        · have f3 : (K % 5 == 0) = false := by simpa using h0
          clear h0
          by_cases h1 : K % 5 = 1
          · have f4 : (K % 5 == 1) = true := by rw [h1]; rfl
            clear h1
            by_cases h7 : N < 7
            · have f5 : decide (7 ≤ N) = false := decide_eq_false (by omega)
              go_wp2_with (first
                | ((with_reducible refine gate_callee (f := 15) rfl ?_); refine goesL_ (some 123) rfl rfl Try.func15 (by kernel_rfl) rfl #[.pointer (some ⟨g, 0, none⟩), .int .i64 N] rfl (by (try simp only [List.map_toArray, List.map_cons, List.map_nil]); first | done | rfl | (simp [Act.eval, *]; done)) ?_; (with_reducible refine (Wire.break_lo ⟨g, 0, none⟩ N h7 _).mono ?_); rintro e w6 ⟨rfl, rfl⟩; refine ⟨_, rfl, ?_⟩; have n0_ := Aside0.mk (Wire.Trio.box HI.out (.cells #[.int .u8 K, .int .u8 N, .slice Ap p.length cp] 39)); have n1_ := Aside0.mk (below_alloc HB.out (.cells #[.int .u8 K, .int .u8 N, .slice Ap p.length cp] 39)); clear HI HB; have HI := n0_; have HB := n1_; clear n0_ n1_)
                | ((with_reducible refine gate_callee (f := 16) rfl ?_); refine goesL_ (some 147) rfl rfl Try.func16 (by kernel_rfl) rfl #[.pointer (some ⟨g, 0, none⟩)] rfl (by (try simp only [List.map_toArray, List.map_cons, List.map_nil]); first | done | rfl | (simp [Act.eval, *]; done)) ?_; (with_reducible refine (Wire.tmaskedx (x := (nk : Int) + (ones : Int)) HI.out (by have := HKL.out; have := HOL.out; omega) (by have := HKN.out; omega)).mono ?_); rintro e wm ⟨rfl, hT, hb, hk⟩; refine ⟨_, rfl, ?_⟩; have n0_ := Aside0.mk (hT); have n1_ := Aside0.mk (HB.out.trans hb); clear HI HB; have HI := n0_; have HB := n1_; clear n0_ n1_; clear hT hb hk)
                | ((with_reducible refine gate_callee (f := 13) rfl ?_); (try (refine gate_guard (by rfl) ?_; dsimp only)); refine goesL_ (some 155) rfl rfl Try.func13 (by kernel_rfl) rfl #[.pointer (some ⟨g, 0, none⟩)] rfl (by (try simp only [List.map_toArray, List.map_cons, List.map_nil]); first | done | rfl | (simp [Act.eval, *]; done)) ?_; (with_reducible refine (Wire.tbentx (x := (bent : Int)) HI.out rfl).mono ?_); rintro e wm2 ⟨rfl, rfl⟩; refine ⟨_, rfl, ?_⟩)
                | ((with_reducible refine gate_callee (f := 17) rfl ?_); (try (refine gate_guard (by rfl) ?_; dsimp only)); refine goesL_ (some 161) rfl rfl Try.func17 (by kernel_rfl) rfl #[.pointer (some ⟨g, 0, none⟩)] rfl (by (try simp only [List.map_toArray, List.map_cons, List.map_nil]); first | done | rfl | (simp [Act.eval, *]; done)) ?_; (with_reducible refine (Wire.tdelayx HI.out HUL.out).mono ?_); rintro e wm3 ⟨rfl, rfl⟩; refine ⟨_, rfl, ?_⟩))
              go_roundw
              case rel =>
                refine ⟨j + 1, by omega, by first | rfl | (simp; done) | (congr 1; omega), km, um, ones, bent, nk, nu, Ak, ck, Au, cu, rfl, rfl, by first | rfl | (simp; done) | (congr 1; omega), rfl, HKN, HUL, ⟨by have := HKL.out; omega⟩, ⟨by have := HOL.out; omega⟩, ⟨by have := HBL.out; omega⟩, ⟨HI.out.same (fun _ h => h.elim)⟩, HB⟩
              case measure => (simp [intOf]; omega)
            · obtain ⟨nn, rfl⟩ := Int.eq_ofNat_of_zero_le n0
              have h8 : 7 ≤ nn := by omega
              clear h7
              have h7 := h8
              clear h8
              have f5 : decide ((7 : Int) ≤ (nn : Int)) = true := decide_eq_true (by omega)
              have f6 : decide (7 ≤ nn) = true := decide_eq_true (by omega)
              go_wp2_with (first
                | ((with_reducible refine gate_callee (f := 15) rfl ?_); refine goesL_ (some 123) rfl rfl Try.func15 (by kernel_rfl) rfl #[.pointer (some ⟨g, 0, none⟩), .int .i64 (nn : Int)] rfl (by (try simp only [List.map_toArray, List.map_cons, List.map_nil]); first | done | rfl | (simp [Act.eval, *]; done)) ?_; (with_reducible refine (Wire.tbreak (Wire.Trio.box HI.out _) h7 (by have := HOL.out; omega)).mono ?_); rintro e w6 ⟨rfl, hT, hb, hk⟩; refine ⟨_, rfl, ?_⟩; have x1' := Wire.KeptE.cell hk (p := ⟨wr.heap.size, 1, none⟩) rfl x1; clear x1; have x1 := x1'; clear x1'; have n0_ := Aside0.mk (hT); have n1_ := Aside0.mk ((below_alloc HB.out _).trans hb); clear HI HB; have HI := n0_; have HB := n1_; clear n0_ n1_; clear hT hb hk)
                | ((with_reducible refine gate_callee (f := 16) rfl ?_); refine goesL_ (some 147) rfl rfl Try.func16 (by kernel_rfl) rfl #[.pointer (some ⟨g, 0, none⟩)] rfl (by (try simp only [List.map_toArray, List.map_cons, List.map_nil]); first | done | rfl | (simp [Act.eval, *]; done)) ?_; (with_reducible refine (Wire.tmaskedx (x := (nk : Int) + ((ones : Int) + (nn : Int))) HI.out (by have := HKL.out; have := HOL.out; omega) (by have := HKN.out; omega)).mono ?_); rintro e wm ⟨rfl, hT, hb, hk⟩; refine ⟨_, rfl, ?_⟩; have n0_ := Aside0.mk (hT); have n1_ := Aside0.mk (HB.out.trans hb); clear HI HB; have HI := n0_; have HB := n1_; clear n0_ n1_; clear hT hb hk)
                | ((with_reducible refine gate_callee (f := 13) rfl ?_); (try (refine gate_guard (by rfl) ?_; dsimp only)); refine goesL_ (some 155) rfl rfl Try.func13 (by kernel_rfl) rfl #[.pointer (some ⟨g, 0, none⟩)] rfl (by (try simp only [List.map_toArray, List.map_cons, List.map_nil]); first | done | rfl | (simp [Act.eval, *]; done)) ?_; (with_reducible refine (Wire.tbentx (x := (bent : Int)) HI.out rfl).mono ?_); rintro e wm2 ⟨rfl, rfl⟩; refine ⟨_, rfl, ?_⟩)
                | ((with_reducible refine gate_callee (f := 17) rfl ?_); (try (refine gate_guard (by rfl) ?_; dsimp only)); refine goesL_ (some 161) rfl rfl Try.func17 (by kernel_rfl) rfl #[.pointer (some ⟨g, 0, none⟩)] rfl (by (try simp only [List.map_toArray, List.map_cons, List.map_nil]); first | done | rfl | (simp [Act.eval, *]; done)) ?_; (with_reducible refine (Wire.tdelayx HI.out HUL.out).mono ?_); rintro e wm3 ⟨rfl, rfl⟩; refine ⟨_, rfl, ?_⟩))
              go_roundw
              case rel =>
                refine ⟨j + 1, by omega, by first | rfl | (simp; done) | (congr 1; omega), km, um, ones + nn, bent, nk, nu, Ak, ck, Au, cu, rfl, rfl, by first | rfl | (simp; done) | (congr 1; omega), rfl, HKN, HUL, ⟨by have := HKL.out; omega⟩, ⟨by have := HOL.out; omega⟩, ⟨by have := HBL.out; omega⟩, ⟨HI.out.same (fun _ h => h.elim)⟩, HB⟩
              case measure => (simp [intOf]; omega)
          · have f4 : (K % 5 == 1) = false := by simpa using h1
            clear h1
            go_wp2_with (first
              | ((with_reducible refine gate_callee (f := 10) rfl ?_); refine goesL_ (some 57) rfl rfl Try.func10 (by kernel_rfl) rfl #[.slice Ap p.length cp] rfl (by (try simp only [List.map_toArray, List.map_cons, List.map_nil]); first | done | rfl | (simp [Act.eval, *]; done)) ?_; (with_reducible refine (signalmanref01_Bits.calls k Ap cp p t _ (Kd.C_below HC.out (below_alloc HB.out _)) HCL.out HTt.out).mono ?_); rintro e w2 ⟨v, rfl, ho, hb⟩; refine ⟨_, rfl, ?_⟩; obtain ⟨At, ct, rfl, hct, hrt, hft⟩ := Wire.fresh_reads ho; have HT := Aside0.mk hrt; obtain ⟨E, hE1, hE2⟩ : ∃ E : Nat → Prop, Wire.Trio w.heap.size E w2 g gl um km ones bent (.slice Ak nk ck) km (.slice Au nu cu) um ∧ (∀ ad, At = some ad → 0 < t.length → E ad.block) := ⟨fun k => wr.heap.size ≤ k ∧ k < w2.heap.size, HI.out.below (below_step (below_alloc (Below.refl _ _) _) hb) (fun k hk => Or.inr hk), fun ad e hn => ⟨Nat.le_trans (below_alloc (Below.refl _ _) _).size (hft ad e hn), Wire.reads_block hrt ad e hn⟩⟩; have HTE := Aside0.mk hE2; have n0_ := Aside0.mk (hE1); have n1_ := Aside0.mk (below_step (below_alloc HB.out _) hb); clear HI HB; have HI := n0_; have HB := n1_; clear n0_ n1_; clear ho hb hct hrt hft hE1 hE2 x0 x1 x2 e0 e1 e2))
            obtain ⟨wo, hwo⟩ : ∃ wo : World, wo = wr := ⟨_, rfl⟩
            clear HA HP HPj
            clear hwo wo
            go_loopw [8, 9, 10, 11, 16] (fun v8 v9 v10 v11 v16 wr => ∃ q : Nat, q ≤ t.length ∧ v16 = .int .i64 q ∧ ∃ (km um : List Bool) (ones bent nk nu : Nat) (Ak : Option Addr) (ck : Nat) (Au : Option Addr) (cu : Nat), v9 = .slice Ak nk ck ∧ v8 = .slice Au nu cu ∧ v10 = .int .i64 (ones : Int) ∧ v11 = .int .i64 (bent : Int) ∧ Aside0 (nk = km.length) ∧ Aside0 (um.length = d) ∧ Aside0 (km.length ≤ 240 * j) ∧ Aside0 (ones ≤ 255 * j) ∧ Aside0 (bent ≤ 480 * j + 2 * q) ∧ Aside0 (Wire.Trio w.heap.size E wr g gl um km ones bent (.slice Ak nk ck) km (.slice Au nu cu) um) ∧ Aside0 (Below w.heap.size w wr) ∧ Aside0 (ReadsOf Value.bool false wr At t.length t)) (fun _ _ _ _ v16 _ => t.length - (intOf v16).toNat)
            case atStart =>
              exact ⟨0, Nat.zero_le _, rfl, km, um, ones, bent, nk, nu, Ak, ck, Au, cu, rfl, rfl, rfl, rfl, HKN, HUL, HKL, HOL, HBL, HI, HB, HT⟩
            case round =>
              clear HI HB HT HKN HUL HKL HOL HBL
              obtain ⟨q, hq, rfl, km, um, ones, bent, nk, nu, Ak, ck, Au, cu, rfl, rfl, rfl, rfl, HKN, HUL, HKL, HOL, HBL, HI, HB, HT⟩ := hrel
              have hob : ones ≤ 20000 := by have := HOL.out; omega
              have hbb : bent ≤ 30000 := by have := HBL.out; have := HTL.out; omega
              have hnb : nk ≤ 20000 := by have := HKL.out; have := HKN.out; omega
              have htb : t.length ≤ 240 := HTL.out
              by_cases hqt : q < t.length
              · have hpos : 0 < t.length := by omega
                have b2 : decide ((q : Int) < (t.length : Int)) = true := decide_eq_true (by omega)
                have p3 := eq_true (show 0 ≤ (q : Int) by omega)
                have p4 := eq_true (show (q : Int) < (t.length : Int) by omega)
                obtain ⟨ad, e, hx⟩ := ReadsOf.at_ HT.out (q : Int) (by omega) (by omega)
                cases e
                rw [rdOf_nat_ false t q hqt, Int.toNat_natCast] at hx
                generalize t[q] = xq at hx
                cases km with
                | nil =>
                  by_cases ho : 1 ≤ ones
                  · cases xq with
                    | true =>
                      have HIk := HI
                      have hnk0 : nk < 1 := by have := HKN.out; simp only [List.length_nil] at this; omega
                      clear HI
                      have g_0 : decide ((0 : Int) < (nk : Int)) = false := decide_eq_false (by omega)
                      have g_1 : decide (0 < nk) = false := decide_eq_false (by omega)
                      have g_2 : decide ((0 : Int) < (ones : Int)) = true := decide_eq_true (by omega)
                      have g_3 : decide (0 < ones) = true := decide_eq_true (by omega)
                      obtain ⟨a1, n2, c1, w3, z, r, hrun, hz, hn2, hT, hb, hk, hcz, hzg, hzl⟩ := HIk.out.uput true (by have := HUL.out; omega)
                      have hxq := Wire.KeptE.cell hk (p := ad.add q) (by rw [add_block]; exact HTE.out ad rfl (by omega)) hx
                      obtain ⟨Ay, n4, c4, hn4, hcutu, hTu⟩ := Wire.Trio.ucut (B := w.heap.size) (A := some a1) (n := n2) (c := c1) (b := z) (s := r) hn2
                      have hup := eq_true (show 0 < n2 by omega)
                      have hup2 := eq_true (show (0 : Int) < (n2 : Int) by omega)
                      have HT2 := Aside0.mk (hk.reads HT.out HTE.out)
                      have HI3 := Aside0.mk hT
                      have HB3 := Aside0.mk (HB.out.trans hb)
                      have HR := Aside0.mk hrun
                      have HZ := Aside0.mk hz
                      have HXQ := Aside0.mk hxq
                      have HCZ := Aside0.mk hcz
                      have HK := Aside0.mk hk
                      have HTU := Aside0.mk hTu
                      replace hn2 := Aside0.mk hn2
                      replace hn4 := Aside0.mk hn4
                      clear hT hb hrun hz hxq hcz hk hTu HB HT HIk
                      go_wp2_with (first
                        | ((with_reducible refine gate_builtin (b := .append) (xs := #[.tmp 88, .tmp 90]) rfl ?_); refine Wire.wpList_append_run rfl (.tmp 88) (.tmp 90) 28 rfl (.slice Au nu cu) (.slice (some ⟨wr.heap.size, 0, none⟩) 1 1) rfl rfl (.slice (some a1) n2 c1) w3 HR.out ?_))
                      refine start_ (n := 10) (S := fun W => W.cell? (ad.add q) = some (.bool true) ∧ W.cell? a1 = some (.bool z)) (ds := []) #[false, false, false, false, false, false, false, false, false, false] (by kernel_rfl) rfl rfl ⟨HXQ.out, HCZ.out⟩ (fun hHeld => ?_)
                      have hb0 : Below w3.heap.size w3 w3.drew := below_drew1 (Below.refl _ _)
                      have n0_ := Aside0.mk (below_drew1 HB3.out)
                      have n1_ := Aside0.mk (HI3.out.below hb0 (fun k hk => Or.inl hk))
                      have n2_ := Aside0.mk (show ReadsOf Value.bool false w3.drew (some ad) t.length t from HT2.out)
                      clear HB3 HI3 HT2 hb0 HK HR HXQ HCZ
                      have HB3 := n0_
                      have HI3 := n1_
                      have HT2 := n2_
                      clear n0_ n1_ n2_
                      generalize w3.drew = W0 at HB3 HI3 HT2 hHeld ⊢
                      refine pure_ (i := 0) (N := some 92) (v := ?_) (a' := ?_) #[true, false, false, false, false, false, false, false, false, false] rfl rfl (by kernel_rfl) (fun _ _ _ h => h) (Or.inl ⟨by rfl, ?_⟩) ?_ ?_
                      rotate_left
                      · intro w'
                        go_simp
                        with_reducible rfl
                      rotate_left
                      · simp only [Act.put, List.setIfInBounds_toArray, List.set_cons_zero, List.set_cons_succ, i64_w, i32_w]
                        rfl
                      refine pure_ (i := 1) (N := some 93) (v := ?_) (a' := ?_) #[true, true, false, false, false, false, false, false, false, false] rfl rfl (by kernel_rfl) (fun _ _ _ h => h) (Or.inl ⟨by rfl, ?_⟩) ?_ ?_
                      rotate_left
                      · intro w'
                        go_simp
                        with_reducible rfl
                      rotate_left
                      · simp only [Act.put, List.setIfInBounds_toArray, List.set_cons_zero, List.set_cons_succ, i64_w, i32_w]
                        rfl
                      refine pure_ (i := 2) (N := some 94) (v := ?_) (a' := ?_) #[true, true, true, false, false, false, false, false, false, false] rfl rfl (by kernel_rfl) (fun _ _ _ h => h) (Or.inl ⟨by rfl, ?_⟩) ?_ ?_
                      rotate_left
                      · intro w'
                        go_simp
                        with_reducible rfl
                      rotate_left
                      · simp only [Act.put, List.setIfInBounds_toArray, List.set_cons_zero, List.set_cons_succ, i64_w, i32_w]
                        rfl
                      refine pure_ (i := 6) (N := some 98) (v := ?_) (a' := ?_) #[true, true, true, false, false, false, true, false, false, false] rfl rfl (by kernel_rfl) (fun _ _ _ h => h) (Or.inl ⟨by rfl, ?_⟩) ?_ ?_
                      rotate_left
                      · intro w'
                        go_simp
                        with_reducible rfl
                      rotate_left
                      · simp only [Act.put, List.setIfInBounds_toArray, List.set_cons_zero, List.set_cons_succ, i64_w, i32_w]
                        rfl
                      refine pure_ (i := 3) (N := some 95) (v := ?_) (a' := ?_) #[true, true, true, true, false, false, true, false, false, false] rfl rfl (by kernel_rfl) (fun _ _ _ h => h) (Or.inl ⟨by rfl, ?_⟩) ?_ ?_
                      rotate_left
                      · intro w'
                        go_simp
                        with_reducible rfl
                      rotate_left
                      · simp only [Act.put, List.setIfInBounds_toArray, List.set_cons_zero, List.set_cons_succ, i64_w, i32_w]
                        rfl
                      refine pure_ (i := 7) (N := some 99) (v := ?_) (a' := ?_) #[true, true, true, true, false, false, true, true, false, false] rfl rfl (by kernel_rfl) (fun _ _ _ h => h) (Or.inl ⟨by rfl, ?_⟩) ?_ ?_
                      rotate_left
                      · intro w'
                        go_simp
                        with_reducible rfl
                      rotate_left
                      · simp only [Act.put, List.setIfInBounds_toArray, List.set_cons_zero, List.set_cons_succ, i64_w, i32_w]
                        rfl
                      refine take_ (i := 4) (N := some 96) (v := ?_) (a' := ?_) #[true, true, true, true, true, false, true, true, false, false] rfl rfl (by kernel_rfl) (fun _ _ _ h => h) (Or.inl ⟨by rfl, ?_⟩) hHeld ?_ ?_
                      rotate_left
                      · intro w' hS'
                        obtain ⟨s1_, s2_⟩ := hS'
                        go_simp
                        with_reducible rfl
                      rotate_left
                      · simp only [Act.put, List.setIfInBounds_toArray, List.set_cons_zero, List.set_cons_succ, i64_w, i32_w]
                        rfl
                      refine take_ (i := 8) (N := some 100) (v := ?_) (a' := ?_) #[true, true, true, true, true, false, true, true, true, false] rfl rfl (by kernel_rfl) (fun _ _ _ h => h) (Or.inl ⟨by rfl, ?_⟩) hHeld ?_ ?_
                      rotate_left
                      · intro w' hS'
                        obtain ⟨s1_, s2_⟩ := hS'
                        go_simp
                        with_reducible rfl
                      rotate_left
                      · simp only [Act.put, List.setIfInBounds_toArray, List.set_cons_zero, List.set_cons_succ, i64_w, i32_w]
                        rfl
                      refine one_ (i := 5) (N := some 97) #[true, true, true, true, true, true, true, true, true, false] rfl rfl (by kernel_rfl) (by decide) (fun K hK => ?_)
                      refine goes_ Try.func11 (by kernel_rfl) rfl #[.pointer (some ⟨g, 0, none⟩), .bool true] (by rfl) rfl rfl (by (try simp only [List.map_toArray, List.map_cons, List.map_nil]); first | done | rfl) ?_
                      with_reducible refine (Wire.tpassz (y := true) (z := z) (r := r) HI3.out (by have := HBL.out; omega) (by have := HOL.out; omega) (by have := HUL.out; omega) true ((Wire.goesO ho).trans rfl) HZ.out).mono ?_
                      rintro e w6 ⟨rfl, hT, hb, hk, ho⟩
                      refine ⟨_, rfl, ?_⟩
                      have HI4 := Aside0.mk hT
                      have n0_ := Aside0.mk (HB3.out.trans hb)
                      have n2_ := Aside0.mk (hk.reads HT2.out HTE.out)
                      have hS1 := hk.cell (p := ad.add q) (by rw [add_block]; exact HTE.out ad rfl (by omega)) hHeld.1
                      have hS2 := Wire.only_cell ho (p := a1) (fun hp => hp.elim hzg hzl) hHeld.2
                      clear HB3 HI3 HT2 hT hb hk ho hHeld
                      have HB3 := n0_
                      have HT2 := n2_
                      clear n0_ n2_
                      refine hK.out _ _ ⟨hS1, hS2⟩ (fun hHeld => ?_)
                      clear hK K
                      refine norm_ (a' := ?_) ?_ ?_
                      rotate_left
                      · show Act.put _ (some 97) _ = _
                        simp only [Act.put, List.setIfInBounds_toArray, List.set_cons_zero, List.set_cons_succ, i64_w, i32_w]
                        rfl
                      refine pure_ (i := 9) (N := some 101) (v := ?_) (a' := ?_) #[true, true, true, true, true, true, true, true, true, true] rfl rfl (by kernel_rfl) (fun _ _ _ h => h) (Or.inl ⟨by rfl, ?_⟩) ?_ ?_
                      rotate_left
                      · intro w'
                        go_simp
                        with_reducible rfl
                      rotate_left
                      · simp only [Act.put, List.setIfInBounds_toArray, List.set_cons_zero, List.set_cons_succ, i64_w, i32_w]
                        rfl
                      refine done_ (by kernel_rfl) ?_
                      clear hHeld
                      go_wp2
                      have HI5 := HI4.out
                      rw [show bent + Wire.bends [] ones true = bent + 0 from congrArg (fun z_ => bent + z_) ((Wire.bendsO ho).trans rfl)] at HI5
                      rw [show ([] : List Bool).drop 1 = [] from rfl] at HI5
                      go_roundw
                      case rel =>
                        refine ⟨q + 1, by omega, by first | rfl | (simp; done), [], r, ones - 1, bent + 0, nk, n4, Ak, ck, Ay, c4, rfl, rfl, (by first | rfl | (congr 1; omega) | (simp; done) | (simp; omega)), (by first | rfl | (congr 1; omega) | (simp; done) | (simp; omega)), HKN, ⟨by have := HZ.out; have := HUL.out; have e := congrArg List.length (HZ.out); simp only [List.length_append, List.length_cons, List.length_nil] at e; omega⟩, ⟨by have := HKL.out; omega⟩, ⟨by have := HOL.out; omega⟩, ⟨by have := HBL.out; omega⟩, ⟨HTU.out _ _ _ _ _ _ _ _ _ _ HI5⟩, HB3, HT2⟩
                      case measure => (simp [intOf]; omega)
                    | false =>
                      have HIk := HI
                      have hnk0 : nk < 1 := by have := HKN.out; simp only [List.length_nil] at this; omega
                      clear HI
                      have g_0 : decide ((0 : Int) < (nk : Int)) = false := decide_eq_false (by omega)
                      have g_1 : decide (0 < nk) = false := decide_eq_false (by omega)
                      have g_2 : decide ((0 : Int) < (ones : Int)) = true := decide_eq_true (by omega)
                      have g_3 : decide (0 < ones) = true := decide_eq_true (by omega)
                      obtain ⟨a1, n2, c1, w3, z, r, hrun, hz, hn2, hT, hb, hk, hcz, hzg, hzl⟩ := HIk.out.uput true (by have := HUL.out; omega)
                      have hxq := Wire.KeptE.cell hk (p := ad.add q) (by rw [add_block]; exact HTE.out ad rfl (by omega)) hx
                      obtain ⟨Ay, n4, c4, hn4, hcutu, hTu⟩ := Wire.Trio.ucut (B := w.heap.size) (A := some a1) (n := n2) (c := c1) (b := z) (s := r) hn2
                      have hup := eq_true (show 0 < n2 by omega)
                      have hup2 := eq_true (show (0 : Int) < (n2 : Int) by omega)
                      have HT2 := Aside0.mk (hk.reads HT.out HTE.out)
                      have HI3 := Aside0.mk hT
                      have HB3 := Aside0.mk (HB.out.trans hb)
                      have HR := Aside0.mk hrun
                      have HZ := Aside0.mk hz
                      have HXQ := Aside0.mk hxq
                      have HCZ := Aside0.mk hcz
                      have HK := Aside0.mk hk
                      have HTU := Aside0.mk hTu
                      replace hn2 := Aside0.mk hn2
                      replace hn4 := Aside0.mk hn4
                      clear hT hb hrun hz hxq hcz hk hTu HB HT HIk
                      go_wp2_with (first
                        | ((with_reducible refine gate_builtin (b := .append) (xs := #[.tmp 88, .tmp 90]) rfl ?_); refine Wire.wpList_append_run rfl (.tmp 88) (.tmp 90) 28 rfl (.slice Au nu cu) (.slice (some ⟨wr.heap.size, 0, none⟩) 1 1) rfl rfl (.slice (some a1) n2 c1) w3 HR.out ?_))
                      refine start_ (n := 10) (S := fun W => W.cell? (ad.add q) = some (.bool false) ∧ W.cell? a1 = some (.bool z)) (ds := []) #[false, false, false, false, false, false, false, false, false, false] (by kernel_rfl) rfl rfl ⟨HXQ.out, HCZ.out⟩ (fun hHeld => ?_)
                      have hb0 : Below w3.heap.size w3 w3.drew := below_drew1 (Below.refl _ _)
                      have n0_ := Aside0.mk (below_drew1 HB3.out)
                      have n1_ := Aside0.mk (HI3.out.below hb0 (fun k hk => Or.inl hk))
                      have n2_ := Aside0.mk (show ReadsOf Value.bool false w3.drew (some ad) t.length t from HT2.out)
                      clear HB3 HI3 HT2 hb0 HK HR HXQ HCZ
                      have HB3 := n0_
                      have HI3 := n1_
                      have HT2 := n2_
                      clear n0_ n1_ n2_
                      generalize w3.drew = W0 at HB3 HI3 HT2 hHeld ⊢
                      refine pure_ (i := 0) (N := some 92) (v := ?_) (a' := ?_) #[true, false, false, false, false, false, false, false, false, false] rfl rfl (by kernel_rfl) (fun _ _ _ h => h) (Or.inl ⟨by rfl, ?_⟩) ?_ ?_
                      rotate_left
                      · intro w'
                        go_simp
                        with_reducible rfl
                      rotate_left
                      · simp only [Act.put, List.setIfInBounds_toArray, List.set_cons_zero, List.set_cons_succ, i64_w, i32_w]
                        rfl
                      refine pure_ (i := 1) (N := some 93) (v := ?_) (a' := ?_) #[true, true, false, false, false, false, false, false, false, false] rfl rfl (by kernel_rfl) (fun _ _ _ h => h) (Or.inl ⟨by rfl, ?_⟩) ?_ ?_
                      rotate_left
                      · intro w'
                        go_simp
                        with_reducible rfl
                      rotate_left
                      · simp only [Act.put, List.setIfInBounds_toArray, List.set_cons_zero, List.set_cons_succ, i64_w, i32_w]
                        rfl
                      refine pure_ (i := 2) (N := some 94) (v := ?_) (a' := ?_) #[true, true, true, false, false, false, false, false, false, false] rfl rfl (by kernel_rfl) (fun _ _ _ h => h) (Or.inl ⟨by rfl, ?_⟩) ?_ ?_
                      rotate_left
                      · intro w'
                        go_simp
                        with_reducible rfl
                      rotate_left
                      · simp only [Act.put, List.setIfInBounds_toArray, List.set_cons_zero, List.set_cons_succ, i64_w, i32_w]
                        rfl
                      refine pure_ (i := 6) (N := some 98) (v := ?_) (a' := ?_) #[true, true, true, false, false, false, true, false, false, false] rfl rfl (by kernel_rfl) (fun _ _ _ h => h) (Or.inl ⟨by rfl, ?_⟩) ?_ ?_
                      rotate_left
                      · intro w'
                        go_simp
                        with_reducible rfl
                      rotate_left
                      · simp only [Act.put, List.setIfInBounds_toArray, List.set_cons_zero, List.set_cons_succ, i64_w, i32_w]
                        rfl
                      refine pure_ (i := 3) (N := some 95) (v := ?_) (a' := ?_) #[true, true, true, true, false, false, true, false, false, false] rfl rfl (by kernel_rfl) (fun _ _ _ h => h) (Or.inl ⟨by rfl, ?_⟩) ?_ ?_
                      rotate_left
                      · intro w'
                        go_simp
                        with_reducible rfl
                      rotate_left
                      · simp only [Act.put, List.setIfInBounds_toArray, List.set_cons_zero, List.set_cons_succ, i64_w, i32_w]
                        rfl
                      refine pure_ (i := 7) (N := some 99) (v := ?_) (a' := ?_) #[true, true, true, true, false, false, true, true, false, false] rfl rfl (by kernel_rfl) (fun _ _ _ h => h) (Or.inl ⟨by rfl, ?_⟩) ?_ ?_
                      rotate_left
                      · intro w'
                        go_simp
                        with_reducible rfl
                      rotate_left
                      · simp only [Act.put, List.setIfInBounds_toArray, List.set_cons_zero, List.set_cons_succ, i64_w, i32_w]
                        rfl
                      refine take_ (i := 4) (N := some 96) (v := ?_) (a' := ?_) #[true, true, true, true, true, false, true, true, false, false] rfl rfl (by kernel_rfl) (fun _ _ _ h => h) (Or.inl ⟨by rfl, ?_⟩) hHeld ?_ ?_
                      rotate_left
                      · intro w' hS'
                        obtain ⟨s1_, s2_⟩ := hS'
                        go_simp
                        with_reducible rfl
                      rotate_left
                      · simp only [Act.put, List.setIfInBounds_toArray, List.set_cons_zero, List.set_cons_succ, i64_w, i32_w]
                        rfl
                      refine take_ (i := 8) (N := some 100) (v := ?_) (a' := ?_) #[true, true, true, true, true, false, true, true, true, false] rfl rfl (by kernel_rfl) (fun _ _ _ h => h) (Or.inl ⟨by rfl, ?_⟩) hHeld ?_ ?_
                      rotate_left
                      · intro w' hS'
                        obtain ⟨s1_, s2_⟩ := hS'
                        go_simp
                        with_reducible rfl
                      rotate_left
                      · simp only [Act.put, List.setIfInBounds_toArray, List.set_cons_zero, List.set_cons_succ, i64_w, i32_w]
                        rfl
                      refine one_ (i := 5) (N := some 97) #[true, true, true, true, true, true, true, true, true, false] rfl rfl (by kernel_rfl) (by decide) (fun K hK => ?_)
                      refine goes_ Try.func11 (by kernel_rfl) rfl #[.pointer (some ⟨g, 0, none⟩), .bool false] (by rfl) rfl rfl (by (try simp only [List.map_toArray, List.map_cons, List.map_nil]); first | done | rfl) ?_
                      with_reducible refine (Wire.tpassz (y := true) (z := z) (r := r) HI3.out (by have := HBL.out; omega) (by have := HOL.out; omega) (by have := HUL.out; omega) false ((Wire.goesO ho).trans rfl) HZ.out).mono ?_
                      rintro e w6 ⟨rfl, hT, hb, hk, ho⟩
                      refine ⟨_, rfl, ?_⟩
                      have HI4 := Aside0.mk hT
                      have n0_ := Aside0.mk (HB3.out.trans hb)
                      have n2_ := Aside0.mk (hk.reads HT2.out HTE.out)
                      have hS1 := hk.cell (p := ad.add q) (by rw [add_block]; exact HTE.out ad rfl (by omega)) hHeld.1
                      have hS2 := Wire.only_cell ho (p := a1) (fun hp => hp.elim hzg hzl) hHeld.2
                      clear HB3 HI3 HT2 hT hb hk ho hHeld
                      have HB3 := n0_
                      have HT2 := n2_
                      clear n0_ n2_
                      refine hK.out _ _ ⟨hS1, hS2⟩ (fun hHeld => ?_)
                      clear hK K
                      refine norm_ (a' := ?_) ?_ ?_
                      rotate_left
                      · show Act.put _ (some 97) _ = _
                        simp only [Act.put, List.setIfInBounds_toArray, List.set_cons_zero, List.set_cons_succ, i64_w, i32_w]
                        rfl
                      refine pure_ (i := 9) (N := some 101) (v := ?_) (a' := ?_) #[true, true, true, true, true, true, true, true, true, true] rfl rfl (by kernel_rfl) (fun _ _ _ h => h) (Or.inl ⟨by rfl, ?_⟩) ?_ ?_
                      rotate_left
                      · intro w'
                        go_simp
                        with_reducible rfl
                      rotate_left
                      · simp only [Act.put, List.setIfInBounds_toArray, List.set_cons_zero, List.set_cons_succ, i64_w, i32_w]
                        rfl
                      refine done_ (by kernel_rfl) ?_
                      clear hHeld
                      go_wp2
                      have HI5 := HI4.out
                      rw [show bent + Wire.bends [] ones false = bent + 1 from congrArg (fun z_ => bent + z_) ((Wire.bendsO ho).trans rfl)] at HI5
                      rw [show ([] : List Bool).drop 1 = [] from rfl] at HI5
                      go_roundw
                      case rel =>
                        refine ⟨q + 1, by omega, by first | rfl | (simp; done), [], r, ones - 1, bent + 1, nk, n4, Ak, ck, Ay, c4, rfl, rfl, (by first | rfl | (congr 1; omega) | (simp; done) | (simp; omega)), (by first | rfl | (congr 1; omega) | (simp; done) | (simp; omega)), HKN, ⟨by have := HZ.out; have := HUL.out; have e := congrArg List.length (HZ.out); simp only [List.length_append, List.length_cons, List.length_nil] at e; omega⟩, ⟨by have := HKL.out; omega⟩, ⟨by have := HOL.out; omega⟩, ⟨by have := HBL.out; omega⟩, ⟨HTU.out _ _ _ _ _ _ _ _ _ _ HI5⟩, HB3, HT2⟩
                      case measure => (simp [intOf]; omega)
                  · cases xq with
                    | true =>
                      have HIk := HI
                      have hnk0 : nk < 1 := by have := HKN.out; simp only [List.length_nil] at this; omega
                      clear HI
                      have g_0 : decide ((0 : Int) < (nk : Int)) = false := decide_eq_false (by omega)
                      have g_1 : decide (0 < nk) = false := decide_eq_false (by omega)
                      have g_2 : decide ((0 : Int) < (ones : Int)) = false := decide_eq_false (by omega)
                      have g_3 : decide (0 < ones) = false := decide_eq_false (by omega)
                      obtain ⟨a1, n2, c1, w3, z, r, hrun, hz, hn2, hT, hb, hk, hcz, hzg, hzl⟩ := HIk.out.uput true (by have := HUL.out; omega)
                      have hxq := Wire.KeptE.cell hk (p := ad.add q) (by rw [add_block]; exact HTE.out ad rfl (by omega)) hx
                      obtain ⟨Ay, n4, c4, hn4, hcutu, hTu⟩ := Wire.Trio.ucut (B := w.heap.size) (A := some a1) (n := n2) (c := c1) (b := z) (s := r) hn2
                      have hup := eq_true (show 0 < n2 by omega)
                      have hup2 := eq_true (show (0 : Int) < (n2 : Int) by omega)
                      have HT2 := Aside0.mk (hk.reads HT.out HTE.out)
                      have HI3 := Aside0.mk hT
                      have HB3 := Aside0.mk (HB.out.trans hb)
                      have HR := Aside0.mk hrun
                      have HZ := Aside0.mk hz
                      have HXQ := Aside0.mk hxq
                      have HCZ := Aside0.mk hcz
                      have HK := Aside0.mk hk
                      have HTU := Aside0.mk hTu
                      replace hn2 := Aside0.mk hn2
                      replace hn4 := Aside0.mk hn4
                      clear hT hb hrun hz hxq hcz hk hTu HB HT HIk
                      go_wp2_with (first
                        | ((with_reducible refine gate_builtin (b := .append) (xs := #[.tmp 88, .tmp 90]) rfl ?_); refine Wire.wpList_append_run rfl (.tmp 88) (.tmp 90) 28 rfl (.slice Au nu cu) (.slice (some ⟨wr.heap.size, 0, none⟩) 1 1) rfl rfl (.slice (some a1) n2 c1) w3 HR.out ?_))
                      refine start_ (n := 10) (S := fun W => W.cell? (ad.add q) = some (.bool true) ∧ W.cell? a1 = some (.bool z)) (ds := []) #[false, false, false, false, false, false, false, false, false, false] (by kernel_rfl) rfl rfl ⟨HXQ.out, HCZ.out⟩ (fun hHeld => ?_)
                      have hb0 : Below w3.heap.size w3 w3.drew := below_drew1 (Below.refl _ _)
                      have n0_ := Aside0.mk (below_drew1 HB3.out)
                      have n1_ := Aside0.mk (HI3.out.below hb0 (fun k hk => Or.inl hk))
                      have n2_ := Aside0.mk (show ReadsOf Value.bool false w3.drew (some ad) t.length t from HT2.out)
                      clear HB3 HI3 HT2 hb0 HK HR HXQ HCZ
                      have HB3 := n0_
                      have HI3 := n1_
                      have HT2 := n2_
                      clear n0_ n1_ n2_
                      generalize w3.drew = W0 at HB3 HI3 HT2 hHeld ⊢
                      refine pure_ (i := 0) (N := some 92) (v := ?_) (a' := ?_) #[true, false, false, false, false, false, false, false, false, false] rfl rfl (by kernel_rfl) (fun _ _ _ h => h) (Or.inl ⟨by rfl, ?_⟩) ?_ ?_
                      rotate_left
                      · intro w'
                        go_simp
                        with_reducible rfl
                      rotate_left
                      · simp only [Act.put, List.setIfInBounds_toArray, List.set_cons_zero, List.set_cons_succ, i64_w, i32_w]
                        rfl
                      refine pure_ (i := 1) (N := some 93) (v := ?_) (a' := ?_) #[true, true, false, false, false, false, false, false, false, false] rfl rfl (by kernel_rfl) (fun _ _ _ h => h) (Or.inl ⟨by rfl, ?_⟩) ?_ ?_
                      rotate_left
                      · intro w'
                        go_simp
                        with_reducible rfl
                      rotate_left
                      · simp only [Act.put, List.setIfInBounds_toArray, List.set_cons_zero, List.set_cons_succ, i64_w, i32_w]
                        rfl
                      refine pure_ (i := 2) (N := some 94) (v := ?_) (a' := ?_) #[true, true, true, false, false, false, false, false, false, false] rfl rfl (by kernel_rfl) (fun _ _ _ h => h) (Or.inl ⟨by rfl, ?_⟩) ?_ ?_
                      rotate_left
                      · intro w'
                        go_simp
                        with_reducible rfl
                      rotate_left
                      · simp only [Act.put, List.setIfInBounds_toArray, List.set_cons_zero, List.set_cons_succ, i64_w, i32_w]
                        rfl
                      refine pure_ (i := 6) (N := some 98) (v := ?_) (a' := ?_) #[true, true, true, false, false, false, true, false, false, false] rfl rfl (by kernel_rfl) (fun _ _ _ h => h) (Or.inl ⟨by rfl, ?_⟩) ?_ ?_
                      rotate_left
                      · intro w'
                        go_simp
                        with_reducible rfl
                      rotate_left
                      · simp only [Act.put, List.setIfInBounds_toArray, List.set_cons_zero, List.set_cons_succ, i64_w, i32_w]
                        rfl
                      refine pure_ (i := 3) (N := some 95) (v := ?_) (a' := ?_) #[true, true, true, true, false, false, true, false, false, false] rfl rfl (by kernel_rfl) (fun _ _ _ h => h) (Or.inl ⟨by rfl, ?_⟩) ?_ ?_
                      rotate_left
                      · intro w'
                        go_simp
                        with_reducible rfl
                      rotate_left
                      · simp only [Act.put, List.setIfInBounds_toArray, List.set_cons_zero, List.set_cons_succ, i64_w, i32_w]
                        rfl
                      refine pure_ (i := 7) (N := some 99) (v := ?_) (a' := ?_) #[true, true, true, true, false, false, true, true, false, false] rfl rfl (by kernel_rfl) (fun _ _ _ h => h) (Or.inl ⟨by rfl, ?_⟩) ?_ ?_
                      rotate_left
                      · intro w'
                        go_simp
                        with_reducible rfl
                      rotate_left
                      · simp only [Act.put, List.setIfInBounds_toArray, List.set_cons_zero, List.set_cons_succ, i64_w, i32_w]
                        rfl
                      refine take_ (i := 4) (N := some 96) (v := ?_) (a' := ?_) #[true, true, true, true, true, false, true, true, false, false] rfl rfl (by kernel_rfl) (fun _ _ _ h => h) (Or.inl ⟨by rfl, ?_⟩) hHeld ?_ ?_
                      rotate_left
                      · intro w' hS'
                        obtain ⟨s1_, s2_⟩ := hS'
                        go_simp
                        with_reducible rfl
                      rotate_left
                      · simp only [Act.put, List.setIfInBounds_toArray, List.set_cons_zero, List.set_cons_succ, i64_w, i32_w]
                        rfl
                      refine take_ (i := 8) (N := some 100) (v := ?_) (a' := ?_) #[true, true, true, true, true, false, true, true, true, false] rfl rfl (by kernel_rfl) (fun _ _ _ h => h) (Or.inl ⟨by rfl, ?_⟩) hHeld ?_ ?_
                      rotate_left
                      · intro w' hS'
                        obtain ⟨s1_, s2_⟩ := hS'
                        go_simp
                        with_reducible rfl
                      rotate_left
                      · simp only [Act.put, List.setIfInBounds_toArray, List.set_cons_zero, List.set_cons_succ, i64_w, i32_w]
                        rfl
                      refine one_ (i := 5) (N := some 97) #[true, true, true, true, true, true, true, true, true, false] rfl rfl (by kernel_rfl) (by decide) (fun K hK => ?_)
                      refine goes_ Try.func11 (by kernel_rfl) rfl #[.pointer (some ⟨g, 0, none⟩), .bool true] (by rfl) rfl rfl (by (try simp only [List.map_toArray, List.map_cons, List.map_nil]); first | done | rfl) ?_
                      with_reducible refine (Wire.tpassz (y := true) (z := z) (r := r) HI3.out (by have := HBL.out; omega) (by have := HOL.out; omega) (by have := HUL.out; omega) true ((Wire.goesZ ho).trans rfl) HZ.out).mono ?_
                      rintro e w6 ⟨rfl, hT, hb, hk, ho⟩
                      refine ⟨_, rfl, ?_⟩
                      have HI4 := Aside0.mk hT
                      have n0_ := Aside0.mk (HB3.out.trans hb)
                      have n2_ := Aside0.mk (hk.reads HT2.out HTE.out)
                      have hS1 := hk.cell (p := ad.add q) (by rw [add_block]; exact HTE.out ad rfl (by omega)) hHeld.1
                      have hS2 := Wire.only_cell ho (p := a1) (fun hp => hp.elim hzg hzl) hHeld.2
                      clear HB3 HI3 HT2 hT hb hk ho hHeld
                      have HB3 := n0_
                      have HT2 := n2_
                      clear n0_ n2_
                      refine hK.out _ _ ⟨hS1, hS2⟩ (fun hHeld => ?_)
                      clear hK K
                      refine norm_ (a' := ?_) ?_ ?_
                      rotate_left
                      · show Act.put _ (some 97) _ = _
                        simp only [Act.put, List.setIfInBounds_toArray, List.set_cons_zero, List.set_cons_succ, i64_w, i32_w]
                        rfl
                      refine pure_ (i := 9) (N := some 101) (v := ?_) (a' := ?_) #[true, true, true, true, true, true, true, true, true, true] rfl rfl (by kernel_rfl) (fun _ _ _ h => h) (Or.inl ⟨by rfl, ?_⟩) ?_ ?_
                      rotate_left
                      · intro w'
                        go_simp
                        with_reducible rfl
                      rotate_left
                      · simp only [Act.put, List.setIfInBounds_toArray, List.set_cons_zero, List.set_cons_succ, i64_w, i32_w]
                        rfl
                      refine done_ (by kernel_rfl) ?_
                      clear hHeld
                      go_wp2
                      have HI5 := HI4.out
                      rw [show bent + Wire.bends [] ones true = bent + 0 from congrArg (fun z_ => bent + z_) ((Wire.bendsZ ho).trans rfl)] at HI5
                      rw [show ([] : List Bool).drop 1 = [] from rfl] at HI5
                      rw [show ones - 1 = ones by omega] at HI5
                      go_roundw
                      case rel =>
                        refine ⟨q + 1, by omega, by first | rfl | (simp; done), [], r, ones, bent + 0, nk, n4, Ak, ck, Ay, c4, rfl, rfl, (by first | rfl | (congr 1; omega) | (simp; done) | (simp; omega)), (by first | rfl | (congr 1; omega) | (simp; done) | (simp; omega)), HKN, ⟨by have := HZ.out; have := HUL.out; have e := congrArg List.length (HZ.out); simp only [List.length_append, List.length_cons, List.length_nil] at e; omega⟩, ⟨by have := HKL.out; omega⟩, ⟨by have := HOL.out; omega⟩, ⟨by have := HBL.out; omega⟩, ⟨HTU.out _ _ _ _ _ _ _ _ _ _ HI5⟩, HB3, HT2⟩
                      case measure => (simp [intOf]; omega)
                    | false =>
                      have HIk := HI
                      have hnk0 : nk < 1 := by have := HKN.out; simp only [List.length_nil] at this; omega
                      clear HI
                      have g_0 : decide ((0 : Int) < (nk : Int)) = false := decide_eq_false (by omega)
                      have g_1 : decide (0 < nk) = false := decide_eq_false (by omega)
                      have g_2 : decide ((0 : Int) < (ones : Int)) = false := decide_eq_false (by omega)
                      have g_3 : decide (0 < ones) = false := decide_eq_false (by omega)
                      obtain ⟨a1, n2, c1, w3, z, r, hrun, hz, hn2, hT, hb, hk, hcz, hzg, hzl⟩ := HIk.out.uput false (by have := HUL.out; omega)
                      have hxq := Wire.KeptE.cell hk (p := ad.add q) (by rw [add_block]; exact HTE.out ad rfl (by omega)) hx
                      obtain ⟨Ay, n4, c4, hn4, hcutu, hTu⟩ := Wire.Trio.ucut (B := w.heap.size) (A := some a1) (n := n2) (c := c1) (b := z) (s := r) hn2
                      have hup := eq_true (show 0 < n2 by omega)
                      have hup2 := eq_true (show (0 : Int) < (n2 : Int) by omega)
                      have HT2 := Aside0.mk (hk.reads HT.out HTE.out)
                      have HI3 := Aside0.mk hT
                      have HB3 := Aside0.mk (HB.out.trans hb)
                      have HR := Aside0.mk hrun
                      have HZ := Aside0.mk hz
                      have HXQ := Aside0.mk hxq
                      have HCZ := Aside0.mk hcz
                      have HK := Aside0.mk hk
                      have HTU := Aside0.mk hTu
                      replace hn2 := Aside0.mk hn2
                      replace hn4 := Aside0.mk hn4
                      clear hT hb hrun hz hxq hcz hk hTu HB HT HIk
                      go_wp2_with (first
                        | ((with_reducible refine gate_builtin (b := .append) (xs := #[.tmp 88, .tmp 90]) rfl ?_); refine Wire.wpList_append_run rfl (.tmp 88) (.tmp 90) 28 rfl (.slice Au nu cu) (.slice (some ⟨wr.heap.size, 0, none⟩) 1 1) rfl rfl (.slice (some a1) n2 c1) w3 HR.out ?_))
                      refine start_ (n := 10) (S := fun W => W.cell? (ad.add q) = some (.bool false) ∧ W.cell? a1 = some (.bool z)) (ds := []) #[false, false, false, false, false, false, false, false, false, false] (by kernel_rfl) rfl rfl ⟨HXQ.out, HCZ.out⟩ (fun hHeld => ?_)
                      have hb0 : Below w3.heap.size w3 w3.drew := below_drew1 (Below.refl _ _)
                      have n0_ := Aside0.mk (below_drew1 HB3.out)
                      have n1_ := Aside0.mk (HI3.out.below hb0 (fun k hk => Or.inl hk))
                      have n2_ := Aside0.mk (show ReadsOf Value.bool false w3.drew (some ad) t.length t from HT2.out)
                      clear HB3 HI3 HT2 hb0 HK HR HXQ HCZ
                      have HB3 := n0_
                      have HI3 := n1_
                      have HT2 := n2_
                      clear n0_ n1_ n2_
                      generalize w3.drew = W0 at HB3 HI3 HT2 hHeld ⊢
                      refine pure_ (i := 0) (N := some 92) (v := ?_) (a' := ?_) #[true, false, false, false, false, false, false, false, false, false] rfl rfl (by kernel_rfl) (fun _ _ _ h => h) (Or.inl ⟨by rfl, ?_⟩) ?_ ?_
                      rotate_left
                      · intro w'
                        go_simp
                        with_reducible rfl
                      rotate_left
                      · simp only [Act.put, List.setIfInBounds_toArray, List.set_cons_zero, List.set_cons_succ, i64_w, i32_w]
                        rfl
                      refine pure_ (i := 1) (N := some 93) (v := ?_) (a' := ?_) #[true, true, false, false, false, false, false, false, false, false] rfl rfl (by kernel_rfl) (fun _ _ _ h => h) (Or.inl ⟨by rfl, ?_⟩) ?_ ?_
                      rotate_left
                      · intro w'
                        go_simp
                        with_reducible rfl
                      rotate_left
                      · simp only [Act.put, List.setIfInBounds_toArray, List.set_cons_zero, List.set_cons_succ, i64_w, i32_w]
                        rfl
                      refine pure_ (i := 2) (N := some 94) (v := ?_) (a' := ?_) #[true, true, true, false, false, false, false, false, false, false] rfl rfl (by kernel_rfl) (fun _ _ _ h => h) (Or.inl ⟨by rfl, ?_⟩) ?_ ?_
                      rotate_left
                      · intro w'
                        go_simp
                        with_reducible rfl
                      rotate_left
                      · simp only [Act.put, List.setIfInBounds_toArray, List.set_cons_zero, List.set_cons_succ, i64_w, i32_w]
                        rfl
                      refine pure_ (i := 6) (N := some 98) (v := ?_) (a' := ?_) #[true, true, true, false, false, false, true, false, false, false] rfl rfl (by kernel_rfl) (fun _ _ _ h => h) (Or.inl ⟨by rfl, ?_⟩) ?_ ?_
                      rotate_left
                      · intro w'
                        go_simp
                        with_reducible rfl
                      rotate_left
                      · simp only [Act.put, List.setIfInBounds_toArray, List.set_cons_zero, List.set_cons_succ, i64_w, i32_w]
                        rfl
                      refine pure_ (i := 3) (N := some 95) (v := ?_) (a' := ?_) #[true, true, true, true, false, false, true, false, false, false] rfl rfl (by kernel_rfl) (fun _ _ _ h => h) (Or.inl ⟨by rfl, ?_⟩) ?_ ?_
                      rotate_left
                      · intro w'
                        go_simp
                        with_reducible rfl
                      rotate_left
                      · simp only [Act.put, List.setIfInBounds_toArray, List.set_cons_zero, List.set_cons_succ, i64_w, i32_w]
                        rfl
                      refine pure_ (i := 7) (N := some 99) (v := ?_) (a' := ?_) #[true, true, true, true, false, false, true, true, false, false] rfl rfl (by kernel_rfl) (fun _ _ _ h => h) (Or.inl ⟨by rfl, ?_⟩) ?_ ?_
                      rotate_left
                      · intro w'
                        go_simp
                        with_reducible rfl
                      rotate_left
                      · simp only [Act.put, List.setIfInBounds_toArray, List.set_cons_zero, List.set_cons_succ, i64_w, i32_w]
                        rfl
                      refine take_ (i := 4) (N := some 96) (v := ?_) (a' := ?_) #[true, true, true, true, true, false, true, true, false, false] rfl rfl (by kernel_rfl) (fun _ _ _ h => h) (Or.inl ⟨by rfl, ?_⟩) hHeld ?_ ?_
                      rotate_left
                      · intro w' hS'
                        obtain ⟨s1_, s2_⟩ := hS'
                        go_simp
                        with_reducible rfl
                      rotate_left
                      · simp only [Act.put, List.setIfInBounds_toArray, List.set_cons_zero, List.set_cons_succ, i64_w, i32_w]
                        rfl
                      refine take_ (i := 8) (N := some 100) (v := ?_) (a' := ?_) #[true, true, true, true, true, false, true, true, true, false] rfl rfl (by kernel_rfl) (fun _ _ _ h => h) (Or.inl ⟨by rfl, ?_⟩) hHeld ?_ ?_
                      rotate_left
                      · intro w' hS'
                        obtain ⟨s1_, s2_⟩ := hS'
                        go_simp
                        with_reducible rfl
                      rotate_left
                      · simp only [Act.put, List.setIfInBounds_toArray, List.set_cons_zero, List.set_cons_succ, i64_w, i32_w]
                        rfl
                      refine one_ (i := 5) (N := some 97) #[true, true, true, true, true, true, true, true, true, false] rfl rfl (by kernel_rfl) (by decide) (fun K hK => ?_)
                      refine goes_ Try.func11 (by kernel_rfl) rfl #[.pointer (some ⟨g, 0, none⟩), .bool false] (by rfl) rfl rfl (by (try simp only [List.map_toArray, List.map_cons, List.map_nil]); first | done | rfl) ?_
                      with_reducible refine (Wire.tpassz (y := false) (z := z) (r := r) HI3.out (by have := HBL.out; omega) (by have := HOL.out; omega) (by have := HUL.out; omega) false ((Wire.goesZ ho).trans rfl) HZ.out).mono ?_
                      rintro e w6 ⟨rfl, hT, hb, hk, ho⟩
                      refine ⟨_, rfl, ?_⟩
                      have HI4 := Aside0.mk hT
                      have n0_ := Aside0.mk (HB3.out.trans hb)
                      have n2_ := Aside0.mk (hk.reads HT2.out HTE.out)
                      have hS1 := hk.cell (p := ad.add q) (by rw [add_block]; exact HTE.out ad rfl (by omega)) hHeld.1
                      have hS2 := Wire.only_cell ho (p := a1) (fun hp => hp.elim hzg hzl) hHeld.2
                      clear HB3 HI3 HT2 hT hb hk ho hHeld
                      have HB3 := n0_
                      have HT2 := n2_
                      clear n0_ n2_
                      refine hK.out _ _ ⟨hS1, hS2⟩ (fun hHeld => ?_)
                      clear hK K
                      refine norm_ (a' := ?_) ?_ ?_
                      rotate_left
                      · show Act.put _ (some 97) _ = _
                        simp only [Act.put, List.setIfInBounds_toArray, List.set_cons_zero, List.set_cons_succ, i64_w, i32_w]
                        rfl
                      refine pure_ (i := 9) (N := some 101) (v := ?_) (a' := ?_) #[true, true, true, true, true, true, true, true, true, true] rfl rfl (by kernel_rfl) (fun _ _ _ h => h) (Or.inl ⟨by rfl, ?_⟩) ?_ ?_
                      rotate_left
                      · intro w'
                        go_simp
                        with_reducible rfl
                      rotate_left
                      · simp only [Act.put, List.setIfInBounds_toArray, List.set_cons_zero, List.set_cons_succ, i64_w, i32_w]
                        rfl
                      refine done_ (by kernel_rfl) ?_
                      clear hHeld
                      go_wp2
                      have HI5 := HI4.out
                      rw [show bent + Wire.bends [] ones false = bent + 0 from congrArg (fun z_ => bent + z_) ((Wire.bendsZ ho).trans rfl)] at HI5
                      rw [show ([] : List Bool).drop 1 = [] from rfl] at HI5
                      rw [show ones - 1 = ones by omega] at HI5
                      go_roundw
                      case rel =>
                        refine ⟨q + 1, by omega, by first | rfl | (simp; done), [], r, ones, bent + 0, nk, n4, Ak, ck, Ay, c4, rfl, rfl, (by first | rfl | (congr 1; omega) | (simp; done) | (simp; omega)), (by first | rfl | (congr 1; omega) | (simp; done) | (simp; omega)), HKN, ⟨by have := HZ.out; have := HUL.out; have e := congrArg List.length (HZ.out); simp only [List.length_append, List.length_cons, List.length_nil] at e; omega⟩, ⟨by have := HKL.out; omega⟩, ⟨by have := HOL.out; omega⟩, ⟨by have := HBL.out; omega⟩, ⟨HTU.out _ _ _ _ _ _ _ _ _ _ HI5⟩, HB3, HT2⟩
                      case measure => (simp [intOf]; omega)
                | cons m s =>
                  cases m with
                  | true =>
                    by_cases ho : 1 ≤ ones
                    · cases xq with
                      | true =>
                        obtain ⟨a0, Ax, n3, c3, ha0, hcm, hn1, hn3, hcutk, hTk⟩ := HI.out.kcut
                        subst ha0
                        have HIk := Aside0.mk hTk
                        have hn3b : n3 ≤ 20000 := by have := HKL.out; simp only [List.length_cons] at this; omega
                        replace hn3 := Aside0.mk hn3
                        have hpk := eq_true (show 0 < nk by omega)
                        have hpk2 := eq_true (show (0 : Int) < (nk : Int) by omega)
                        clear hTk
                        clear HI
                        have g_0 : decide ((0 : Int) < (nk : Int)) = true := decide_eq_true (by omega)
                        have g_1 : decide (0 < nk) = true := decide_eq_true (by omega)
                        have g_2 : decide ((0 : Int) < (ones : Int)) = true := decide_eq_true (by omega)
                        have g_3 : decide (0 < ones) = true := decide_eq_true (by omega)
                        obtain ⟨a1, n2, c1, w3, z, r, hrun, hz, hn2, hT, hb, hk, hcz, hzg, hzl⟩ := HIk.out.uput true (by have := HUL.out; omega)
                        have hxq := Wire.KeptE.cell hk (p := ad.add q) (by rw [add_block]; exact HTE.out ad rfl (by omega)) hx
                        obtain ⟨Ay, n4, c4, hn4, hcutu, hTu⟩ := Wire.Trio.ucut (B := w.heap.size) (A := some a1) (n := n2) (c := c1) (b := z) (s := r) hn2
                        have hup := eq_true (show 0 < n2 by omega)
                        have hup2 := eq_true (show (0 : Int) < (n2 : Int) by omega)
                        have HT2 := Aside0.mk (hk.reads HT.out HTE.out)
                        have HI3 := Aside0.mk hT
                        have HB3 := Aside0.mk (HB.out.trans hb)
                        have HR := Aside0.mk hrun
                        have HZ := Aside0.mk hz
                        have HXQ := Aside0.mk hxq
                        have HCZ := Aside0.mk hcz
                        have HK := Aside0.mk hk
                        have HTU := Aside0.mk hTu
                        replace hn2 := Aside0.mk hn2
                        replace hn4 := Aside0.mk hn4
                        clear hT hb hrun hz hxq hcz hk hTu HB HT HIk
                        go_wp2_with (first
                          | ((with_reducible refine gate_builtin (b := .append) (xs := #[.tmp 88, .tmp 90]) rfl ?_); refine Wire.wpList_append_run rfl (.tmp 88) (.tmp 90) 28 rfl (.slice Au nu cu) (.slice (some ⟨wr.heap.size, 0, none⟩) 1 1) rfl rfl (.slice (some a1) n2 c1) w3 HR.out ?_))
                        refine start_ (n := 10) (S := fun W => W.cell? (ad.add q) = some (.bool true) ∧ W.cell? a1 = some (.bool z)) (ds := []) #[false, false, false, false, false, false, false, false, false, false] (by kernel_rfl) rfl rfl ⟨HXQ.out, HCZ.out⟩ (fun hHeld => ?_)
                        have hb0 : Below w3.heap.size w3 w3.drew := below_drew1 (Below.refl _ _)
                        have n0_ := Aside0.mk (below_drew1 HB3.out)
                        have n1_ := Aside0.mk (HI3.out.below hb0 (fun k hk => Or.inl hk))
                        have n2_ := Aside0.mk (show ReadsOf Value.bool false w3.drew (some ad) t.length t from HT2.out)
                        clear HB3 HI3 HT2 hb0 HK HR HXQ HCZ
                        have HB3 := n0_
                        have HI3 := n1_
                        have HT2 := n2_
                        clear n0_ n1_ n2_
                        generalize w3.drew = W0 at HB3 HI3 HT2 hHeld ⊢
                        refine pure_ (i := 0) (N := some 92) (v := ?_) (a' := ?_) #[true, false, false, false, false, false, false, false, false, false] rfl rfl (by kernel_rfl) (fun _ _ _ h => h) (Or.inl ⟨by rfl, ?_⟩) ?_ ?_
                        rotate_left
                        · intro w'
                          go_simp
                          with_reducible rfl
                        rotate_left
                        · simp only [Act.put, List.setIfInBounds_toArray, List.set_cons_zero, List.set_cons_succ, i64_w, i32_w]
                          rfl
                        refine pure_ (i := 1) (N := some 93) (v := ?_) (a' := ?_) #[true, true, false, false, false, false, false, false, false, false] rfl rfl (by kernel_rfl) (fun _ _ _ h => h) (Or.inl ⟨by rfl, ?_⟩) ?_ ?_
                        rotate_left
                        · intro w'
                          go_simp
                          with_reducible rfl
                        rotate_left
                        · simp only [Act.put, List.setIfInBounds_toArray, List.set_cons_zero, List.set_cons_succ, i64_w, i32_w]
                          rfl
                        refine pure_ (i := 2) (N := some 94) (v := ?_) (a' := ?_) #[true, true, true, false, false, false, false, false, false, false] rfl rfl (by kernel_rfl) (fun _ _ _ h => h) (Or.inl ⟨by rfl, ?_⟩) ?_ ?_
                        rotate_left
                        · intro w'
                          go_simp
                          with_reducible rfl
                        rotate_left
                        · simp only [Act.put, List.setIfInBounds_toArray, List.set_cons_zero, List.set_cons_succ, i64_w, i32_w]
                          rfl
                        refine pure_ (i := 6) (N := some 98) (v := ?_) (a' := ?_) #[true, true, true, false, false, false, true, false, false, false] rfl rfl (by kernel_rfl) (fun _ _ _ h => h) (Or.inl ⟨by rfl, ?_⟩) ?_ ?_
                        rotate_left
                        · intro w'
                          go_simp
                          with_reducible rfl
                        rotate_left
                        · simp only [Act.put, List.setIfInBounds_toArray, List.set_cons_zero, List.set_cons_succ, i64_w, i32_w]
                          rfl
                        refine pure_ (i := 3) (N := some 95) (v := ?_) (a' := ?_) #[true, true, true, true, false, false, true, false, false, false] rfl rfl (by kernel_rfl) (fun _ _ _ h => h) (Or.inl ⟨by rfl, ?_⟩) ?_ ?_
                        rotate_left
                        · intro w'
                          go_simp
                          with_reducible rfl
                        rotate_left
                        · simp only [Act.put, List.setIfInBounds_toArray, List.set_cons_zero, List.set_cons_succ, i64_w, i32_w]
                          rfl
                        refine pure_ (i := 7) (N := some 99) (v := ?_) (a' := ?_) #[true, true, true, true, false, false, true, true, false, false] rfl rfl (by kernel_rfl) (fun _ _ _ h => h) (Or.inl ⟨by rfl, ?_⟩) ?_ ?_
                        rotate_left
                        · intro w'
                          go_simp
                          with_reducible rfl
                        rotate_left
                        · simp only [Act.put, List.setIfInBounds_toArray, List.set_cons_zero, List.set_cons_succ, i64_w, i32_w]
                          rfl
                        refine take_ (i := 4) (N := some 96) (v := ?_) (a' := ?_) #[true, true, true, true, true, false, true, true, false, false] rfl rfl (by kernel_rfl) (fun _ _ _ h => h) (Or.inl ⟨by rfl, ?_⟩) hHeld ?_ ?_
                        rotate_left
                        · intro w' hS'
                          obtain ⟨s1_, s2_⟩ := hS'
                          go_simp
                          with_reducible rfl
                        rotate_left
                        · simp only [Act.put, List.setIfInBounds_toArray, List.set_cons_zero, List.set_cons_succ, i64_w, i32_w]
                          rfl
                        refine take_ (i := 8) (N := some 100) (v := ?_) (a' := ?_) #[true, true, true, true, true, false, true, true, true, false] rfl rfl (by kernel_rfl) (fun _ _ _ h => h) (Or.inl ⟨by rfl, ?_⟩) hHeld ?_ ?_
                        rotate_left
                        · intro w' hS'
                          obtain ⟨s1_, s2_⟩ := hS'
                          go_simp
                          with_reducible rfl
                        rotate_left
                        · simp only [Act.put, List.setIfInBounds_toArray, List.set_cons_zero, List.set_cons_succ, i64_w, i32_w]
                          rfl
                        refine one_ (i := 5) (N := some 97) #[true, true, true, true, true, true, true, true, true, false] rfl rfl (by kernel_rfl) (by decide) (fun K hK => ?_)
                        refine goes_ Try.func11 (by kernel_rfl) rfl #[.pointer (some ⟨g, 0, none⟩), .bool true] (by rfl) rfl rfl (by (try simp only [List.map_toArray, List.map_cons, List.map_nil]); first | done | rfl) ?_
                        with_reducible refine (Wire.tpassz (y := true) (z := z) (r := r) HI3.out (by have := HBL.out; omega) (by have := HOL.out; omega) (by have := HUL.out; omega) true ((Wire.goesO ho).trans rfl) HZ.out).mono ?_
                        rintro e w6 ⟨rfl, hT, hb, hk, ho⟩
                        refine ⟨_, rfl, ?_⟩
                        have HI4 := Aside0.mk hT
                        have n0_ := Aside0.mk (HB3.out.trans hb)
                        have n2_ := Aside0.mk (hk.reads HT2.out HTE.out)
                        have hS1 := hk.cell (p := ad.add q) (by rw [add_block]; exact HTE.out ad rfl (by omega)) hHeld.1
                        have hS2 := Wire.only_cell ho (p := a1) (fun hp => hp.elim hzg hzl) hHeld.2
                        clear HB3 HI3 HT2 hT hb hk ho hHeld
                        have HB3 := n0_
                        have HT2 := n2_
                        clear n0_ n2_
                        refine hK.out _ _ ⟨hS1, hS2⟩ (fun hHeld => ?_)
                        clear hK K
                        refine norm_ (a' := ?_) ?_ ?_
                        rotate_left
                        · show Act.put _ (some 97) _ = _
                          simp only [Act.put, List.setIfInBounds_toArray, List.set_cons_zero, List.set_cons_succ, i64_w, i32_w]
                          rfl
                        refine pure_ (i := 9) (N := some 101) (v := ?_) (a' := ?_) #[true, true, true, true, true, true, true, true, true, true] rfl rfl (by kernel_rfl) (fun _ _ _ h => h) (Or.inl ⟨by rfl, ?_⟩) ?_ ?_
                        rotate_left
                        · intro w'
                          go_simp
                          with_reducible rfl
                        rotate_left
                        · simp only [Act.put, List.setIfInBounds_toArray, List.set_cons_zero, List.set_cons_succ, i64_w, i32_w]
                          rfl
                        refine done_ (by kernel_rfl) ?_
                        clear hHeld
                        go_wp2
                        have HI5 := HI4.out
                        rw [show bent + Wire.bends (true :: s) ones true = bent + 2 from congrArg (fun z_ => bent + z_) ((Wire.bendsO ho).trans rfl)] at HI5
                        rw [show (true :: s).drop 1 = s from rfl] at HI5
                        go_roundw
                        case rel =>
                          refine ⟨q + 1, by omega, by first | rfl | (simp; done), s, r, ones - 1, bent + 2, n3, n4, Ax, c3, Ay, c4, rfl, rfl, (by first | rfl | (congr 1; omega) | (simp; done) | (simp; omega)), (by first | rfl | (congr 1; omega) | (simp; done) | (simp; omega)), hn3, ⟨by have := HZ.out; have := HUL.out; have e := congrArg List.length (HZ.out); simp only [List.length_append, List.length_cons, List.length_nil] at e; omega⟩, ⟨by have := HKL.out; simp only [List.length_cons] at this; omega⟩, ⟨by have := HOL.out; omega⟩, ⟨by have := HBL.out; omega⟩, ⟨HTU.out _ _ _ _ _ _ _ _ _ _ HI5⟩, HB3, HT2⟩
                        case measure => (simp [intOf]; omega)
                      | false =>
                        obtain ⟨a0, Ax, n3, c3, ha0, hcm, hn1, hn3, hcutk, hTk⟩ := HI.out.kcut
                        subst ha0
                        have HIk := Aside0.mk hTk
                        have hn3b : n3 ≤ 20000 := by have := HKL.out; simp only [List.length_cons] at this; omega
                        replace hn3 := Aside0.mk hn3
                        have hpk := eq_true (show 0 < nk by omega)
                        have hpk2 := eq_true (show (0 : Int) < (nk : Int) by omega)
                        clear hTk
                        clear HI
                        have g_0 : decide ((0 : Int) < (nk : Int)) = true := decide_eq_true (by omega)
                        have g_1 : decide (0 < nk) = true := decide_eq_true (by omega)
                        have g_2 : decide ((0 : Int) < (ones : Int)) = true := decide_eq_true (by omega)
                        have g_3 : decide (0 < ones) = true := decide_eq_true (by omega)
                        obtain ⟨a1, n2, c1, w3, z, r, hrun, hz, hn2, hT, hb, hk, hcz, hzg, hzl⟩ := HIk.out.uput true (by have := HUL.out; omega)
                        have hxq := Wire.KeptE.cell hk (p := ad.add q) (by rw [add_block]; exact HTE.out ad rfl (by omega)) hx
                        obtain ⟨Ay, n4, c4, hn4, hcutu, hTu⟩ := Wire.Trio.ucut (B := w.heap.size) (A := some a1) (n := n2) (c := c1) (b := z) (s := r) hn2
                        have hup := eq_true (show 0 < n2 by omega)
                        have hup2 := eq_true (show (0 : Int) < (n2 : Int) by omega)
                        have HT2 := Aside0.mk (hk.reads HT.out HTE.out)
                        have HI3 := Aside0.mk hT
                        have HB3 := Aside0.mk (HB.out.trans hb)
                        have HR := Aside0.mk hrun
                        have HZ := Aside0.mk hz
                        have HXQ := Aside0.mk hxq
                        have HCZ := Aside0.mk hcz
                        have HK := Aside0.mk hk
                        have HTU := Aside0.mk hTu
                        replace hn2 := Aside0.mk hn2
                        replace hn4 := Aside0.mk hn4
                        clear hT hb hrun hz hxq hcz hk hTu HB HT HIk
                        go_wp2_with (first
                          | ((with_reducible refine gate_builtin (b := .append) (xs := #[.tmp 88, .tmp 90]) rfl ?_); refine Wire.wpList_append_run rfl (.tmp 88) (.tmp 90) 28 rfl (.slice Au nu cu) (.slice (some ⟨wr.heap.size, 0, none⟩) 1 1) rfl rfl (.slice (some a1) n2 c1) w3 HR.out ?_))
                        refine start_ (n := 10) (S := fun W => W.cell? (ad.add q) = some (.bool false) ∧ W.cell? a1 = some (.bool z)) (ds := []) #[false, false, false, false, false, false, false, false, false, false] (by kernel_rfl) rfl rfl ⟨HXQ.out, HCZ.out⟩ (fun hHeld => ?_)
                        have hb0 : Below w3.heap.size w3 w3.drew := below_drew1 (Below.refl _ _)
                        have n0_ := Aside0.mk (below_drew1 HB3.out)
                        have n1_ := Aside0.mk (HI3.out.below hb0 (fun k hk => Or.inl hk))
                        have n2_ := Aside0.mk (show ReadsOf Value.bool false w3.drew (some ad) t.length t from HT2.out)
                        clear HB3 HI3 HT2 hb0 HK HR HXQ HCZ
                        have HB3 := n0_
                        have HI3 := n1_
                        have HT2 := n2_
                        clear n0_ n1_ n2_
                        generalize w3.drew = W0 at HB3 HI3 HT2 hHeld ⊢
                        refine pure_ (i := 0) (N := some 92) (v := ?_) (a' := ?_) #[true, false, false, false, false, false, false, false, false, false] rfl rfl (by kernel_rfl) (fun _ _ _ h => h) (Or.inl ⟨by rfl, ?_⟩) ?_ ?_
                        rotate_left
                        · intro w'
                          go_simp
                          with_reducible rfl
                        rotate_left
                        · simp only [Act.put, List.setIfInBounds_toArray, List.set_cons_zero, List.set_cons_succ, i64_w, i32_w]
                          rfl
                        refine pure_ (i := 1) (N := some 93) (v := ?_) (a' := ?_) #[true, true, false, false, false, false, false, false, false, false] rfl rfl (by kernel_rfl) (fun _ _ _ h => h) (Or.inl ⟨by rfl, ?_⟩) ?_ ?_
                        rotate_left
                        · intro w'
                          go_simp
                          with_reducible rfl
                        rotate_left
                        · simp only [Act.put, List.setIfInBounds_toArray, List.set_cons_zero, List.set_cons_succ, i64_w, i32_w]
                          rfl
                        refine pure_ (i := 2) (N := some 94) (v := ?_) (a' := ?_) #[true, true, true, false, false, false, false, false, false, false] rfl rfl (by kernel_rfl) (fun _ _ _ h => h) (Or.inl ⟨by rfl, ?_⟩) ?_ ?_
                        rotate_left
                        · intro w'
                          go_simp
                          with_reducible rfl
                        rotate_left
                        · simp only [Act.put, List.setIfInBounds_toArray, List.set_cons_zero, List.set_cons_succ, i64_w, i32_w]
                          rfl
                        refine pure_ (i := 6) (N := some 98) (v := ?_) (a' := ?_) #[true, true, true, false, false, false, true, false, false, false] rfl rfl (by kernel_rfl) (fun _ _ _ h => h) (Or.inl ⟨by rfl, ?_⟩) ?_ ?_
                        rotate_left
                        · intro w'
                          go_simp
                          with_reducible rfl
                        rotate_left
                        · simp only [Act.put, List.setIfInBounds_toArray, List.set_cons_zero, List.set_cons_succ, i64_w, i32_w]
                          rfl
                        refine pure_ (i := 3) (N := some 95) (v := ?_) (a' := ?_) #[true, true, true, true, false, false, true, false, false, false] rfl rfl (by kernel_rfl) (fun _ _ _ h => h) (Or.inl ⟨by rfl, ?_⟩) ?_ ?_
                        rotate_left
                        · intro w'
                          go_simp
                          with_reducible rfl
                        rotate_left
                        · simp only [Act.put, List.setIfInBounds_toArray, List.set_cons_zero, List.set_cons_succ, i64_w, i32_w]
                          rfl
                        refine pure_ (i := 7) (N := some 99) (v := ?_) (a' := ?_) #[true, true, true, true, false, false, true, true, false, false] rfl rfl (by kernel_rfl) (fun _ _ _ h => h) (Or.inl ⟨by rfl, ?_⟩) ?_ ?_
                        rotate_left
                        · intro w'
                          go_simp
                          with_reducible rfl
                        rotate_left
                        · simp only [Act.put, List.setIfInBounds_toArray, List.set_cons_zero, List.set_cons_succ, i64_w, i32_w]
                          rfl
                        refine take_ (i := 4) (N := some 96) (v := ?_) (a' := ?_) #[true, true, true, true, true, false, true, true, false, false] rfl rfl (by kernel_rfl) (fun _ _ _ h => h) (Or.inl ⟨by rfl, ?_⟩) hHeld ?_ ?_
                        rotate_left
                        · intro w' hS'
                          obtain ⟨s1_, s2_⟩ := hS'
                          go_simp
                          with_reducible rfl
                        rotate_left
                        · simp only [Act.put, List.setIfInBounds_toArray, List.set_cons_zero, List.set_cons_succ, i64_w, i32_w]
                          rfl
                        refine take_ (i := 8) (N := some 100) (v := ?_) (a' := ?_) #[true, true, true, true, true, false, true, true, true, false] rfl rfl (by kernel_rfl) (fun _ _ _ h => h) (Or.inl ⟨by rfl, ?_⟩) hHeld ?_ ?_
                        rotate_left
                        · intro w' hS'
                          obtain ⟨s1_, s2_⟩ := hS'
                          go_simp
                          with_reducible rfl
                        rotate_left
                        · simp only [Act.put, List.setIfInBounds_toArray, List.set_cons_zero, List.set_cons_succ, i64_w, i32_w]
                          rfl
                        refine one_ (i := 5) (N := some 97) #[true, true, true, true, true, true, true, true, true, false] rfl rfl (by kernel_rfl) (by decide) (fun K hK => ?_)
                        refine goes_ Try.func11 (by kernel_rfl) rfl #[.pointer (some ⟨g, 0, none⟩), .bool false] (by rfl) rfl rfl (by (try simp only [List.map_toArray, List.map_cons, List.map_nil]); first | done | rfl) ?_
                        with_reducible refine (Wire.tpassz (y := true) (z := z) (r := r) HI3.out (by have := HBL.out; omega) (by have := HOL.out; omega) (by have := HUL.out; omega) false ((Wire.goesO ho).trans rfl) HZ.out).mono ?_
                        rintro e w6 ⟨rfl, hT, hb, hk, ho⟩
                        refine ⟨_, rfl, ?_⟩
                        have HI4 := Aside0.mk hT
                        have n0_ := Aside0.mk (HB3.out.trans hb)
                        have n2_ := Aside0.mk (hk.reads HT2.out HTE.out)
                        have hS1 := hk.cell (p := ad.add q) (by rw [add_block]; exact HTE.out ad rfl (by omega)) hHeld.1
                        have hS2 := Wire.only_cell ho (p := a1) (fun hp => hp.elim hzg hzl) hHeld.2
                        clear HB3 HI3 HT2 hT hb hk ho hHeld
                        have HB3 := n0_
                        have HT2 := n2_
                        clear n0_ n2_
                        refine hK.out _ _ ⟨hS1, hS2⟩ (fun hHeld => ?_)
                        clear hK K
                        refine norm_ (a' := ?_) ?_ ?_
                        rotate_left
                        · show Act.put _ (some 97) _ = _
                          simp only [Act.put, List.setIfInBounds_toArray, List.set_cons_zero, List.set_cons_succ, i64_w, i32_w]
                          rfl
                        refine pure_ (i := 9) (N := some 101) (v := ?_) (a' := ?_) #[true, true, true, true, true, true, true, true, true, true] rfl rfl (by kernel_rfl) (fun _ _ _ h => h) (Or.inl ⟨by rfl, ?_⟩) ?_ ?_
                        rotate_left
                        · intro w'
                          go_simp
                          with_reducible rfl
                        rotate_left
                        · simp only [Act.put, List.setIfInBounds_toArray, List.set_cons_zero, List.set_cons_succ, i64_w, i32_w]
                          rfl
                        refine done_ (by kernel_rfl) ?_
                        clear hHeld
                        go_wp2
                        have HI5 := HI4.out
                        rw [show bent + Wire.bends (true :: s) ones false = bent + 1 from congrArg (fun z_ => bent + z_) ((Wire.bendsO ho).trans rfl)] at HI5
                        rw [show (true :: s).drop 1 = s from rfl] at HI5
                        go_roundw
                        case rel =>
                          refine ⟨q + 1, by omega, by first | rfl | (simp; done), s, r, ones - 1, bent + 1, n3, n4, Ax, c3, Ay, c4, rfl, rfl, (by first | rfl | (congr 1; omega) | (simp; done) | (simp; omega)), (by first | rfl | (congr 1; omega) | (simp; done) | (simp; omega)), hn3, ⟨by have := HZ.out; have := HUL.out; have e := congrArg List.length (HZ.out); simp only [List.length_append, List.length_cons, List.length_nil] at e; omega⟩, ⟨by have := HKL.out; simp only [List.length_cons] at this; omega⟩, ⟨by have := HOL.out; omega⟩, ⟨by have := HBL.out; omega⟩, ⟨HTU.out _ _ _ _ _ _ _ _ _ _ HI5⟩, HB3, HT2⟩
                        case measure => (simp [intOf]; omega)
                    · cases xq with
                      | true =>
                        obtain ⟨a0, Ax, n3, c3, ha0, hcm, hn1, hn3, hcutk, hTk⟩ := HI.out.kcut
                        subst ha0
                        have HIk := Aside0.mk hTk
                        have hn3b : n3 ≤ 20000 := by have := HKL.out; simp only [List.length_cons] at this; omega
                        replace hn3 := Aside0.mk hn3
                        have hpk := eq_true (show 0 < nk by omega)
                        have hpk2 := eq_true (show (0 : Int) < (nk : Int) by omega)
                        clear hTk
                        clear HI
                        have g_0 : decide ((0 : Int) < (nk : Int)) = true := decide_eq_true (by omega)
                        have g_1 : decide (0 < nk) = true := decide_eq_true (by omega)
                        have g_2 : decide ((0 : Int) < (ones : Int)) = false := decide_eq_false (by omega)
                        have g_3 : decide (0 < ones) = false := decide_eq_false (by omega)
                        obtain ⟨a1, n2, c1, w3, z, r, hrun, hz, hn2, hT, hb, hk, hcz, hzg, hzl⟩ := HIk.out.uput false (by have := HUL.out; omega)
                        have hxq := Wire.KeptE.cell hk (p := ad.add q) (by rw [add_block]; exact HTE.out ad rfl (by omega)) hx
                        obtain ⟨Ay, n4, c4, hn4, hcutu, hTu⟩ := Wire.Trio.ucut (B := w.heap.size) (A := some a1) (n := n2) (c := c1) (b := z) (s := r) hn2
                        have hup := eq_true (show 0 < n2 by omega)
                        have hup2 := eq_true (show (0 : Int) < (n2 : Int) by omega)
                        have HT2 := Aside0.mk (hk.reads HT.out HTE.out)
                        have HI3 := Aside0.mk hT
                        have HB3 := Aside0.mk (HB.out.trans hb)
                        have HR := Aside0.mk hrun
                        have HZ := Aside0.mk hz
                        have HXQ := Aside0.mk hxq
                        have HCZ := Aside0.mk hcz
                        have HK := Aside0.mk hk
                        have HTU := Aside0.mk hTu
                        replace hn2 := Aside0.mk hn2
                        replace hn4 := Aside0.mk hn4
                        clear hT hb hrun hz hxq hcz hk hTu HB HT HIk
                        go_wp2_with (first
                          | ((with_reducible refine gate_builtin (b := .append) (xs := #[.tmp 88, .tmp 90]) rfl ?_); refine Wire.wpList_append_run rfl (.tmp 88) (.tmp 90) 28 rfl (.slice Au nu cu) (.slice (some ⟨wr.heap.size, 0, none⟩) 1 1) rfl rfl (.slice (some a1) n2 c1) w3 HR.out ?_))
                        refine start_ (n := 10) (S := fun W => W.cell? (ad.add q) = some (.bool true) ∧ W.cell? a1 = some (.bool z)) (ds := []) #[false, false, false, false, false, false, false, false, false, false] (by kernel_rfl) rfl rfl ⟨HXQ.out, HCZ.out⟩ (fun hHeld => ?_)
                        have hb0 : Below w3.heap.size w3 w3.drew := below_drew1 (Below.refl _ _)
                        have n0_ := Aside0.mk (below_drew1 HB3.out)
                        have n1_ := Aside0.mk (HI3.out.below hb0 (fun k hk => Or.inl hk))
                        have n2_ := Aside0.mk (show ReadsOf Value.bool false w3.drew (some ad) t.length t from HT2.out)
                        clear HB3 HI3 HT2 hb0 HK HR HXQ HCZ
                        have HB3 := n0_
                        have HI3 := n1_
                        have HT2 := n2_
                        clear n0_ n1_ n2_
                        generalize w3.drew = W0 at HB3 HI3 HT2 hHeld ⊢
                        refine pure_ (i := 0) (N := some 92) (v := ?_) (a' := ?_) #[true, false, false, false, false, false, false, false, false, false] rfl rfl (by kernel_rfl) (fun _ _ _ h => h) (Or.inl ⟨by rfl, ?_⟩) ?_ ?_
                        rotate_left
                        · intro w'
                          go_simp
                          with_reducible rfl
                        rotate_left
                        · simp only [Act.put, List.setIfInBounds_toArray, List.set_cons_zero, List.set_cons_succ, i64_w, i32_w]
                          rfl
                        refine pure_ (i := 1) (N := some 93) (v := ?_) (a' := ?_) #[true, true, false, false, false, false, false, false, false, false] rfl rfl (by kernel_rfl) (fun _ _ _ h => h) (Or.inl ⟨by rfl, ?_⟩) ?_ ?_
                        rotate_left
                        · intro w'
                          go_simp
                          with_reducible rfl
                        rotate_left
                        · simp only [Act.put, List.setIfInBounds_toArray, List.set_cons_zero, List.set_cons_succ, i64_w, i32_w]
                          rfl
                        refine pure_ (i := 2) (N := some 94) (v := ?_) (a' := ?_) #[true, true, true, false, false, false, false, false, false, false] rfl rfl (by kernel_rfl) (fun _ _ _ h => h) (Or.inl ⟨by rfl, ?_⟩) ?_ ?_
                        rotate_left
                        · intro w'
                          go_simp
                          with_reducible rfl
                        rotate_left
                        · simp only [Act.put, List.setIfInBounds_toArray, List.set_cons_zero, List.set_cons_succ, i64_w, i32_w]
                          rfl
                        refine pure_ (i := 6) (N := some 98) (v := ?_) (a' := ?_) #[true, true, true, false, false, false, true, false, false, false] rfl rfl (by kernel_rfl) (fun _ _ _ h => h) (Or.inl ⟨by rfl, ?_⟩) ?_ ?_
                        rotate_left
                        · intro w'
                          go_simp
                          with_reducible rfl
                        rotate_left
                        · simp only [Act.put, List.setIfInBounds_toArray, List.set_cons_zero, List.set_cons_succ, i64_w, i32_w]
                          rfl
                        refine pure_ (i := 3) (N := some 95) (v := ?_) (a' := ?_) #[true, true, true, true, false, false, true, false, false, false] rfl rfl (by kernel_rfl) (fun _ _ _ h => h) (Or.inl ⟨by rfl, ?_⟩) ?_ ?_
                        rotate_left
                        · intro w'
                          go_simp
                          with_reducible rfl
                        rotate_left
                        · simp only [Act.put, List.setIfInBounds_toArray, List.set_cons_zero, List.set_cons_succ, i64_w, i32_w]
                          rfl
                        refine pure_ (i := 7) (N := some 99) (v := ?_) (a' := ?_) #[true, true, true, true, false, false, true, true, false, false] rfl rfl (by kernel_rfl) (fun _ _ _ h => h) (Or.inl ⟨by rfl, ?_⟩) ?_ ?_
                        rotate_left
                        · intro w'
                          go_simp
                          with_reducible rfl
                        rotate_left
                        · simp only [Act.put, List.setIfInBounds_toArray, List.set_cons_zero, List.set_cons_succ, i64_w, i32_w]
                          rfl
                        refine take_ (i := 4) (N := some 96) (v := ?_) (a' := ?_) #[true, true, true, true, true, false, true, true, false, false] rfl rfl (by kernel_rfl) (fun _ _ _ h => h) (Or.inl ⟨by rfl, ?_⟩) hHeld ?_ ?_
                        rotate_left
                        · intro w' hS'
                          obtain ⟨s1_, s2_⟩ := hS'
                          go_simp
                          with_reducible rfl
                        rotate_left
                        · simp only [Act.put, List.setIfInBounds_toArray, List.set_cons_zero, List.set_cons_succ, i64_w, i32_w]
                          rfl
                        refine take_ (i := 8) (N := some 100) (v := ?_) (a' := ?_) #[true, true, true, true, true, false, true, true, true, false] rfl rfl (by kernel_rfl) (fun _ _ _ h => h) (Or.inl ⟨by rfl, ?_⟩) hHeld ?_ ?_
                        rotate_left
                        · intro w' hS'
                          obtain ⟨s1_, s2_⟩ := hS'
                          go_simp
                          with_reducible rfl
                        rotate_left
                        · simp only [Act.put, List.setIfInBounds_toArray, List.set_cons_zero, List.set_cons_succ, i64_w, i32_w]
                          rfl
                        refine one_ (i := 5) (N := some 97) #[true, true, true, true, true, true, true, true, true, false] rfl rfl (by kernel_rfl) (by decide) (fun K hK => ?_)
                        refine goes_ Try.func11 (by kernel_rfl) rfl #[.pointer (some ⟨g, 0, none⟩), .bool true] (by rfl) rfl rfl (by (try simp only [List.map_toArray, List.map_cons, List.map_nil]); first | done | rfl) ?_
                        with_reducible refine (Wire.tpassz (y := false) (z := z) (r := r) HI3.out (by have := HBL.out; omega) (by have := HOL.out; omega) (by have := HUL.out; omega) true ((Wire.goesZ ho).trans rfl) HZ.out).mono ?_
                        rintro e w6 ⟨rfl, hT, hb, hk, ho⟩
                        refine ⟨_, rfl, ?_⟩
                        have HI4 := Aside0.mk hT
                        have n0_ := Aside0.mk (HB3.out.trans hb)
                        have n2_ := Aside0.mk (hk.reads HT2.out HTE.out)
                        have hS1 := hk.cell (p := ad.add q) (by rw [add_block]; exact HTE.out ad rfl (by omega)) hHeld.1
                        have hS2 := Wire.only_cell ho (p := a1) (fun hp => hp.elim hzg hzl) hHeld.2
                        clear HB3 HI3 HT2 hT hb hk ho hHeld
                        have HB3 := n0_
                        have HT2 := n2_
                        clear n0_ n2_
                        refine hK.out _ _ ⟨hS1, hS2⟩ (fun hHeld => ?_)
                        clear hK K
                        refine norm_ (a' := ?_) ?_ ?_
                        rotate_left
                        · show Act.put _ (some 97) _ = _
                          simp only [Act.put, List.setIfInBounds_toArray, List.set_cons_zero, List.set_cons_succ, i64_w, i32_w]
                          rfl
                        refine pure_ (i := 9) (N := some 101) (v := ?_) (a' := ?_) #[true, true, true, true, true, true, true, true, true, true] rfl rfl (by kernel_rfl) (fun _ _ _ h => h) (Or.inl ⟨by rfl, ?_⟩) ?_ ?_
                        rotate_left
                        · intro w'
                          go_simp
                          with_reducible rfl
                        rotate_left
                        · simp only [Act.put, List.setIfInBounds_toArray, List.set_cons_zero, List.set_cons_succ, i64_w, i32_w]
                          rfl
                        refine done_ (by kernel_rfl) ?_
                        clear hHeld
                        go_wp2
                        have HI5 := HI4.out
                        rw [show bent + Wire.bends (true :: s) ones true = bent + 1 from congrArg (fun z_ => bent + z_) ((Wire.bendsZ ho).trans rfl)] at HI5
                        rw [show (true :: s).drop 1 = s from rfl] at HI5
                        rw [show ones - 1 = ones by omega] at HI5
                        go_roundw
                        case rel =>
                          refine ⟨q + 1, by omega, by first | rfl | (simp; done), s, r, ones, bent + 1, n3, n4, Ax, c3, Ay, c4, rfl, rfl, (by first | rfl | (congr 1; omega) | (simp; done) | (simp; omega)), (by first | rfl | (congr 1; omega) | (simp; done) | (simp; omega)), hn3, ⟨by have := HZ.out; have := HUL.out; have e := congrArg List.length (HZ.out); simp only [List.length_append, List.length_cons, List.length_nil] at e; omega⟩, ⟨by have := HKL.out; simp only [List.length_cons] at this; omega⟩, ⟨by have := HOL.out; omega⟩, ⟨by have := HBL.out; omega⟩, ⟨HTU.out _ _ _ _ _ _ _ _ _ _ HI5⟩, HB3, HT2⟩
                        case measure => (simp [intOf]; omega)
                      | false =>
                        obtain ⟨a0, Ax, n3, c3, ha0, hcm, hn1, hn3, hcutk, hTk⟩ := HI.out.kcut
                        subst ha0
                        have HIk := Aside0.mk hTk
                        have hn3b : n3 ≤ 20000 := by have := HKL.out; simp only [List.length_cons] at this; omega
                        replace hn3 := Aside0.mk hn3
                        have hpk := eq_true (show 0 < nk by omega)
                        have hpk2 := eq_true (show (0 : Int) < (nk : Int) by omega)
                        clear hTk
                        clear HI
                        have g_0 : decide ((0 : Int) < (nk : Int)) = true := decide_eq_true (by omega)
                        have g_1 : decide (0 < nk) = true := decide_eq_true (by omega)
                        have g_2 : decide ((0 : Int) < (ones : Int)) = false := decide_eq_false (by omega)
                        have g_3 : decide (0 < ones) = false := decide_eq_false (by omega)
                        obtain ⟨a1, n2, c1, w3, z, r, hrun, hz, hn2, hT, hb, hk, hcz, hzg, hzl⟩ := HIk.out.uput true (by have := HUL.out; omega)
                        have hxq := Wire.KeptE.cell hk (p := ad.add q) (by rw [add_block]; exact HTE.out ad rfl (by omega)) hx
                        obtain ⟨Ay, n4, c4, hn4, hcutu, hTu⟩ := Wire.Trio.ucut (B := w.heap.size) (A := some a1) (n := n2) (c := c1) (b := z) (s := r) hn2
                        have hup := eq_true (show 0 < n2 by omega)
                        have hup2 := eq_true (show (0 : Int) < (n2 : Int) by omega)
                        have HT2 := Aside0.mk (hk.reads HT.out HTE.out)
                        have HI3 := Aside0.mk hT
                        have HB3 := Aside0.mk (HB.out.trans hb)
                        have HR := Aside0.mk hrun
                        have HZ := Aside0.mk hz
                        have HXQ := Aside0.mk hxq
                        have HCZ := Aside0.mk hcz
                        have HK := Aside0.mk hk
                        have HTU := Aside0.mk hTu
                        replace hn2 := Aside0.mk hn2
                        replace hn4 := Aside0.mk hn4
                        clear hT hb hrun hz hxq hcz hk hTu HB HT HIk
                        go_wp2_with (first
                          | ((with_reducible refine gate_builtin (b := .append) (xs := #[.tmp 88, .tmp 90]) rfl ?_); refine Wire.wpList_append_run rfl (.tmp 88) (.tmp 90) 28 rfl (.slice Au nu cu) (.slice (some ⟨wr.heap.size, 0, none⟩) 1 1) rfl rfl (.slice (some a1) n2 c1) w3 HR.out ?_))
                        refine start_ (n := 10) (S := fun W => W.cell? (ad.add q) = some (.bool false) ∧ W.cell? a1 = some (.bool z)) (ds := []) #[false, false, false, false, false, false, false, false, false, false] (by kernel_rfl) rfl rfl ⟨HXQ.out, HCZ.out⟩ (fun hHeld => ?_)
                        have hb0 : Below w3.heap.size w3 w3.drew := below_drew1 (Below.refl _ _)
                        have n0_ := Aside0.mk (below_drew1 HB3.out)
                        have n1_ := Aside0.mk (HI3.out.below hb0 (fun k hk => Or.inl hk))
                        have n2_ := Aside0.mk (show ReadsOf Value.bool false w3.drew (some ad) t.length t from HT2.out)
                        clear HB3 HI3 HT2 hb0 HK HR HXQ HCZ
                        have HB3 := n0_
                        have HI3 := n1_
                        have HT2 := n2_
                        clear n0_ n1_ n2_
                        generalize w3.drew = W0 at HB3 HI3 HT2 hHeld ⊢
                        refine pure_ (i := 0) (N := some 92) (v := ?_) (a' := ?_) #[true, false, false, false, false, false, false, false, false, false] rfl rfl (by kernel_rfl) (fun _ _ _ h => h) (Or.inl ⟨by rfl, ?_⟩) ?_ ?_
                        rotate_left
                        · intro w'
                          go_simp
                          with_reducible rfl
                        rotate_left
                        · simp only [Act.put, List.setIfInBounds_toArray, List.set_cons_zero, List.set_cons_succ, i64_w, i32_w]
                          rfl
                        refine pure_ (i := 1) (N := some 93) (v := ?_) (a' := ?_) #[true, true, false, false, false, false, false, false, false, false] rfl rfl (by kernel_rfl) (fun _ _ _ h => h) (Or.inl ⟨by rfl, ?_⟩) ?_ ?_
                        rotate_left
                        · intro w'
                          go_simp
                          with_reducible rfl
                        rotate_left
                        · simp only [Act.put, List.setIfInBounds_toArray, List.set_cons_zero, List.set_cons_succ, i64_w, i32_w]
                          rfl
                        refine pure_ (i := 2) (N := some 94) (v := ?_) (a' := ?_) #[true, true, true, false, false, false, false, false, false, false] rfl rfl (by kernel_rfl) (fun _ _ _ h => h) (Or.inl ⟨by rfl, ?_⟩) ?_ ?_
                        rotate_left
                        · intro w'
                          go_simp
                          with_reducible rfl
                        rotate_left
                        · simp only [Act.put, List.setIfInBounds_toArray, List.set_cons_zero, List.set_cons_succ, i64_w, i32_w]
                          rfl
                        refine pure_ (i := 6) (N := some 98) (v := ?_) (a' := ?_) #[true, true, true, false, false, false, true, false, false, false] rfl rfl (by kernel_rfl) (fun _ _ _ h => h) (Or.inl ⟨by rfl, ?_⟩) ?_ ?_
                        rotate_left
                        · intro w'
                          go_simp
                          with_reducible rfl
                        rotate_left
                        · simp only [Act.put, List.setIfInBounds_toArray, List.set_cons_zero, List.set_cons_succ, i64_w, i32_w]
                          rfl
                        refine pure_ (i := 3) (N := some 95) (v := ?_) (a' := ?_) #[true, true, true, true, false, false, true, false, false, false] rfl rfl (by kernel_rfl) (fun _ _ _ h => h) (Or.inl ⟨by rfl, ?_⟩) ?_ ?_
                        rotate_left
                        · intro w'
                          go_simp
                          with_reducible rfl
                        rotate_left
                        · simp only [Act.put, List.setIfInBounds_toArray, List.set_cons_zero, List.set_cons_succ, i64_w, i32_w]
                          rfl
                        refine pure_ (i := 7) (N := some 99) (v := ?_) (a' := ?_) #[true, true, true, true, false, false, true, true, false, false] rfl rfl (by kernel_rfl) (fun _ _ _ h => h) (Or.inl ⟨by rfl, ?_⟩) ?_ ?_
                        rotate_left
                        · intro w'
                          go_simp
                          with_reducible rfl
                        rotate_left
                        · simp only [Act.put, List.setIfInBounds_toArray, List.set_cons_zero, List.set_cons_succ, i64_w, i32_w]
                          rfl
                        refine take_ (i := 4) (N := some 96) (v := ?_) (a' := ?_) #[true, true, true, true, true, false, true, true, false, false] rfl rfl (by kernel_rfl) (fun _ _ _ h => h) (Or.inl ⟨by rfl, ?_⟩) hHeld ?_ ?_
                        rotate_left
                        · intro w' hS'
                          obtain ⟨s1_, s2_⟩ := hS'
                          go_simp
                          with_reducible rfl
                        rotate_left
                        · simp only [Act.put, List.setIfInBounds_toArray, List.set_cons_zero, List.set_cons_succ, i64_w, i32_w]
                          rfl
                        refine take_ (i := 8) (N := some 100) (v := ?_) (a' := ?_) #[true, true, true, true, true, false, true, true, true, false] rfl rfl (by kernel_rfl) (fun _ _ _ h => h) (Or.inl ⟨by rfl, ?_⟩) hHeld ?_ ?_
                        rotate_left
                        · intro w' hS'
                          obtain ⟨s1_, s2_⟩ := hS'
                          go_simp
                          with_reducible rfl
                        rotate_left
                        · simp only [Act.put, List.setIfInBounds_toArray, List.set_cons_zero, List.set_cons_succ, i64_w, i32_w]
                          rfl
                        refine one_ (i := 5) (N := some 97) #[true, true, true, true, true, true, true, true, true, false] rfl rfl (by kernel_rfl) (by decide) (fun K hK => ?_)
                        refine goes_ Try.func11 (by kernel_rfl) rfl #[.pointer (some ⟨g, 0, none⟩), .bool false] (by rfl) rfl rfl (by (try simp only [List.map_toArray, List.map_cons, List.map_nil]); first | done | rfl) ?_
                        with_reducible refine (Wire.tpassz (y := true) (z := z) (r := r) HI3.out (by have := HBL.out; omega) (by have := HOL.out; omega) (by have := HUL.out; omega) false ((Wire.goesZ ho).trans rfl) HZ.out).mono ?_
                        rintro e w6 ⟨rfl, hT, hb, hk, ho⟩
                        refine ⟨_, rfl, ?_⟩
                        have HI4 := Aside0.mk hT
                        have n0_ := Aside0.mk (HB3.out.trans hb)
                        have n2_ := Aside0.mk (hk.reads HT2.out HTE.out)
                        have hS1 := hk.cell (p := ad.add q) (by rw [add_block]; exact HTE.out ad rfl (by omega)) hHeld.1
                        have hS2 := Wire.only_cell ho (p := a1) (fun hp => hp.elim hzg hzl) hHeld.2
                        clear HB3 HI3 HT2 hT hb hk ho hHeld
                        have HB3 := n0_
                        have HT2 := n2_
                        clear n0_ n2_
                        refine hK.out _ _ ⟨hS1, hS2⟩ (fun hHeld => ?_)
                        clear hK K
                        refine norm_ (a' := ?_) ?_ ?_
                        rotate_left
                        · show Act.put _ (some 97) _ = _
                          simp only [Act.put, List.setIfInBounds_toArray, List.set_cons_zero, List.set_cons_succ, i64_w, i32_w]
                          rfl
                        refine pure_ (i := 9) (N := some 101) (v := ?_) (a' := ?_) #[true, true, true, true, true, true, true, true, true, true] rfl rfl (by kernel_rfl) (fun _ _ _ h => h) (Or.inl ⟨by rfl, ?_⟩) ?_ ?_
                        rotate_left
                        · intro w'
                          go_simp
                          with_reducible rfl
                        rotate_left
                        · simp only [Act.put, List.setIfInBounds_toArray, List.set_cons_zero, List.set_cons_succ, i64_w, i32_w]
                          rfl
                        refine done_ (by kernel_rfl) ?_
                        clear hHeld
                        go_wp2
                        have HI5 := HI4.out
                        rw [show bent + Wire.bends (true :: s) ones false = bent + 1 from congrArg (fun z_ => bent + z_) ((Wire.bendsZ ho).trans rfl)] at HI5
                        rw [show (true :: s).drop 1 = s from rfl] at HI5
                        rw [show ones - 1 = ones by omega] at HI5
                        go_roundw
                        case rel =>
                          refine ⟨q + 1, by omega, by first | rfl | (simp; done), s, r, ones, bent + 1, n3, n4, Ax, c3, Ay, c4, rfl, rfl, (by first | rfl | (congr 1; omega) | (simp; done) | (simp; omega)), (by first | rfl | (congr 1; omega) | (simp; done) | (simp; omega)), hn3, ⟨by have := HZ.out; have := HUL.out; have e := congrArg List.length (HZ.out); simp only [List.length_append, List.length_cons, List.length_nil] at e; omega⟩, ⟨by have := HKL.out; simp only [List.length_cons] at this; omega⟩, ⟨by have := HOL.out; omega⟩, ⟨by have := HBL.out; omega⟩, ⟨HTU.out _ _ _ _ _ _ _ _ _ _ HI5⟩, HB3, HT2⟩
                        case measure => (simp [intOf]; omega)
                  | false =>
                    by_cases ho : 1 ≤ ones
                    · cases xq with
                      | true =>
                        obtain ⟨a0, Ax, n3, c3, ha0, hcm, hn1, hn3, hcutk, hTk⟩ := HI.out.kcut
                        subst ha0
                        have HIk := Aside0.mk hTk
                        have hn3b : n3 ≤ 20000 := by have := HKL.out; simp only [List.length_cons] at this; omega
                        replace hn3 := Aside0.mk hn3
                        have hpk := eq_true (show 0 < nk by omega)
                        have hpk2 := eq_true (show (0 : Int) < (nk : Int) by omega)
                        clear hTk
                        clear HI
                        have g_0 : decide ((0 : Int) < (nk : Int)) = true := decide_eq_true (by omega)
                        have g_1 : decide (0 < nk) = true := decide_eq_true (by omega)
                        have g_2 : decide ((0 : Int) < (ones : Int)) = true := decide_eq_true (by omega)
                        have g_3 : decide (0 < ones) = true := decide_eq_true (by omega)
                        obtain ⟨a1, n2, c1, w3, z, r, hrun, hz, hn2, hT, hb, hk, hcz, hzg, hzl⟩ := HIk.out.uput true (by have := HUL.out; omega)
                        have hxq := Wire.KeptE.cell hk (p := ad.add q) (by rw [add_block]; exact HTE.out ad rfl (by omega)) hx
                        obtain ⟨Ay, n4, c4, hn4, hcutu, hTu⟩ := Wire.Trio.ucut (B := w.heap.size) (A := some a1) (n := n2) (c := c1) (b := z) (s := r) hn2
                        have hup := eq_true (show 0 < n2 by omega)
                        have hup2 := eq_true (show (0 : Int) < (n2 : Int) by omega)
                        have HT2 := Aside0.mk (hk.reads HT.out HTE.out)
                        have HI3 := Aside0.mk hT
                        have HB3 := Aside0.mk (HB.out.trans hb)
                        have HR := Aside0.mk hrun
                        have HZ := Aside0.mk hz
                        have HXQ := Aside0.mk hxq
                        have HCZ := Aside0.mk hcz
                        have HK := Aside0.mk hk
                        have HTU := Aside0.mk hTu
                        replace hn2 := Aside0.mk hn2
                        replace hn4 := Aside0.mk hn4
                        clear hT hb hrun hz hxq hcz hk hTu HB HT HIk
                        go_wp2_with (first
                          | ((with_reducible refine gate_builtin (b := .append) (xs := #[.tmp 88, .tmp 90]) rfl ?_); refine Wire.wpList_append_run rfl (.tmp 88) (.tmp 90) 28 rfl (.slice Au nu cu) (.slice (some ⟨wr.heap.size, 0, none⟩) 1 1) rfl rfl (.slice (some a1) n2 c1) w3 HR.out ?_))
                        refine start_ (n := 10) (S := fun W => W.cell? (ad.add q) = some (.bool true) ∧ W.cell? a1 = some (.bool z)) (ds := []) #[false, false, false, false, false, false, false, false, false, false] (by kernel_rfl) rfl rfl ⟨HXQ.out, HCZ.out⟩ (fun hHeld => ?_)
                        have hb0 : Below w3.heap.size w3 w3.drew := below_drew1 (Below.refl _ _)
                        have n0_ := Aside0.mk (below_drew1 HB3.out)
                        have n1_ := Aside0.mk (HI3.out.below hb0 (fun k hk => Or.inl hk))
                        have n2_ := Aside0.mk (show ReadsOf Value.bool false w3.drew (some ad) t.length t from HT2.out)
                        clear HB3 HI3 HT2 hb0 HK HR HXQ HCZ
                        have HB3 := n0_
                        have HI3 := n1_
                        have HT2 := n2_
                        clear n0_ n1_ n2_
                        generalize w3.drew = W0 at HB3 HI3 HT2 hHeld ⊢
                        refine pure_ (i := 0) (N := some 92) (v := ?_) (a' := ?_) #[true, false, false, false, false, false, false, false, false, false] rfl rfl (by kernel_rfl) (fun _ _ _ h => h) (Or.inl ⟨by rfl, ?_⟩) ?_ ?_
                        rotate_left
                        · intro w'
                          go_simp
                          with_reducible rfl
                        rotate_left
                        · simp only [Act.put, List.setIfInBounds_toArray, List.set_cons_zero, List.set_cons_succ, i64_w, i32_w]
                          rfl
                        refine pure_ (i := 1) (N := some 93) (v := ?_) (a' := ?_) #[true, true, false, false, false, false, false, false, false, false] rfl rfl (by kernel_rfl) (fun _ _ _ h => h) (Or.inl ⟨by rfl, ?_⟩) ?_ ?_
                        rotate_left
                        · intro w'
                          go_simp
                          with_reducible rfl
                        rotate_left
                        · simp only [Act.put, List.setIfInBounds_toArray, List.set_cons_zero, List.set_cons_succ, i64_w, i32_w]
                          rfl
                        refine pure_ (i := 2) (N := some 94) (v := ?_) (a' := ?_) #[true, true, true, false, false, false, false, false, false, false] rfl rfl (by kernel_rfl) (fun _ _ _ h => h) (Or.inl ⟨by rfl, ?_⟩) ?_ ?_
                        rotate_left
                        · intro w'
                          go_simp
                          with_reducible rfl
                        rotate_left
                        · simp only [Act.put, List.setIfInBounds_toArray, List.set_cons_zero, List.set_cons_succ, i64_w, i32_w]
                          rfl
                        refine pure_ (i := 6) (N := some 98) (v := ?_) (a' := ?_) #[true, true, true, false, false, false, true, false, false, false] rfl rfl (by kernel_rfl) (fun _ _ _ h => h) (Or.inl ⟨by rfl, ?_⟩) ?_ ?_
                        rotate_left
                        · intro w'
                          go_simp
                          with_reducible rfl
                        rotate_left
                        · simp only [Act.put, List.setIfInBounds_toArray, List.set_cons_zero, List.set_cons_succ, i64_w, i32_w]
                          rfl
                        refine pure_ (i := 3) (N := some 95) (v := ?_) (a' := ?_) #[true, true, true, true, false, false, true, false, false, false] rfl rfl (by kernel_rfl) (fun _ _ _ h => h) (Or.inl ⟨by rfl, ?_⟩) ?_ ?_
                        rotate_left
                        · intro w'
                          go_simp
                          with_reducible rfl
                        rotate_left
                        · simp only [Act.put, List.setIfInBounds_toArray, List.set_cons_zero, List.set_cons_succ, i64_w, i32_w]
                          rfl
                        refine pure_ (i := 7) (N := some 99) (v := ?_) (a' := ?_) #[true, true, true, true, false, false, true, true, false, false] rfl rfl (by kernel_rfl) (fun _ _ _ h => h) (Or.inl ⟨by rfl, ?_⟩) ?_ ?_
                        rotate_left
                        · intro w'
                          go_simp
                          with_reducible rfl
                        rotate_left
                        · simp only [Act.put, List.setIfInBounds_toArray, List.set_cons_zero, List.set_cons_succ, i64_w, i32_w]
                          rfl
                        refine take_ (i := 4) (N := some 96) (v := ?_) (a' := ?_) #[true, true, true, true, true, false, true, true, false, false] rfl rfl (by kernel_rfl) (fun _ _ _ h => h) (Or.inl ⟨by rfl, ?_⟩) hHeld ?_ ?_
                        rotate_left
                        · intro w' hS'
                          obtain ⟨s1_, s2_⟩ := hS'
                          go_simp
                          with_reducible rfl
                        rotate_left
                        · simp only [Act.put, List.setIfInBounds_toArray, List.set_cons_zero, List.set_cons_succ, i64_w, i32_w]
                          rfl
                        refine take_ (i := 8) (N := some 100) (v := ?_) (a' := ?_) #[true, true, true, true, true, false, true, true, true, false] rfl rfl (by kernel_rfl) (fun _ _ _ h => h) (Or.inl ⟨by rfl, ?_⟩) hHeld ?_ ?_
                        rotate_left
                        · intro w' hS'
                          obtain ⟨s1_, s2_⟩ := hS'
                          go_simp
                          with_reducible rfl
                        rotate_left
                        · simp only [Act.put, List.setIfInBounds_toArray, List.set_cons_zero, List.set_cons_succ, i64_w, i32_w]
                          rfl
                        refine one_ (i := 5) (N := some 97) #[true, true, true, true, true, true, true, true, true, false] rfl rfl (by kernel_rfl) (by decide) (fun K hK => ?_)
                        refine goes_ Try.func11 (by kernel_rfl) rfl #[.pointer (some ⟨g, 0, none⟩), .bool true] (by rfl) rfl rfl (by (try simp only [List.map_toArray, List.map_cons, List.map_nil]); first | done | rfl) ?_
                        with_reducible refine (Wire.tpassz (y := true) (z := z) (r := r) HI3.out (by have := HBL.out; omega) (by have := HOL.out; omega) (by have := HUL.out; omega) true ((Wire.goesO ho).trans rfl) HZ.out).mono ?_
                        rintro e w6 ⟨rfl, hT, hb, hk, ho⟩
                        refine ⟨_, rfl, ?_⟩
                        have HI4 := Aside0.mk hT
                        have n0_ := Aside0.mk (HB3.out.trans hb)
                        have n2_ := Aside0.mk (hk.reads HT2.out HTE.out)
                        have hS1 := hk.cell (p := ad.add q) (by rw [add_block]; exact HTE.out ad rfl (by omega)) hHeld.1
                        have hS2 := Wire.only_cell ho (p := a1) (fun hp => hp.elim hzg hzl) hHeld.2
                        clear HB3 HI3 HT2 hT hb hk ho hHeld
                        have HB3 := n0_
                        have HT2 := n2_
                        clear n0_ n2_
                        refine hK.out _ _ ⟨hS1, hS2⟩ (fun hHeld => ?_)
                        clear hK K
                        refine norm_ (a' := ?_) ?_ ?_
                        rotate_left
                        · show Act.put _ (some 97) _ = _
                          simp only [Act.put, List.setIfInBounds_toArray, List.set_cons_zero, List.set_cons_succ, i64_w, i32_w]
                          rfl
                        refine pure_ (i := 9) (N := some 101) (v := ?_) (a' := ?_) #[true, true, true, true, true, true, true, true, true, true] rfl rfl (by kernel_rfl) (fun _ _ _ h => h) (Or.inl ⟨by rfl, ?_⟩) ?_ ?_
                        rotate_left
                        · intro w'
                          go_simp
                          with_reducible rfl
                        rotate_left
                        · simp only [Act.put, List.setIfInBounds_toArray, List.set_cons_zero, List.set_cons_succ, i64_w, i32_w]
                          rfl
                        refine done_ (by kernel_rfl) ?_
                        clear hHeld
                        go_wp2
                        have HI5 := HI4.out
                        rw [show bent + Wire.bends (false :: s) ones true = bent + 0 from congrArg (fun z_ => bent + z_) ((Wire.bendsO ho).trans rfl)] at HI5
                        rw [show (false :: s).drop 1 = s from rfl] at HI5
                        go_roundw
                        case rel =>
                          refine ⟨q + 1, by omega, by first | rfl | (simp; done), s, r, ones - 1, bent + 0, n3, n4, Ax, c3, Ay, c4, rfl, rfl, (by first | rfl | (congr 1; omega) | (simp; done) | (simp; omega)), (by first | rfl | (congr 1; omega) | (simp; done) | (simp; omega)), hn3, ⟨by have := HZ.out; have := HUL.out; have e := congrArg List.length (HZ.out); simp only [List.length_append, List.length_cons, List.length_nil] at e; omega⟩, ⟨by have := HKL.out; simp only [List.length_cons] at this; omega⟩, ⟨by have := HOL.out; omega⟩, ⟨by have := HBL.out; omega⟩, ⟨HTU.out _ _ _ _ _ _ _ _ _ _ HI5⟩, HB3, HT2⟩
                        case measure => (simp [intOf]; omega)
                      | false =>
                        obtain ⟨a0, Ax, n3, c3, ha0, hcm, hn1, hn3, hcutk, hTk⟩ := HI.out.kcut
                        subst ha0
                        have HIk := Aside0.mk hTk
                        have hn3b : n3 ≤ 20000 := by have := HKL.out; simp only [List.length_cons] at this; omega
                        replace hn3 := Aside0.mk hn3
                        have hpk := eq_true (show 0 < nk by omega)
                        have hpk2 := eq_true (show (0 : Int) < (nk : Int) by omega)
                        clear hTk
                        clear HI
                        have g_0 : decide ((0 : Int) < (nk : Int)) = true := decide_eq_true (by omega)
                        have g_1 : decide (0 < nk) = true := decide_eq_true (by omega)
                        have g_2 : decide ((0 : Int) < (ones : Int)) = true := decide_eq_true (by omega)
                        have g_3 : decide (0 < ones) = true := decide_eq_true (by omega)
                        obtain ⟨a1, n2, c1, w3, z, r, hrun, hz, hn2, hT, hb, hk, hcz, hzg, hzl⟩ := HIk.out.uput true (by have := HUL.out; omega)
                        have hxq := Wire.KeptE.cell hk (p := ad.add q) (by rw [add_block]; exact HTE.out ad rfl (by omega)) hx
                        obtain ⟨Ay, n4, c4, hn4, hcutu, hTu⟩ := Wire.Trio.ucut (B := w.heap.size) (A := some a1) (n := n2) (c := c1) (b := z) (s := r) hn2
                        have hup := eq_true (show 0 < n2 by omega)
                        have hup2 := eq_true (show (0 : Int) < (n2 : Int) by omega)
                        have HT2 := Aside0.mk (hk.reads HT.out HTE.out)
                        have HI3 := Aside0.mk hT
                        have HB3 := Aside0.mk (HB.out.trans hb)
                        have HR := Aside0.mk hrun
                        have HZ := Aside0.mk hz
                        have HXQ := Aside0.mk hxq
                        have HCZ := Aside0.mk hcz
                        have HK := Aside0.mk hk
                        have HTU := Aside0.mk hTu
                        replace hn2 := Aside0.mk hn2
                        replace hn4 := Aside0.mk hn4
                        clear hT hb hrun hz hxq hcz hk hTu HB HT HIk
                        go_wp2_with (first
                          | ((with_reducible refine gate_builtin (b := .append) (xs := #[.tmp 88, .tmp 90]) rfl ?_); refine Wire.wpList_append_run rfl (.tmp 88) (.tmp 90) 28 rfl (.slice Au nu cu) (.slice (some ⟨wr.heap.size, 0, none⟩) 1 1) rfl rfl (.slice (some a1) n2 c1) w3 HR.out ?_))
                        refine start_ (n := 10) (S := fun W => W.cell? (ad.add q) = some (.bool false) ∧ W.cell? a1 = some (.bool z)) (ds := []) #[false, false, false, false, false, false, false, false, false, false] (by kernel_rfl) rfl rfl ⟨HXQ.out, HCZ.out⟩ (fun hHeld => ?_)
                        have hb0 : Below w3.heap.size w3 w3.drew := below_drew1 (Below.refl _ _)
                        have n0_ := Aside0.mk (below_drew1 HB3.out)
                        have n1_ := Aside0.mk (HI3.out.below hb0 (fun k hk => Or.inl hk))
                        have n2_ := Aside0.mk (show ReadsOf Value.bool false w3.drew (some ad) t.length t from HT2.out)
                        clear HB3 HI3 HT2 hb0 HK HR HXQ HCZ
                        have HB3 := n0_
                        have HI3 := n1_
                        have HT2 := n2_
                        clear n0_ n1_ n2_
                        generalize w3.drew = W0 at HB3 HI3 HT2 hHeld ⊢
                        refine pure_ (i := 0) (N := some 92) (v := ?_) (a' := ?_) #[true, false, false, false, false, false, false, false, false, false] rfl rfl (by kernel_rfl) (fun _ _ _ h => h) (Or.inl ⟨by rfl, ?_⟩) ?_ ?_
                        rotate_left
                        · intro w'
                          go_simp
                          with_reducible rfl
                        rotate_left
                        · simp only [Act.put, List.setIfInBounds_toArray, List.set_cons_zero, List.set_cons_succ, i64_w, i32_w]
                          rfl
                        refine pure_ (i := 1) (N := some 93) (v := ?_) (a' := ?_) #[true, true, false, false, false, false, false, false, false, false] rfl rfl (by kernel_rfl) (fun _ _ _ h => h) (Or.inl ⟨by rfl, ?_⟩) ?_ ?_
                        rotate_left
                        · intro w'
                          go_simp
                          with_reducible rfl
                        rotate_left
                        · simp only [Act.put, List.setIfInBounds_toArray, List.set_cons_zero, List.set_cons_succ, i64_w, i32_w]
                          rfl
                        refine pure_ (i := 2) (N := some 94) (v := ?_) (a' := ?_) #[true, true, true, false, false, false, false, false, false, false] rfl rfl (by kernel_rfl) (fun _ _ _ h => h) (Or.inl ⟨by rfl, ?_⟩) ?_ ?_
                        rotate_left
                        · intro w'
                          go_simp
                          with_reducible rfl
                        rotate_left
                        · simp only [Act.put, List.setIfInBounds_toArray, List.set_cons_zero, List.set_cons_succ, i64_w, i32_w]
                          rfl
                        refine pure_ (i := 6) (N := some 98) (v := ?_) (a' := ?_) #[true, true, true, false, false, false, true, false, false, false] rfl rfl (by kernel_rfl) (fun _ _ _ h => h) (Or.inl ⟨by rfl, ?_⟩) ?_ ?_
                        rotate_left
                        · intro w'
                          go_simp
                          with_reducible rfl
                        rotate_left
                        · simp only [Act.put, List.setIfInBounds_toArray, List.set_cons_zero, List.set_cons_succ, i64_w, i32_w]
                          rfl
                        refine pure_ (i := 3) (N := some 95) (v := ?_) (a' := ?_) #[true, true, true, true, false, false, true, false, false, false] rfl rfl (by kernel_rfl) (fun _ _ _ h => h) (Or.inl ⟨by rfl, ?_⟩) ?_ ?_
                        rotate_left
                        · intro w'
                          go_simp
                          with_reducible rfl
                        rotate_left
                        · simp only [Act.put, List.setIfInBounds_toArray, List.set_cons_zero, List.set_cons_succ, i64_w, i32_w]
                          rfl
                        refine pure_ (i := 7) (N := some 99) (v := ?_) (a' := ?_) #[true, true, true, true, false, false, true, true, false, false] rfl rfl (by kernel_rfl) (fun _ _ _ h => h) (Or.inl ⟨by rfl, ?_⟩) ?_ ?_
                        rotate_left
                        · intro w'
                          go_simp
                          with_reducible rfl
                        rotate_left
                        · simp only [Act.put, List.setIfInBounds_toArray, List.set_cons_zero, List.set_cons_succ, i64_w, i32_w]
                          rfl
                        refine take_ (i := 4) (N := some 96) (v := ?_) (a' := ?_) #[true, true, true, true, true, false, true, true, false, false] rfl rfl (by kernel_rfl) (fun _ _ _ h => h) (Or.inl ⟨by rfl, ?_⟩) hHeld ?_ ?_
                        rotate_left
                        · intro w' hS'
                          obtain ⟨s1_, s2_⟩ := hS'
                          go_simp
                          with_reducible rfl
                        rotate_left
                        · simp only [Act.put, List.setIfInBounds_toArray, List.set_cons_zero, List.set_cons_succ, i64_w, i32_w]
                          rfl
                        refine take_ (i := 8) (N := some 100) (v := ?_) (a' := ?_) #[true, true, true, true, true, false, true, true, true, false] rfl rfl (by kernel_rfl) (fun _ _ _ h => h) (Or.inl ⟨by rfl, ?_⟩) hHeld ?_ ?_
                        rotate_left
                        · intro w' hS'
                          obtain ⟨s1_, s2_⟩ := hS'
                          go_simp
                          with_reducible rfl
                        rotate_left
                        · simp only [Act.put, List.setIfInBounds_toArray, List.set_cons_zero, List.set_cons_succ, i64_w, i32_w]
                          rfl
                        refine one_ (i := 5) (N := some 97) #[true, true, true, true, true, true, true, true, true, false] rfl rfl (by kernel_rfl) (by decide) (fun K hK => ?_)
                        refine goes_ Try.func11 (by kernel_rfl) rfl #[.pointer (some ⟨g, 0, none⟩), .bool false] (by rfl) rfl rfl (by (try simp only [List.map_toArray, List.map_cons, List.map_nil]); first | done | rfl) ?_
                        with_reducible refine (Wire.tpassz (y := true) (z := z) (r := r) HI3.out (by have := HBL.out; omega) (by have := HOL.out; omega) (by have := HUL.out; omega) false ((Wire.goesO ho).trans rfl) HZ.out).mono ?_
                        rintro e w6 ⟨rfl, hT, hb, hk, ho⟩
                        refine ⟨_, rfl, ?_⟩
                        have HI4 := Aside0.mk hT
                        have n0_ := Aside0.mk (HB3.out.trans hb)
                        have n2_ := Aside0.mk (hk.reads HT2.out HTE.out)
                        have hS1 := hk.cell (p := ad.add q) (by rw [add_block]; exact HTE.out ad rfl (by omega)) hHeld.1
                        have hS2 := Wire.only_cell ho (p := a1) (fun hp => hp.elim hzg hzl) hHeld.2
                        clear HB3 HI3 HT2 hT hb hk ho hHeld
                        have HB3 := n0_
                        have HT2 := n2_
                        clear n0_ n2_
                        refine hK.out _ _ ⟨hS1, hS2⟩ (fun hHeld => ?_)
                        clear hK K
                        refine norm_ (a' := ?_) ?_ ?_
                        rotate_left
                        · show Act.put _ (some 97) _ = _
                          simp only [Act.put, List.setIfInBounds_toArray, List.set_cons_zero, List.set_cons_succ, i64_w, i32_w]
                          rfl
                        refine pure_ (i := 9) (N := some 101) (v := ?_) (a' := ?_) #[true, true, true, true, true, true, true, true, true, true] rfl rfl (by kernel_rfl) (fun _ _ _ h => h) (Or.inl ⟨by rfl, ?_⟩) ?_ ?_
                        rotate_left
                        · intro w'
                          go_simp
                          with_reducible rfl
                        rotate_left
                        · simp only [Act.put, List.setIfInBounds_toArray, List.set_cons_zero, List.set_cons_succ, i64_w, i32_w]
                          rfl
                        refine done_ (by kernel_rfl) ?_
                        clear hHeld
                        go_wp2
                        have HI5 := HI4.out
                        rw [show bent + Wire.bends (false :: s) ones false = bent + 1 from congrArg (fun z_ => bent + z_) ((Wire.bendsO ho).trans rfl)] at HI5
                        rw [show (false :: s).drop 1 = s from rfl] at HI5
                        go_roundw
                        case rel =>
                          refine ⟨q + 1, by omega, by first | rfl | (simp; done), s, r, ones - 1, bent + 1, n3, n4, Ax, c3, Ay, c4, rfl, rfl, (by first | rfl | (congr 1; omega) | (simp; done) | (simp; omega)), (by first | rfl | (congr 1; omega) | (simp; done) | (simp; omega)), hn3, ⟨by have := HZ.out; have := HUL.out; have e := congrArg List.length (HZ.out); simp only [List.length_append, List.length_cons, List.length_nil] at e; omega⟩, ⟨by have := HKL.out; simp only [List.length_cons] at this; omega⟩, ⟨by have := HOL.out; omega⟩, ⟨by have := HBL.out; omega⟩, ⟨HTU.out _ _ _ _ _ _ _ _ _ _ HI5⟩, HB3, HT2⟩
                        case measure => (simp [intOf]; omega)
                    · cases xq with
                      | true =>
                        obtain ⟨a0, Ax, n3, c3, ha0, hcm, hn1, hn3, hcutk, hTk⟩ := HI.out.kcut
                        subst ha0
                        have HIk := Aside0.mk hTk
                        have hn3b : n3 ≤ 20000 := by have := HKL.out; simp only [List.length_cons] at this; omega
                        replace hn3 := Aside0.mk hn3
                        have hpk := eq_true (show 0 < nk by omega)
                        have hpk2 := eq_true (show (0 : Int) < (nk : Int) by omega)
                        clear hTk
                        clear HI
                        have g_0 : decide ((0 : Int) < (nk : Int)) = true := decide_eq_true (by omega)
                        have g_1 : decide (0 < nk) = true := decide_eq_true (by omega)
                        have g_2 : decide ((0 : Int) < (ones : Int)) = false := decide_eq_false (by omega)
                        have g_3 : decide (0 < ones) = false := decide_eq_false (by omega)
                        obtain ⟨a1, n2, c1, w3, z, r, hrun, hz, hn2, hT, hb, hk, hcz, hzg, hzl⟩ := HIk.out.uput true (by have := HUL.out; omega)
                        have hxq := Wire.KeptE.cell hk (p := ad.add q) (by rw [add_block]; exact HTE.out ad rfl (by omega)) hx
                        obtain ⟨Ay, n4, c4, hn4, hcutu, hTu⟩ := Wire.Trio.ucut (B := w.heap.size) (A := some a1) (n := n2) (c := c1) (b := z) (s := r) hn2
                        have hup := eq_true (show 0 < n2 by omega)
                        have hup2 := eq_true (show (0 : Int) < (n2 : Int) by omega)
                        have HT2 := Aside0.mk (hk.reads HT.out HTE.out)
                        have HI3 := Aside0.mk hT
                        have HB3 := Aside0.mk (HB.out.trans hb)
                        have HR := Aside0.mk hrun
                        have HZ := Aside0.mk hz
                        have HXQ := Aside0.mk hxq
                        have HCZ := Aside0.mk hcz
                        have HK := Aside0.mk hk
                        have HTU := Aside0.mk hTu
                        replace hn2 := Aside0.mk hn2
                        replace hn4 := Aside0.mk hn4
                        clear hT hb hrun hz hxq hcz hk hTu HB HT HIk
                        go_wp2_with (first
                          | ((with_reducible refine gate_builtin (b := .append) (xs := #[.tmp 88, .tmp 90]) rfl ?_); refine Wire.wpList_append_run rfl (.tmp 88) (.tmp 90) 28 rfl (.slice Au nu cu) (.slice (some ⟨wr.heap.size, 0, none⟩) 1 1) rfl rfl (.slice (some a1) n2 c1) w3 HR.out ?_))
                        refine start_ (n := 10) (S := fun W => W.cell? (ad.add q) = some (.bool true) ∧ W.cell? a1 = some (.bool z)) (ds := []) #[false, false, false, false, false, false, false, false, false, false] (by kernel_rfl) rfl rfl ⟨HXQ.out, HCZ.out⟩ (fun hHeld => ?_)
                        have hb0 : Below w3.heap.size w3 w3.drew := below_drew1 (Below.refl _ _)
                        have n0_ := Aside0.mk (below_drew1 HB3.out)
                        have n1_ := Aside0.mk (HI3.out.below hb0 (fun k hk => Or.inl hk))
                        have n2_ := Aside0.mk (show ReadsOf Value.bool false w3.drew (some ad) t.length t from HT2.out)
                        clear HB3 HI3 HT2 hb0 HK HR HXQ HCZ
                        have HB3 := n0_
                        have HI3 := n1_
                        have HT2 := n2_
                        clear n0_ n1_ n2_
                        generalize w3.drew = W0 at HB3 HI3 HT2 hHeld ⊢
                        refine pure_ (i := 0) (N := some 92) (v := ?_) (a' := ?_) #[true, false, false, false, false, false, false, false, false, false] rfl rfl (by kernel_rfl) (fun _ _ _ h => h) (Or.inl ⟨by rfl, ?_⟩) ?_ ?_
                        rotate_left
                        · intro w'
                          go_simp
                          with_reducible rfl
                        rotate_left
                        · simp only [Act.put, List.setIfInBounds_toArray, List.set_cons_zero, List.set_cons_succ, i64_w, i32_w]
                          rfl
                        refine pure_ (i := 1) (N := some 93) (v := ?_) (a' := ?_) #[true, true, false, false, false, false, false, false, false, false] rfl rfl (by kernel_rfl) (fun _ _ _ h => h) (Or.inl ⟨by rfl, ?_⟩) ?_ ?_
                        rotate_left
                        · intro w'
                          go_simp
                          with_reducible rfl
                        rotate_left
                        · simp only [Act.put, List.setIfInBounds_toArray, List.set_cons_zero, List.set_cons_succ, i64_w, i32_w]
                          rfl
                        refine pure_ (i := 2) (N := some 94) (v := ?_) (a' := ?_) #[true, true, true, false, false, false, false, false, false, false] rfl rfl (by kernel_rfl) (fun _ _ _ h => h) (Or.inl ⟨by rfl, ?_⟩) ?_ ?_
                        rotate_left
                        · intro w'
                          go_simp
                          with_reducible rfl
                        rotate_left
                        · simp only [Act.put, List.setIfInBounds_toArray, List.set_cons_zero, List.set_cons_succ, i64_w, i32_w]
                          rfl
                        refine pure_ (i := 6) (N := some 98) (v := ?_) (a' := ?_) #[true, true, true, false, false, false, true, false, false, false] rfl rfl (by kernel_rfl) (fun _ _ _ h => h) (Or.inl ⟨by rfl, ?_⟩) ?_ ?_
                        rotate_left
                        · intro w'
                          go_simp
                          with_reducible rfl
                        rotate_left
                        · simp only [Act.put, List.setIfInBounds_toArray, List.set_cons_zero, List.set_cons_succ, i64_w, i32_w]
                          rfl
                        refine pure_ (i := 3) (N := some 95) (v := ?_) (a' := ?_) #[true, true, true, true, false, false, true, false, false, false] rfl rfl (by kernel_rfl) (fun _ _ _ h => h) (Or.inl ⟨by rfl, ?_⟩) ?_ ?_
                        rotate_left
                        · intro w'
                          go_simp
                          with_reducible rfl
                        rotate_left
                        · simp only [Act.put, List.setIfInBounds_toArray, List.set_cons_zero, List.set_cons_succ, i64_w, i32_w]
                          rfl
                        refine pure_ (i := 7) (N := some 99) (v := ?_) (a' := ?_) #[true, true, true, true, false, false, true, true, false, false] rfl rfl (by kernel_rfl) (fun _ _ _ h => h) (Or.inl ⟨by rfl, ?_⟩) ?_ ?_
                        rotate_left
                        · intro w'
                          go_simp
                          with_reducible rfl
                        rotate_left
                        · simp only [Act.put, List.setIfInBounds_toArray, List.set_cons_zero, List.set_cons_succ, i64_w, i32_w]
                          rfl
                        refine take_ (i := 4) (N := some 96) (v := ?_) (a' := ?_) #[true, true, true, true, true, false, true, true, false, false] rfl rfl (by kernel_rfl) (fun _ _ _ h => h) (Or.inl ⟨by rfl, ?_⟩) hHeld ?_ ?_
                        rotate_left
                        · intro w' hS'
                          obtain ⟨s1_, s2_⟩ := hS'
                          go_simp
                          with_reducible rfl
                        rotate_left
                        · simp only [Act.put, List.setIfInBounds_toArray, List.set_cons_zero, List.set_cons_succ, i64_w, i32_w]
                          rfl
                        refine take_ (i := 8) (N := some 100) (v := ?_) (a' := ?_) #[true, true, true, true, true, false, true, true, true, false] rfl rfl (by kernel_rfl) (fun _ _ _ h => h) (Or.inl ⟨by rfl, ?_⟩) hHeld ?_ ?_
                        rotate_left
                        · intro w' hS'
                          obtain ⟨s1_, s2_⟩ := hS'
                          go_simp
                          with_reducible rfl
                        rotate_left
                        · simp only [Act.put, List.setIfInBounds_toArray, List.set_cons_zero, List.set_cons_succ, i64_w, i32_w]
                          rfl
                        refine one_ (i := 5) (N := some 97) #[true, true, true, true, true, true, true, true, true, false] rfl rfl (by kernel_rfl) (by decide) (fun K hK => ?_)
                        refine goes_ Try.func11 (by kernel_rfl) rfl #[.pointer (some ⟨g, 0, none⟩), .bool true] (by rfl) rfl rfl (by (try simp only [List.map_toArray, List.map_cons, List.map_nil]); first | done | rfl) ?_
                        with_reducible refine (Wire.tpassz (y := true) (z := z) (r := r) HI3.out (by have := HBL.out; omega) (by have := HOL.out; omega) (by have := HUL.out; omega) true ((Wire.goesZ ho).trans rfl) HZ.out).mono ?_
                        rintro e w6 ⟨rfl, hT, hb, hk, ho⟩
                        refine ⟨_, rfl, ?_⟩
                        have HI4 := Aside0.mk hT
                        have n0_ := Aside0.mk (HB3.out.trans hb)
                        have n2_ := Aside0.mk (hk.reads HT2.out HTE.out)
                        have hS1 := hk.cell (p := ad.add q) (by rw [add_block]; exact HTE.out ad rfl (by omega)) hHeld.1
                        have hS2 := Wire.only_cell ho (p := a1) (fun hp => hp.elim hzg hzl) hHeld.2
                        clear HB3 HI3 HT2 hT hb hk ho hHeld
                        have HB3 := n0_
                        have HT2 := n2_
                        clear n0_ n2_
                        refine hK.out _ _ ⟨hS1, hS2⟩ (fun hHeld => ?_)
                        clear hK K
                        refine norm_ (a' := ?_) ?_ ?_
                        rotate_left
                        · show Act.put _ (some 97) _ = _
                          simp only [Act.put, List.setIfInBounds_toArray, List.set_cons_zero, List.set_cons_succ, i64_w, i32_w]
                          rfl
                        refine pure_ (i := 9) (N := some 101) (v := ?_) (a' := ?_) #[true, true, true, true, true, true, true, true, true, true] rfl rfl (by kernel_rfl) (fun _ _ _ h => h) (Or.inl ⟨by rfl, ?_⟩) ?_ ?_
                        rotate_left
                        · intro w'
                          go_simp
                          with_reducible rfl
                        rotate_left
                        · simp only [Act.put, List.setIfInBounds_toArray, List.set_cons_zero, List.set_cons_succ, i64_w, i32_w]
                          rfl
                        refine done_ (by kernel_rfl) ?_
                        clear hHeld
                        go_wp2
                        have HI5 := HI4.out
                        rw [show bent + Wire.bends (false :: s) ones true = bent + 0 from congrArg (fun z_ => bent + z_) ((Wire.bendsZ ho).trans rfl)] at HI5
                        rw [show (false :: s).drop 1 = s from rfl] at HI5
                        rw [show ones - 1 = ones by omega] at HI5
                        go_roundw
                        case rel =>
                          refine ⟨q + 1, by omega, by first | rfl | (simp; done), s, r, ones, bent + 0, n3, n4, Ax, c3, Ay, c4, rfl, rfl, (by first | rfl | (congr 1; omega) | (simp; done) | (simp; omega)), (by first | rfl | (congr 1; omega) | (simp; done) | (simp; omega)), hn3, ⟨by have := HZ.out; have := HUL.out; have e := congrArg List.length (HZ.out); simp only [List.length_append, List.length_cons, List.length_nil] at e; omega⟩, ⟨by have := HKL.out; simp only [List.length_cons] at this; omega⟩, ⟨by have := HOL.out; omega⟩, ⟨by have := HBL.out; omega⟩, ⟨HTU.out _ _ _ _ _ _ _ _ _ _ HI5⟩, HB3, HT2⟩
                        case measure => (simp [intOf]; omega)
                      | false =>
                        obtain ⟨a0, Ax, n3, c3, ha0, hcm, hn1, hn3, hcutk, hTk⟩ := HI.out.kcut
                        subst ha0
                        have HIk := Aside0.mk hTk
                        have hn3b : n3 ≤ 20000 := by have := HKL.out; simp only [List.length_cons] at this; omega
                        replace hn3 := Aside0.mk hn3
                        have hpk := eq_true (show 0 < nk by omega)
                        have hpk2 := eq_true (show (0 : Int) < (nk : Int) by omega)
                        clear hTk
                        clear HI
                        have g_0 : decide ((0 : Int) < (nk : Int)) = true := decide_eq_true (by omega)
                        have g_1 : decide (0 < nk) = true := decide_eq_true (by omega)
                        have g_2 : decide ((0 : Int) < (ones : Int)) = false := decide_eq_false (by omega)
                        have g_3 : decide (0 < ones) = false := decide_eq_false (by omega)
                        obtain ⟨a1, n2, c1, w3, z, r, hrun, hz, hn2, hT, hb, hk, hcz, hzg, hzl⟩ := HIk.out.uput false (by have := HUL.out; omega)
                        have hxq := Wire.KeptE.cell hk (p := ad.add q) (by rw [add_block]; exact HTE.out ad rfl (by omega)) hx
                        obtain ⟨Ay, n4, c4, hn4, hcutu, hTu⟩ := Wire.Trio.ucut (B := w.heap.size) (A := some a1) (n := n2) (c := c1) (b := z) (s := r) hn2
                        have hup := eq_true (show 0 < n2 by omega)
                        have hup2 := eq_true (show (0 : Int) < (n2 : Int) by omega)
                        have HT2 := Aside0.mk (hk.reads HT.out HTE.out)
                        have HI3 := Aside0.mk hT
                        have HB3 := Aside0.mk (HB.out.trans hb)
                        have HR := Aside0.mk hrun
                        have HZ := Aside0.mk hz
                        have HXQ := Aside0.mk hxq
                        have HCZ := Aside0.mk hcz
                        have HK := Aside0.mk hk
                        have HTU := Aside0.mk hTu
                        replace hn2 := Aside0.mk hn2
                        replace hn4 := Aside0.mk hn4
                        clear hT hb hrun hz hxq hcz hk hTu HB HT HIk
                        go_wp2_with (first
                          | ((with_reducible refine gate_builtin (b := .append) (xs := #[.tmp 88, .tmp 90]) rfl ?_); refine Wire.wpList_append_run rfl (.tmp 88) (.tmp 90) 28 rfl (.slice Au nu cu) (.slice (some ⟨wr.heap.size, 0, none⟩) 1 1) rfl rfl (.slice (some a1) n2 c1) w3 HR.out ?_))
                        refine start_ (n := 10) (S := fun W => W.cell? (ad.add q) = some (.bool false) ∧ W.cell? a1 = some (.bool z)) (ds := []) #[false, false, false, false, false, false, false, false, false, false] (by kernel_rfl) rfl rfl ⟨HXQ.out, HCZ.out⟩ (fun hHeld => ?_)
                        have hb0 : Below w3.heap.size w3 w3.drew := below_drew1 (Below.refl _ _)
                        have n0_ := Aside0.mk (below_drew1 HB3.out)
                        have n1_ := Aside0.mk (HI3.out.below hb0 (fun k hk => Or.inl hk))
                        have n2_ := Aside0.mk (show ReadsOf Value.bool false w3.drew (some ad) t.length t from HT2.out)
                        clear HB3 HI3 HT2 hb0 HK HR HXQ HCZ
                        have HB3 := n0_
                        have HI3 := n1_
                        have HT2 := n2_
                        clear n0_ n1_ n2_
                        generalize w3.drew = W0 at HB3 HI3 HT2 hHeld ⊢
                        refine pure_ (i := 0) (N := some 92) (v := ?_) (a' := ?_) #[true, false, false, false, false, false, false, false, false, false] rfl rfl (by kernel_rfl) (fun _ _ _ h => h) (Or.inl ⟨by rfl, ?_⟩) ?_ ?_
                        rotate_left
                        · intro w'
                          go_simp
                          with_reducible rfl
                        rotate_left
                        · simp only [Act.put, List.setIfInBounds_toArray, List.set_cons_zero, List.set_cons_succ, i64_w, i32_w]
                          rfl
                        refine pure_ (i := 1) (N := some 93) (v := ?_) (a' := ?_) #[true, true, false, false, false, false, false, false, false, false] rfl rfl (by kernel_rfl) (fun _ _ _ h => h) (Or.inl ⟨by rfl, ?_⟩) ?_ ?_
                        rotate_left
                        · intro w'
                          go_simp
                          with_reducible rfl
                        rotate_left
                        · simp only [Act.put, List.setIfInBounds_toArray, List.set_cons_zero, List.set_cons_succ, i64_w, i32_w]
                          rfl
                        refine pure_ (i := 2) (N := some 94) (v := ?_) (a' := ?_) #[true, true, true, false, false, false, false, false, false, false] rfl rfl (by kernel_rfl) (fun _ _ _ h => h) (Or.inl ⟨by rfl, ?_⟩) ?_ ?_
                        rotate_left
                        · intro w'
                          go_simp
                          with_reducible rfl
                        rotate_left
                        · simp only [Act.put, List.setIfInBounds_toArray, List.set_cons_zero, List.set_cons_succ, i64_w, i32_w]
                          rfl
                        refine pure_ (i := 6) (N := some 98) (v := ?_) (a' := ?_) #[true, true, true, false, false, false, true, false, false, false] rfl rfl (by kernel_rfl) (fun _ _ _ h => h) (Or.inl ⟨by rfl, ?_⟩) ?_ ?_
                        rotate_left
                        · intro w'
                          go_simp
                          with_reducible rfl
                        rotate_left
                        · simp only [Act.put, List.setIfInBounds_toArray, List.set_cons_zero, List.set_cons_succ, i64_w, i32_w]
                          rfl
                        refine pure_ (i := 3) (N := some 95) (v := ?_) (a' := ?_) #[true, true, true, true, false, false, true, false, false, false] rfl rfl (by kernel_rfl) (fun _ _ _ h => h) (Or.inl ⟨by rfl, ?_⟩) ?_ ?_
                        rotate_left
                        · intro w'
                          go_simp
                          with_reducible rfl
                        rotate_left
                        · simp only [Act.put, List.setIfInBounds_toArray, List.set_cons_zero, List.set_cons_succ, i64_w, i32_w]
                          rfl
                        refine pure_ (i := 7) (N := some 99) (v := ?_) (a' := ?_) #[true, true, true, true, false, false, true, true, false, false] rfl rfl (by kernel_rfl) (fun _ _ _ h => h) (Or.inl ⟨by rfl, ?_⟩) ?_ ?_
                        rotate_left
                        · intro w'
                          go_simp
                          with_reducible rfl
                        rotate_left
                        · simp only [Act.put, List.setIfInBounds_toArray, List.set_cons_zero, List.set_cons_succ, i64_w, i32_w]
                          rfl
                        refine take_ (i := 4) (N := some 96) (v := ?_) (a' := ?_) #[true, true, true, true, true, false, true, true, false, false] rfl rfl (by kernel_rfl) (fun _ _ _ h => h) (Or.inl ⟨by rfl, ?_⟩) hHeld ?_ ?_
                        rotate_left
                        · intro w' hS'
                          obtain ⟨s1_, s2_⟩ := hS'
                          go_simp
                          with_reducible rfl
                        rotate_left
                        · simp only [Act.put, List.setIfInBounds_toArray, List.set_cons_zero, List.set_cons_succ, i64_w, i32_w]
                          rfl
                        refine take_ (i := 8) (N := some 100) (v := ?_) (a' := ?_) #[true, true, true, true, true, false, true, true, true, false] rfl rfl (by kernel_rfl) (fun _ _ _ h => h) (Or.inl ⟨by rfl, ?_⟩) hHeld ?_ ?_
                        rotate_left
                        · intro w' hS'
                          obtain ⟨s1_, s2_⟩ := hS'
                          go_simp
                          with_reducible rfl
                        rotate_left
                        · simp only [Act.put, List.setIfInBounds_toArray, List.set_cons_zero, List.set_cons_succ, i64_w, i32_w]
                          rfl
                        refine one_ (i := 5) (N := some 97) #[true, true, true, true, true, true, true, true, true, false] rfl rfl (by kernel_rfl) (by decide) (fun K hK => ?_)
                        refine goes_ Try.func11 (by kernel_rfl) rfl #[.pointer (some ⟨g, 0, none⟩), .bool false] (by rfl) rfl rfl (by (try simp only [List.map_toArray, List.map_cons, List.map_nil]); first | done | rfl) ?_
                        with_reducible refine (Wire.tpassz (y := false) (z := z) (r := r) HI3.out (by have := HBL.out; omega) (by have := HOL.out; omega) (by have := HUL.out; omega) false ((Wire.goesZ ho).trans rfl) HZ.out).mono ?_
                        rintro e w6 ⟨rfl, hT, hb, hk, ho⟩
                        refine ⟨_, rfl, ?_⟩
                        have HI4 := Aside0.mk hT
                        have n0_ := Aside0.mk (HB3.out.trans hb)
                        have n2_ := Aside0.mk (hk.reads HT2.out HTE.out)
                        have hS1 := hk.cell (p := ad.add q) (by rw [add_block]; exact HTE.out ad rfl (by omega)) hHeld.1
                        have hS2 := Wire.only_cell ho (p := a1) (fun hp => hp.elim hzg hzl) hHeld.2
                        clear HB3 HI3 HT2 hT hb hk ho hHeld
                        have HB3 := n0_
                        have HT2 := n2_
                        clear n0_ n2_
                        refine hK.out _ _ ⟨hS1, hS2⟩ (fun hHeld => ?_)
                        clear hK K
                        refine norm_ (a' := ?_) ?_ ?_
                        rotate_left
                        · show Act.put _ (some 97) _ = _
                          simp only [Act.put, List.setIfInBounds_toArray, List.set_cons_zero, List.set_cons_succ, i64_w, i32_w]
                          rfl
                        refine pure_ (i := 9) (N := some 101) (v := ?_) (a' := ?_) #[true, true, true, true, true, true, true, true, true, true] rfl rfl (by kernel_rfl) (fun _ _ _ h => h) (Or.inl ⟨by rfl, ?_⟩) ?_ ?_
                        rotate_left
                        · intro w'
                          go_simp
                          with_reducible rfl
                        rotate_left
                        · simp only [Act.put, List.setIfInBounds_toArray, List.set_cons_zero, List.set_cons_succ, i64_w, i32_w]
                          rfl
                        refine done_ (by kernel_rfl) ?_
                        clear hHeld
                        go_wp2
                        have HI5 := HI4.out
                        rw [show bent + Wire.bends (false :: s) ones false = bent + 0 from congrArg (fun z_ => bent + z_) ((Wire.bendsZ ho).trans rfl)] at HI5
                        rw [show (false :: s).drop 1 = s from rfl] at HI5
                        rw [show ones - 1 = ones by omega] at HI5
                        go_roundw
                        case rel =>
                          refine ⟨q + 1, by omega, by first | rfl | (simp; done), s, r, ones, bent + 0, n3, n4, Ax, c3, Ay, c4, rfl, rfl, (by first | rfl | (congr 1; omega) | (simp; done) | (simp; omega)), (by first | rfl | (congr 1; omega) | (simp; done) | (simp; omega)), hn3, ⟨by have := HZ.out; have := HUL.out; have e := congrArg List.length (HZ.out); simp only [List.length_append, List.length_cons, List.length_nil] at e; omega⟩, ⟨by have := HKL.out; simp only [List.length_cons] at this; omega⟩, ⟨by have := HOL.out; omega⟩, ⟨by have := HBL.out; omega⟩, ⟨HTU.out _ _ _ _ _ _ _ _ _ _ HI5⟩, HB3, HT2⟩
                        case measure => (simp [intOf]; omega)
              · obtain rfl : q = t.length := by omega
                have b2 : decide ((t.length : Int) < (t.length : Int)) = false := decide_eq_false (by omega)
                go_wp2_with (first
                  | ((with_reducible refine gate_callee (f := 16) rfl ?_); refine goesL_ (some 147) rfl rfl Try.func16 (by kernel_rfl) rfl #[.pointer (some ⟨g, 0, none⟩)] rfl (by (try simp only [List.map_toArray, List.map_cons, List.map_nil]); first | done | rfl | (simp [Act.eval, *]; done)) ?_; (with_reducible refine (Wire.tmaskedx (x := (nk : Int) + (ones : Int)) HI.out (by have := HKL.out; have := HOL.out; omega) (by have := HKN.out; omega)).mono ?_); rintro e wm ⟨rfl, hT, hb, hk⟩; refine ⟨_, rfl, ?_⟩; have n0_ := Aside0.mk (hT); have n1_ := Aside0.mk (HB.out.trans hb); clear HI HB; have HI := n0_; have HB := n1_; clear n0_ n1_; clear hT hb hk)
                  | ((with_reducible refine gate_callee (f := 13) rfl ?_); (try (refine gate_guard (by rfl) ?_; dsimp only)); refine goesL_ (some 155) rfl rfl Try.func13 (by kernel_rfl) rfl #[.pointer (some ⟨g, 0, none⟩)] rfl (by (try simp only [List.map_toArray, List.map_cons, List.map_nil]); first | done | rfl | (simp [Act.eval, *]; done)) ?_; (with_reducible refine (Wire.tbentx (x := (bent : Int)) HI.out rfl).mono ?_); rintro e wm2 ⟨rfl, rfl⟩; refine ⟨_, rfl, ?_⟩)
                  | ((with_reducible refine gate_callee (f := 17) rfl ?_); (try (refine gate_guard (by rfl) ?_; dsimp only)); refine goesL_ (some 161) rfl rfl Try.func17 (by kernel_rfl) rfl #[.pointer (some ⟨g, 0, none⟩)] rfl (by (try simp only [List.map_toArray, List.map_cons, List.map_nil]); first | done | rfl | (simp [Act.eval, *]; done)) ?_; (with_reducible refine (Wire.tdelayx HI.out HUL.out).mono ?_); rintro e wm3 ⟨rfl, rfl⟩; refine ⟨_, rfl, ?_⟩))
                go_roundw
                case rel =>
                  refine ⟨j + 1, by omega, by first | rfl | (simp; done) | (congr 1; omega), km, um, ones, bent, nk, nu, Ak, ck, Au, cu, rfl, rfl, rfl, rfl, HKN, HUL, ⟨by have := HKL.out; omega⟩, ⟨by have := HOL.out; omega⟩, ⟨by have := HBL.out; have := HTL.out; omega⟩, ⟨HI.out.same (fun _ h => h.elim)⟩, HB⟩
                case measure => (simp [intOf]; omega)
      · have f1 : decide ((30 : Int) < (p.length : Int)) = true := decide_eq_true (by omega)
        have f2 : decide (30 < p.length) = true := decide_eq_true (by omega)
        go_wp2
        go_ret
        exact ⟨rfl, below_alloc HB.out _⟩
    · obtain rfl : j = n := by omega
      have b1 : decide ((j : Int) < (j : Int)) = false := decide_eq_false (by omega)
      go_wp2
      go_ret
      exact ⟨rfl, HB.out⟩
def signalmanlaw20_WirePlays.Pure : Prop := ∀ (n : Nat) (aP : Nat → List Int), (∀ i, i < n → ∀ x ∈ aP i, (Lit.int .u8 x).wf = true) → ∃ k, ∀ i, i < n → (aP i).length ≤ 30 → ∃ t, signalmanref01_Bits.f k (aP i) = some t ∧ t.length ≤ 240

end Go.Proofs.Ytaiallgcobpkaaa.MWirePlays
