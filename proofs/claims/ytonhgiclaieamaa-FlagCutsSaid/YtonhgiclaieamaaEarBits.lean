/- (*flag.Ear).Bits, walked: all that is heard of some bits. No condition. Written for this claim. -/
import Derived.Test.YtonhgiclaieamaaEarStep
namespace Go.Proofs.Ytonhgiclaieamaa.Ear
open Go Go.RowKit Go.Proofs.Ytonhgiclaieamaa Go.Proofs.YtonhgiclaieamaaW.PrintWords Go.Proofs.YtonhgiclaieamaaW.PrintLast Go.Proofs.YtonhgiclaieamaaW.PrintMore Go.Proofs.Ytonhgiclaieamaa.Base Go.Proofs.Ytonhgiclaieamaa.Rowq
set_option linter.unusedVariables false
set_option linter.unusedSimpArgs false
/-- What is heard, as the model holds it: its kind, and its octets. -/
def kH : Kd (Int × List Int) := Kd.pair (Kd.int .u8) (Kd.slice 5 (Kd.int .u8))
theorem kH_mkM (w : World) (base : Nat) (ok : Nat → Prop) (x : Int × List Int) {v : Value} (h : (Kd.int .u8).R 5 w base ok v x.2) : kH.M w base ok x [.int .u8 x.1, v] := ⟨[.int .u8 x.1], [v], rfl, rfl, ⟨v, rfl, h⟩⟩
theorem only_grown {w w2 : World} {row : Option Nat} (h : w.grownBy w2 row) : Only (fun k => some k = row) w w2 := ⟨h.os, h.tape, h.output, h.size, fun k hk hn => h.block k hk (fun e => hn e)⟩
/-- What holds behind some bits of them. -/
structure Part (J : List Bool → Option (List Int)) (B : Nat) (E : Nat → Prop) (w0 w : World) (g : Nat) (s : St) (out : List (Int × List Int)) (v : Value) : Prop where
  low : B ≤ w0.heap.size
  ex : ∃ okv : Nat → Prop, (∀ k, okv k → w0.heap.size ≤ k ∧ k < w.heap.size) ∧ Kd.R kH 57 w w0.heap.size okv v out ∧ Is B (fun k => E k ∨ okv k) w g s
  below : Below B w0 w
  kept : KeptE E w0 w
theorem Part.start {J : List Bool → Option (List Int)} {B : Nat} {E : Nat → Prop} {w : World} {g : Nat} {s : St} (t : Is B E w g s) : Part J B E w w g s [] (.slice none 0 0) :=
  ⟨t.low.2, ⟨fun _ => False, fun k hk => hk.elim, Kd.R_nil _ _ _ _ _, t.below (Below.refl _ _) (fun k hk => hk.elim Or.inl (fun h => h.elim))⟩, Below.refl _ _, KeptE.refl _ _⟩
theorem Part.below_ {J : List Bool → Option (List Int)} {B : Nat} {E : Nat → Prop} {w0 w w2 : World} {g : Nat} {s : St} {out : List (Int × List Int)} {v : Value} (t : Part J B E w0 w g s out v) (hb : Below w.heap.size w w2) : Part J B E w0 w2 g s out v := by
  obtain ⟨h0, ⟨okv, hk, hR, hI⟩, hB, hK⟩ := t
  have hsz := hb.size
  have hsz0 := hB.size
  exact ⟨h0, ⟨okv, fun k h => ⟨(hk k h).1, by have := hk k h; omega⟩, Kd.R_below hR hb, hI.below hb (fun k h => Or.inl h)⟩, hB.trans (hb.mono (by omega)), fun k h => (hb.block k (by have := hI.elt k (Or.inl h); omega)).trans (hK k h)⟩
/-- A bit more, and nothing is heard. -/
theorem Part.none_ {J : List Bool → Option (List Int)} {B : Nat} {E okv : Nat → Prop} {w0 w w2 : World} {g : Nat} {s2 : St} {out : List (Int × List Int)} {v : Value} (h0 : B ≤ w0.heap.size) (hk : ∀ k, okv k → w0.heap.size ≤ k ∧ k < w.heap.size) (hR : Kd.R kH 57 w w0.heap.size okv v out) (hB : Below B w0 w) (hK : KeptE E w0 w)
    (hI2 : Is B (fun k => (E k ∨ okv k) ∨ (false = true ∧ w.heap.size ≤ k ∧ k < w2.heap.size)) w2 g s2) (hb2 : Below B w w2) (hk2 : KeptE (fun k => E k ∨ okv k) w w2) : Part J B E w0 w2 g s2 out v := by
  have hsz := hb2.size
  refine ⟨h0, ⟨okv, fun k h => ⟨(hk k h).1, by have := hk k h; omega⟩, Kd.R_step hR (fun k h _ => hk2 k (Or.inr h)), hI2.below (Below.refl _ _) (fun k h => Or.inl (Or.inl h))⟩, hB.trans hb2, fun k h => (hk2 k (Or.inl h)).trans (hK k h)⟩
/-- A bit more, and something is heard: it is put behind what was heard. -/
theorem Part.some_ {J : List Bool → Option (List Int)} {B : Nat} {E okv : Nat → Prop} {w0 w w1 W w2 : World} {g : Nat} {s2 : St} {out : List (Int × List Int)} {v v1 : Value} {h : Int × List Int} (h0 : B ≤ w0.heap.size) (hk_ : ∀ k, okv k → w0.heap.size ≤ k ∧ k < w.heap.size) (hR : Kd.R kH 57 w w0.heap.size okv v out) (hB : Below B w0 w) (hK : KeptE E w0 w) (hE0 : ∀ k, E k → k < w0.heap.size)
    (hI2 : Is B (fun k => (E k ∨ okv k) ∨ (true = true ∧ w.heap.size ≤ k ∧ k < w1.heap.size)) w1 g s2) (hb2 : Below B w w1) (hk2 : KeptE (fun k => E k ∨ okv k) w w1) (hbW : Below w1.heap.size w1 W)
    (hR2 : Kd.R kH 57 w2 w0.heap.size (fun k => okv k ∨ w.heap.size ≤ k) v1 (out ++ [h])) (hg : W.grownBy w2 v.ownBlock) : Part J B E w0 w2 g s2 (out ++ [h]) v1 := by
  have hsz1 := hb2.size
  have hszW := hbW.size
  have hsz2 := hg.size
  have hsz0 := hB.size
  have hw0 : w0.heap.size ≤ w.heap.size := hB.size
  have ho := only_grown hg
  have hrow : ∀ k, some k = v.ownBlock → okv k := fun k e => hR.1 k e.symm
  have hIW := hI2.below (E' := fun k => E k ∨ okv k ∨ (w.heap.size ≤ k ∧ k < W.heap.size)) hbW (fun k hk => by
    rcases hk with h | h | h
    · exact Or.inl (Or.inl (Or.inl h))
    · exact Or.inl (Or.inl (Or.inr h))
    · by_cases hlt : k < w1.heap.size
      · exact Or.inl (Or.inr ⟨rfl, h.1, hlt⟩)
      · exact Or.inr ⟨by omega, h.2⟩)
  have hI3 := hIW.grown (E' := fun k => E k ∨ ((okv k ∨ w.heap.size ≤ k) ∧ w0.heap.size ≤ k ∧ k < w2.heap.size)) ho (fun k hk => Or.inr (Or.inl (hrow k hk))) (fun k hk => by
    rcases hk with h | ⟨h | h, h', h''⟩
    · exact Or.inl (Or.inl h)
    · exact Or.inl (Or.inr (Or.inl h))
    · by_cases hlt : k < W.heap.size
      · exact Or.inl (Or.inr (Or.inr ⟨h, hlt⟩))
      · exact Or.inr ⟨by omega, h''⟩)
  refine ⟨h0, ⟨fun k => (okv k ∨ w.heap.size ≤ k) ∧ w0.heap.size ≤ k ∧ k < w2.heap.size, fun k hk => hk.2, Kd.R_mono (Kd.R_bound hR2) (fun k hk => ⟨hk.1, hk.2.1, hk.2.2.1⟩), hI3⟩, ?_, fun k hk => ?_⟩
  · refine (hB.trans hb2).trans ((hbW.mono (by omega)).trans (ho.below (fun k e => ?_) (Below.refl _ _) (by omega)))
    have := hk_ k (hrow k e)
    omega
  · have hlt := hE0 k hk
    have hne : ¬ (some k = v.ownBlock) := fun e => by have := hk_ k (hrow k e); omega
    exact (ho.block k (by omega) hne).trans ((hbW.block k (by omega)).trans ((hk2 k (Or.inl hk)).trans (hK k hk)))
set_option maxHeartbeats 16000000 in
set_option maxRecDepth 100000 in
theorem bits_calls {J : List Bool → Option (List Int)} (HJ : JudgeOk J) {B : Nat} {E : Nat → Prop} {w : World} {g : Nat} {s : St} (hi : Is B E w g s) (hI : Inv s) (A : Option Addr) (c : Nat) (t : List Bool) (ht : t.length ≤ 100000000) (ho : s.ones + t.length < 1000000000) (hr : ReadsOf Value.bool false w A t.length t) (hA : ∀ ad, A = some ad → 0 < t.length → E ad.block) :
    Calls Try.prog 23 #[.pointer (some ⟨g, 0, none⟩), .slice A t.length c] w fun e w' => ∃ v, e = .returned v ∧ Part J B E w w' g (runF J s t).1 (runF J s t).2 v := by
  have HP := Aside0.mk (Part.start (J := J) hi)
  have HI := Aside0.mk hI
  have HT := Aside0.mk hr
  have HT0 := Aside0.mk hr
  have HA := Aside0.mk hA
  have HO := Aside0.mk ho
  have HTL := Aside0.mk ht
  have HE0 := Aside0.mk hi.elt
  clear hi hI hr hA ho
  go_enter Try.func23, Try.ntmps23
  go_wp2
  go_loopw [5, 12] (fun v5 v12 wr => ∃ i : Nat, i ≤ t.length ∧ v12 = .int .i64 i ∧ Aside0 (Part J B E w wr g (runF J s (t.take i)).1 (runF J s (t.take i)).2 v5) ∧ Aside0 (ReadsOf Value.bool false wr A t.length t)) (fun _ v12 _ => t.length - (intOf v12).toNat)
  case atStart => exact ⟨0, Nat.zero_le _, rfl, HP, HT⟩
  case round =>
    clear HP HT
    obtain ⟨i, hi, rfl, HP, HT⟩ := hrel
    by_cases hlt : i < t.length
    · have hpos : 0 < t.length := by omega
      have b1 : decide ((i : Int) < (t.length : Int)) = true := decide_eq_true (by omega)
      have p1 := eq_true (show 0 ≤ (i : Int) by omega)
      have p2 := eq_true (show (i : Int) < (t.length : Int) by omega)
      obtain ⟨ad, e, hx⟩ := ReadsOf.at_ HT.out (i : Int) (by omega) (by omega)
      cases e
      rw [rdOf_nat false t i hlt, Int.toNat_natCast] at hx
      have hup := HI.out.upto (J := J) t i hi
      have hsn : runF J s (t.take (i + 1)) = ((bitF J (runF J s (t.take i)).1 t[i]).1, (runF J s (t.take i)).2 ++ (bitF J (runF J s (t.take i)).1 t[i]).2.toList) := by rw [List.take_succ_eq_append_getElem hlt, runF_snoc]
      generalize t[i] = x at hx hsn
      obtain ⟨h0, ⟨okv, hk, hR, hIs⟩, hB, hK⟩ := HP.out
      have hbc := bit_is HJ hIs hup.1 (by have := HO.out; omega) x
      have hol := hup.2.2
      generalize (runF J s (t.take i)).1 = si at hsn hIs hbc hup
      generalize (runF J s (t.take i)).2 = oi at hsn hR hol
      generalize bitF J si x = bo at hsn hbc
      obtain ⟨s2, o⟩ := bo
      have HBC := Aside0.mk hbc
      have HSN := Aside0.mk hsn
      have HR := Aside0.mk hR
      have HK := Aside0.mk hk
      have HB := Aside0.mk hB
      have HKE := Aside0.mk hK
      have HIS := Aside0.mk hIs
      have HOL := Aside0.mk hol
      have HBS := Aside0.mk hB.size
      clear hbc hsn hR hk hB hK hIs HP hup hol
      cases o with
      | none =>
        go_wp2_with (first
        | ((with_reducible refine gate_callee (f := 27) rfl ?_); refine goesL_ (some 19) rfl rfl Try.func27 (by kernel_rfl) rfl #[.pointer (some ⟨g, 0, none⟩), .bool x] rfl (by (try simp only [List.map_toArray, List.map_cons, List.map_nil]); first | done | rfl | (simp [Act.eval, *]; done)) ?_; (with_reducible refine (HBC.out).mono ?_); rintro e w1 ⟨⟨v, rfl, hRv⟩, hI2, hb2, hk2⟩; obtain ⟨Av, cv, rfl⟩ := Kd.R_slice hRv; refine ⟨_, rfl, ?_⟩; have HPn := Aside0.mk (Part.none_ (J := J) h0 HK.out HR.out HB.out HKE.out hI2 hb2 hk2); have HTn := Aside0.mk (hk2.reads HT.out (fun ad e hn => Or.inl (HA.out ad e hn))); clear hRv hI2 hb2 hk2 hx HT))
        go_roundw
        case rel =>
          refine ⟨i + 1, by omega, by first | rfl | (simp; done), ⟨?_⟩, ⟨?_⟩⟩
          · rw [HSN.out]
            simp only [Option.toList, List.append_nil]
            exact HPn.out.below_ (below_alloc (Below.refl _ _) _)
          · exact reads_under HTn.out (below_alloc (Below.refl _ _) _) (reads_block HTn.out)
        case measure => (simp [intOf]; omega)
      | some h =>
        obtain ⟨K, p⟩ := h
        have hb1 : Calls Try.prog 27 #[.pointer (some ⟨g, 0, none⟩), .bool x] wr (fun e w' => (∃ v, e = .returned (.tuple #[.agg #[.int .u8 K, v], .bool true]) ∧ Kd.R (Kd.int .u8) 5 w' wr.heap.size (fun k => wr.heap.size ≤ k ∧ k < w'.heap.size) v p) ∧ Is B (fun k => (E k ∨ okv k) ∨ (true = true ∧ wr.heap.size ≤ k ∧ k < w'.heap.size)) w' g s2 ∧ Below B wr w' ∧ KeptE (fun k => E k ∨ okv k) wr w') := HBC.out.mono (fun e w' h => ⟨h.ret, h.is, h.below, h.kept⟩)
        have HB1 := Aside0.mk hb1
        clear hb1
        go_wp2_with (first
        | ((with_reducible refine gate_callee (f := 27) rfl ?_); refine goesL_ (some 19) rfl rfl Try.func27 (by kernel_rfl) rfl #[.pointer (some ⟨g, 0, none⟩), .bool x] rfl (by (try simp only [List.map_toArray, List.map_cons, List.map_nil]); first | done | rfl | (simp [Act.eval, *]; done)) ?_; (with_reducible refine (HB1.out).mono ?_); rintro e w1 ⟨⟨v, rfl, hRv⟩, hI2, hb2, hk2⟩; obtain ⟨Av, cv, rfl⟩ := Kd.R_slice hRv; refine ⟨_, rfl, ?_⟩; have HRV := Aside0.mk hRv; have HI2 := Aside0.mk hI2; have HB2 := Aside0.mk hb2; have HK2 := Aside0.mk hk2; have HTn := Aside0.mk (hk2.reads HT.out (fun ad e hn => Or.inl (HA.out ad e hn))); clear hRv hI2 hb2 hk2 hx HT)
        | ((with_reducible refine gate_builtin (b := .append) (xs := #[.tmp 23, .tmp 25]) rfl ?_); at_builtin; refine Kd.R_append kH (w0 := w1.alloc (.cells #[.int .u8 K, .slice Av p.length cv] 57)) (W := w1.alloc (.cells #[.int .u8 K, .slice Av p.length cv] 57)) w.heap.size rfl (.tmp 23) (.tmp 25) 49 57 (.agg #[(.int .u8 0), (.slice none 0 0)]) 32 rfl Try.underlying49 info57 rfl (by decide) (by omega) u5 oi (K, p) [.int .u8 K, .slice Av p.length cv] (fun k => okv k ∨ wr.heap.size ≤ k) (fun k => wr.heap.size ≤ k ∧ k < w1.heap.size) rfl ?aX ?aP ?aK ?aF ?aO ?aB ?aS ?aL ?_; (case aX => exact (congrArg (fun z_ => Value.slice (some ⟨z_, 0, none⟩) 1 1) (show w1.heap.size + 1 = (w1.alloc (.cells #[.int .u8 K, .slice Av p.length cv] 57)).heap.size by simp [World.alloc_eq]))); (case aP => exact kH_mkM _ _ _ (K, p) (Kd.R_lower (Kd.R_below HRV.out (below_alloc (Below.refl _ _) _)) HBS.out)); (case aK => exact fun k hk => ⟨Or.inr hk.1, fun e => by have := HK.out k (HR.out.1 k e.symm); omega⟩); (case aF => exact fun k hk => Or.inr (Nat.le_trans (Nat.le_trans HB2.out.size (below_alloc (Below.refl _ _) _).size) hk)); (case aO => exact Kd.R_mono (Kd.R_below (Kd.R_step HR.out (fun k hk _ => HK2.out k (Or.inr hk))) (below_alloc (Below.refl _ _) _)) (fun k hk => Or.inl hk)); (case aB => exact Below.refl _ _); (case aS => exact Nat.le_trans HBS.out (Nat.le_trans HB2.out.size (below_alloc (Below.refl _ _) _).size)); (case aL => have := HOL.out; omega); intro v6 w6 hro hbo hgr hat; have HPn := Aside0.mk (Part.some_ (J := J) h0 HK.out HR.out HB.out HKE.out HE0.out HI2.out HB2.out HK2.out (below_alloc (Below.refl _ _) _) hro hgr); clear hro hbo hgr hat))
        go_roundw
        case rel =>
          refine ⟨i + 1, by omega, by first | rfl | (simp; done), ⟨?_⟩, ⟨?_⟩⟩
          · rw [HSN.out]
            exact HPn.out
          · exact HPn.out.kept.reads HT0.out HA.out
        case measure => (simp [intOf]; omega)
    · obtain rfl : i = t.length := by omega
      have b1 : decide ((t.length : Int) < (t.length : Int)) = false := decide_eq_false (by omega)
      rw [List.take_length] at HP
      go_wp2
      go_ret
      exact ⟨_, rfl, HP.out⟩
/-- What is heard of a row that was made behind the ear's last change. -/
theorem hear_fresh {J : List Bool → Option (List Int)} (HJ : JudgeOk J) {B : Nat} {w0 w : World} {g : Nat} {s : St} (hi : Is B (fun _ => False) w0 g s) (hI : Inv s) (hb : Below w0.heap.size w0 w) (A : Option Addr) (c : Nat) (t : List Bool) (ht : t.length ≤ 100000000) (ho : s.ones + t.length < 1000000000) (hr : ReadsOf Value.bool false w A t.length t) (hA : ∀ ad, A = some ad → 0 < t.length → w0.heap.size ≤ ad.block) :
    Calls Try.prog 23 #[.pointer (some ⟨g, 0, none⟩), .slice A t.length c] w fun e w' => ∃ v, e = .returned v ∧ Is B (fun _ => False) w' g (runF J s t).1 ∧ Below B w w' ∧ ∃ base okv, Kd.R kH 57 w' base okv v (runF J s t).2 := by
  have h1 := hi.below (E' := fun k => w0.heap.size ≤ k ∧ k < w.heap.size) hb (fun k hk => Or.inr hk)
  refine (bits_calls HJ h1 hI A c t ht ho hr (fun ad e hn => ⟨hA ad e hn, reads_block hr ad e hn⟩)).mono ?_
  rintro e w' ⟨v, rfl, hP⟩
  obtain ⟨okv, hk, hR, hIs⟩ := hP.ex
  exact ⟨v, rfl, hIs.below (Below.refl _ _) (fun k hk => hk.elim), hP.below, _, okv, hR⟩
/-- One thing that was heard, in memory. -/
theorem one_heard {w : World} {base : Nat} {okv : Nat → Prop} {v : Value} {K : Int} {p : List Int} (hR : Kd.R kH 57 w base okv v [(K, p)]) :
    ∃ g cl Ap cp, v = .slice (some ⟨g, 0, none⟩) 1 cl ∧ w.cell? ⟨g, 0, none⟩ = some (.int .u8 K) ∧ w.cell? ⟨g, 1, none⟩ = some (.slice Ap p.length cp) ∧ p.length ≤ cp ∧ Kd.C (Kd.int .u8) w Ap p.length p := by
  obtain ⟨g, cl, rfl, _, _, _⟩ := Kd.R_form hR (by simp)
  obtain ⟨_, _, hC⟩ := Kd.R_reads' hR
  obtain ⟨ad, c, e, hcl, hK, hc⟩ := Kd.C_get hC ((0 : Int), ([] : List Int)) 0 (by decide) (by simp)
  simp only [Option.some.injEq] at e
  subst e
  obtain ⟨c0, c1, rfl, rfl, Ap, cp, rfl, hl, hcp⟩ := hK
  refine ⟨g, cl, Ap, cp, rfl, ?_, ?_, hl, hcp⟩
  · have := hc 0 _ rfl
    simpa [Addr.add_lit] using this
  · have := hc 1 _ rfl
    simpa [Addr.add_lit] using this
end Go.Proofs.Ytonhgiclaieamaa.Ear
