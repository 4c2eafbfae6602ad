/- What is heard of a fresh row, in the forms that the laws over whole streams want. No condition. Written for this claim. -/
import Derived.Test.YtonhgiclaieamaaEarBits
namespace Go.Proofs.Ytonhgiclaieamaa.Ear
open Go Go.RowKit Go.Proofs.Ytonhgiclaieamaa Go.Proofs.YtonhgiclaieamaaW.PrintWords Go.Proofs.YtonhgiclaieamaaW.PrintLast Go.Proofs.YtonhgiclaieamaaW.PrintMore Go.Proofs.Ytonhgiclaieamaa.Base Go.Proofs.Ytonhgiclaieamaa.Rowq
set_option linter.unusedVariables false
set_option linter.unusedSimpArgs false
theorem inv0 : Inv ⟨[], 0, false, 0⟩ := ⟨by show 0 < 128; omega, fun h => absurd h (by simp), fun _ => rfl⟩
theorem inv1 (m : Nat) (h : m < 128) : Inv ⟨[], 0, true, m⟩ := ⟨h, fun _ => ⟨by show 0 ≤ 6; omega, by show 0 ≤ 2687 + 0; omega⟩, fun h => absurd h (by simp)⟩
/-- A new ear, nothing else held. -/
theorem born0 {B : Nat} (w : World) (hB : B ≤ w.heap.size) : Is B (fun _ => False) (w.alloc (.cells #[.slice none 0 0, .int .i64 0, .bool false, .int .i64 0] 48)) w.heap.size ⟨[], 0, false, 0⟩ := by
  have hz : (w.alloc (.cells #[.slice none 0 0, .int .i64 0, .bool false, .int .i64 0] 48)).heap.size = w.heap.size + 1 := by simp [World.alloc_eq]
  exact ⟨⟨hB, by omega⟩, fun _ => False, .slice none 0 0, fun k hk => hk.elim, fun k hk => hk.elim, heap_alloc_new w _, Or.inl ⟨rfl, rfl⟩⟩
/-- What became of the ear, where nobody asks what was heard. -/
def After (J : List Bool → Option (List Int)) (B : Nat) (w : World) (g : Nat) (s : St) (t : List Bool) (e : Ending) (w' : World) : Prop :=
  ∃ (A : Option Addr) (n c : Nat) (s' : St), e = .returned (.slice A n c) ∧ s' = (runF J s t).1 ∧ Is B (fun _ => False) w' g s' ∧ Inv s' ∧ s'.ones ≤ s.ones + t.length ∧ Below B w w'
theorem hear_any {J : List Bool → Option (List Int)} (HJ : JudgeOk J) {B : Nat} {w0 w : World} {g : Nat} {s : St} (hi : Is B (fun _ => False) w0 g s) (hI : Inv s) (hb : Below w0.heap.size w0 w) (A : Option Addr) (c : Nat) (t : List Bool) (ht : t.length ≤ 100000000) (ho : s.ones + t.length < 1000000000) (hr : ReadsOf Value.bool false w A t.length t) (hA : ∀ ad, A = some ad → 0 < t.length → w0.heap.size ≤ ad.block) :
    Calls Try.prog 23 #[.pointer (some ⟨g, 0, none⟩), .slice A t.length c] w (After J B w g s t) := by
  refine (hear_fresh HJ hi hI hb A c t ht ho hr hA).mono ?_
  rintro e w' ⟨v, rfl, h1, h2, base, okv, hR⟩
  obtain ⟨A2, c2, rfl⟩ := Kd.R_slice hR
  have hv := hI.run (J := J) t
  exact ⟨_, _, _, _, rfl, rfl, h1, hv.1, hv.2.1, h2⟩
/-- What was heard is one thing. -/
def One (B : Nat) (w : World) (g : Nat) (s' : St) (K : Int) (p : List Int) (e : Ending) (w' : World) : Prop :=
  ∃ (h cl : Nat) (Ap : Option Addr) (cp : Nat), e = .returned (.slice (some ⟨h, 0, none⟩) 1 cl) ∧ w'.cell? ⟨h, 0, none⟩ = some (.int .u8 K) ∧ w'.cell? ⟨h, 1, none⟩ = some (.slice Ap p.length cp) ∧ p.length ≤ cp ∧ Kd.C (Kd.int .u8) w' Ap p.length p ∧ Is B (fun _ => False) w' g s' ∧ Below B w w'
theorem hear_one {J : List Bool → Option (List Int)} (HJ : JudgeOk J) {B : Nat} {w0 w : World} {g : Nat} {s : St} (hi : Is B (fun _ => False) w0 g s) (hI : Inv s) (hb : Below w0.heap.size w0 w) (A : Option Addr) (c : Nat) (t : List Bool) (ht : t.length ≤ 100000000) (ho : s.ones + t.length < 1000000000) (hr : ReadsOf Value.bool false w A t.length t) (hA : ∀ ad, A = some ad → 0 < t.length → w0.heap.size ≤ ad.block) (s' : St) (K : Int) (p : List Int) (he : runF J s t = (s', [(K, p)])) :
    Calls Try.prog 23 #[.pointer (some ⟨g, 0, none⟩), .slice A t.length c] w (One B w g s' K p) := by
  refine (hear_fresh HJ hi hI hb A c t ht ho hr hA).mono ?_
  rintro e w' ⟨v, rfl, h1, h2, base, okv, hR⟩
  rw [he] at h1 hR
  obtain ⟨h, cl, Ap, cp, rfl, c0, c1, hcp, hC⟩ := one_heard hR
  exact ⟨h, cl, Ap, cp, rfl, c0, c1, hcp, hC, h1, h2⟩
/-- Two rows of bits made one behind the other, the first with room behind it, put together. -/
theorem joined {w0 w : World} {v : Value} {xs ys : List Bool} {A : Option Addr} {c : Nat} (hR : Kd.R Kd.bool 4 w w0.heap.size (fun _ => True) v xs) (hr : ReadsOf Value.bool false w A ys.length ys) (hl : xs.length + ys.length ≤ 140737488355328) (t : TypeId) (ht : Try.prog.underlying t = some (.slice 4)) (hb : Below w0.heap.size w0 w) :
    ∃ A1 c1 w1, (Builtin.append_ #[t, t] t #[v, .slice A ys.length c]).run Try.prog w = .ok (.slice A1 (xs ++ ys).length c1) w1 ∧ ReadsOf Value.bool false w1 A1 (xs ++ ys).length (xs ++ ys) ∧ (∀ ad, A1 = some ad → w0.heap.size ≤ ad.block) ∧ Below w0.heap.size w0 w1 := by
  have hs := hb.size
  have ho := Kd.own_of_R hR
  obtain ⟨v1, w1, h1, h2, h3⟩ := Rowq.append_spare t ht t (fun k => w0.heap.size ≤ k ∨ w.heap.size ≤ k) v xs ys A c w (Rowq.spare_of_own ho (fun k hk => Or.inl hk)) hr hl (fun k hk => Or.inr hk)
  obtain ⟨A1, c1, rfl, hc, hr1, hd⟩ := h2.reads
  exact ⟨A1, c1, w1, h1, hr1, fun ad e => (hd ad e).elim (fun h => h) (fun h => by omega), h3.below (fun k hk => hk.elim (fun h => h) (fun h => by omega)) hb (by omega)⟩
/-- A run over bits, and then over more. -/
theorem runF_from_ (J : List Bool → Option (List Int)) : ∀ (b : List Bool) (s : St) (o : List (Int × List Int)), b.foldl (fun a on => ((bitF J a.1 on).1, a.2 ++ (bitF J a.1 on).2.toList)) (s, o) = ((runF J s b).1, o ++ (runF J s b).2) := by
  intro b
  induction b with
  | nil => intro s o; simp [runF]
  | cons x b ih =>
    intro s o
    have h1 := ih (bitF J s x).1 (o ++ (bitF J s x).2.toList)
    have h2 := ih (bitF J s x).1 ([] ++ (bitF J s x).2.toList)
    unfold runF
    rw [List.foldl_cons, List.foldl_cons, h1, h2]
    simp
theorem runF_more (J : List Bool → Option (List Int)) (s : St) (a b : List Bool) : runF J s (a ++ b) = ((runF J (runF J s a).1 b).1, (runF J s a).2 ++ (runF J (runF J s a).1 b).2) := by
  conv => lhs; unfold runF
  rw [List.foldl_append]
  exact runF_from_ J b _ _
theorem runF_cut (J : List Bool → Option (List Int)) (s : St) (t : List Bool) (a n : Nat) (h : a ≤ n) : runF J s (t.take n) = ((runF J (runF J s (t.take a)).1 ((t.take n).drop a)).1, (runF J s (t.take a)).2 ++ (runF J (runF J s (t.take a)).1 ((t.take n).drop a)).2) := by
  rw [← runF_more]
  congr 1
  have e : t.take a = (t.take n).take a := by rw [List.take_take, Nat.min_eq_left h]
  rw [e, List.take_append_drop]
/-- What was heard of more bits is put behind what was heard, row by row. -/
theorem Part.more_ {J : List Bool → Option (List Int)} {B : Nat} {E okv : Nat → Prop} {w0 w w1 w2 : World} {g : Nat} {s2 : St} {out out2 : List (Int × List Int)} {v v1 : Value} (h0 : B ≤ w0.heap.size) (hk_ : ∀ k, okv k → w0.heap.size ≤ k ∧ k < w.heap.size) (hR : Kd.R kH 57 w w0.heap.size okv v out) (hB : Below B w0 w) (hK : KeptE E w0 w) (hE0 : ∀ k, E k → k < w0.heap.size)
    (okv2 : Nat → Prop) (hk2_ : ∀ k, okv2 k → w.heap.size ≤ k ∧ k < w1.heap.size) (hI2 : Is B (fun k => (E k ∨ okv k) ∨ okv2 k) w1 g s2) (hB2 : Below B w w1) (hK2 : KeptE (fun k => E k ∨ okv k) w w1)
    (hR2 : Kd.R kH 57 w2 w0.heap.size (fun k => okv k ∨ okv2 k ∨ w1.heap.size ≤ k) v1 (out ++ out2)) (hg : w1.grownBy w2 v.ownBlock) : Part J B E w0 w2 g s2 (out ++ out2) v1 := by
  have hsz1 := hB2.size
  have hsz2 := hg.size
  have hsz0 := hB.size
  have ho := only_grown hg
  have hrow : ∀ k, some k = v.ownBlock → okv k := fun k e => hR.1 k e.symm
  have hI3 := hI2.grown (E' := fun k => E k ∨ ((okv k ∨ okv2 k ∨ w1.heap.size ≤ k) ∧ w0.heap.size ≤ k ∧ k < w2.heap.size)) ho (fun k hk => Or.inl (Or.inr (hrow k hk))) (fun k hk => by
    rcases hk with h | ⟨h | h | h, _, h''⟩
    · exact Or.inl (Or.inl (Or.inl h))
    · exact Or.inl (Or.inl (Or.inr h))
    · exact Or.inl (Or.inr h)
    · exact Or.inr ⟨h, h''⟩)
  refine ⟨h0, ⟨fun k => (okv k ∨ okv2 k ∨ w1.heap.size ≤ k) ∧ w0.heap.size ≤ k ∧ k < w2.heap.size, fun k hk => hk.2, Kd.R_mono (Kd.R_bound hR2) (fun k hk => ⟨hk.1, hk.2.1, hk.2.2.1⟩), hI3⟩, ?_, fun k hk => ?_⟩
  · refine (hB.trans hB2).trans (ho.below (fun k e => ?_) (Below.refl _ _) (by omega))
    have := hk_ k (hrow k e)
    omega
  · have hlt := hE0 k hk
    have hne : ¬ (some k = v.ownBlock) := fun e => by have := hk_ k (hrow k e); omega
    exact (ho.block k (by omega) hne).trans ((hK2 k (Or.inl hk)).trans (hK k hk))
/-- What is done to a block that is made behind it leaves the ear alone. -/
theorem Is.fresh {B : Nat} {E : Nat → Prop} {w w2 : World} {g : Nat} {s : St} (t : Is B E w g s) (hb : Below w.heap.size w w2) (hE' : ∀ k, E k → k < w.heap.size) : Is B E w2 g s := t.below hb (fun k hk => Or.inl hk)
/-- What was heard lies ready to be put behind what was heard before it. -/
structure Ready (J : List Bool → Option (List Int)) (B : Nat) (E : Nat → Prop) (w0 w6 : World) (g : Nat) (s2 : St) (out out2 : List (Int × List Int)) (v : Value) (A2 : Option Addr) : Prop where
  ex : ∃ ok okp : Nat → Prop, Kd.R kH 57 w6 w0.heap.size ok v out ∧ ReadsRow (kH.M w6 w0.heap.size okp) kH.sz w6 A2 out2.length out2 ∧ (∀ k, okp k → ok k ∧ some k ≠ v.ownBlock) ∧ (∀ k, w6.heap.size ≤ k → ok k) ∧ w0.heap.size ≤ w6.heap.size ∧
    (∀ v1 w7, Kd.R kH 57 w7 w0.heap.size ok v1 (out ++ out2) → w6.grownBy w7 v.ownBlock → Part J B E w0 w7 g s2 (out ++ out2) v1)
def Heard (J : List Bool → Option (List Int)) (B : Nat) (E : Nat → Prop) (w0 : World) (g : Nat) (s2 : St) (out o2 : List (Int × List Int)) (v : Value) (e : Ending) (w6 : World) : Prop :=
  ∃ (A2 : Option Addr) (c2 : Nat), e = .returned (.slice A2 o2.length c2) ∧ Ready J B E w0 w6 g s2 out o2 v A2
theorem Part.hears {J : List Bool → Option (List Int)} (HJ : JudgeOk J) {B : Nat} {E : Nat → Prop} {w0 w : World} {g : Nat} {s : St} {out : List (Int × List Int)} {v : Value} (hP : Part J B E w0 w g s out v) (hE0 : ∀ k, E k → k < w0.heap.size) (hI : Inv s) (A : Option Addr) (c : Nat) (u : List Bool) (hu : u.length ≤ 100000000) (ho : s.ones + u.length < 1000000000) (hr : ReadsOf Value.bool false w A u.length u) (hA : ∀ ad, A = some ad → 0 < u.length → E ad.block) (s2 : St) (o2 : List (Int × List Int)) (he : runF J s u = (s2, o2)) :
    Calls Try.prog 23 #[.pointer (some ⟨g, 0, none⟩), .slice A u.length c] w (Heard J B E w0 g s2 out o2 v) := by
  obtain rfl : s2 = (runF J s u).1 := by rw [he]
  obtain rfl : o2 = (runF J s u).2 := by rw [he]
  obtain ⟨h0, ⟨okv, hk, hR, hIs⟩, hB, hK⟩ := hP
  refine (bits_calls HJ hIs hI A c u hu ho hr (fun ad e hn => Or.inl (hA ad e hn))).mono ?_
  rintro e w6 ⟨v6, rfl, ⟨h06, ⟨okv2, hk2, hR2, hI2⟩, hB2, hK2⟩⟩
  obtain ⟨A2, c2, rfl⟩ := Kd.R_slice hR2
  have hs1 := hB.size
  have hs2 := hB2.size
  have hs3 : w.heap.size ≤ w6.heap.size := hs2
  have hs4 : w0.heap.size ≤ w.heap.size := hs1
  obtain ⟨A3, c3, e3, _, hrow⟩ := hR2.2.reads
  simp only [Value.slice.injEq] at e3
  obtain ⟨rfl, _, rfl⟩ := e3
  refine ⟨A2, c2, rfl, ⟨fun k => okv k ∨ okv2 k ∨ w6.heap.size ≤ k, okv2, Kd.R_mono (Kd.R_step hR (fun k hk _ => hK2 k (Or.inr hk))) (fun k hk => Or.inl hk), ?_, fun k hk' => ⟨Or.inr (Or.inl hk'), fun e => ?_⟩, fun k hk' => Or.inr (Or.inr hk'), by omega, fun v1 w7 hR7 hg => ?_⟩⟩
  · refine ⟨hrow.1, hrow.2.1, fun hn => ?_⟩
    obtain ⟨ad, e, hc⟩ := hrow.2.2 hn
    refine ⟨ad, e, fun j p hj => ?_⟩
    obtain ⟨c, h1, h2, h3⟩ := hc j p hj
    exact ⟨c, h1, kH.M_mono (fun k hk => hk.1) (kH.M_lower hs4 h2), h3⟩
  · have h1 := hk2 k hk'
    have h2 := hk k (hR.1 k e.symm)
    omega
  · exact Part.more_ h0 hk hR hB hK hE0 okv2 hk2 hI2 hB2 hK2 hR7 hg
end Go.Proofs.Ytonhgiclaieamaa.Ear
