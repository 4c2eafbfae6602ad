/- What is heard of a fresh row, in the forms that the laws over whole streams want. No condition. Written for this claim. -/
import Derived.Test.YtonhgiclaieamaaEarBits
namespace Go.Proofs.Ytonhgiclaieamaa.Ear
open Go Go.RowKit Go.Proofs.Ytonhgiclaieamaa Go.Proofs.YtonhgiclaieamaaW.PrintWords Go.Proofs.YtonhgiclaieamaaW.PrintLast Go.Proofs.YtonhgiclaieamaaW.PrintMore Go.Proofs.Ytonhgiclaieamaa.Base Go.Proofs.Ytonhgiclaieamaa.Rowq
set_option linter.unusedVariables false
set_option linter.unusedSimpArgs false
theorem inv0 : Inv ⟨[], 0, false, 0⟩ := ⟨by show 0 < 128; omega, fun h => absurd h (by simp), fun _ => rfl⟩
theorem inv1 (m : Nat) (h : m < 128) : Inv ⟨[], 0, true, m⟩ := ⟨h, fun _ => ⟨by show 0 ≤ 6; omega, by show 0 ≤ 2687 + 0; omega⟩, fun h => absurd h (by simp)⟩
/-- A new ear, nothing else held. -/
theorem born0 {B : Nat} (w : World) (hB : B ≤ w.heap.size) : Is B (fun _ => False) (w.alloc (.cells #[.slice none 0 0, .int .i64 0, .bool false, .int .i64 0] 48)) w.heap.size ⟨[], 0, false, 0⟩ := by
  have hz : (w.alloc (.cells #[.slice none 0 0, .int .i64 0, .bool false, .int .i64 0] 48)).heap.size = w.heap.size + 1 := by simp [World.alloc_eq]
  exact ⟨⟨hB, by omega⟩, fun _ => False, .slice none 0 0, fun k hk => hk.elim, fun k hk => hk.elim, heap_alloc_new w _, Or.inl ⟨rfl, rfl⟩⟩
/-- What became of the ear, where nobody asks what was heard. -/
def After (J : List Bool → Option (List Int)) (B : Nat) (w : World) (g : Nat) (s : St) (t : List Bool) (e : Ending) (w' : World) : Prop :=
  ∃ (A : Option Addr) (n c : Nat) (s' : St), e = .returned (.slice A n c) ∧ s' = (runF J s t).1 ∧ Is B (fun _ => False) w' g s' ∧ Inv s' ∧ s'.ones ≤ s.ones + t.length ∧ Below B w w'
theorem hear_any {J : List Bool → Option (List Int)} (HJ : JudgeOk J) {B : Nat} {w0 w : World} {g : Nat} {s : St} (hi : Is B (fun _ => False) w0 g s) (hI : Inv s) (hb : Below w0.heap.size w0 w) (A : Option Addr) (c : Nat) (t : List Bool) (ht : t.length ≤ 100000000) (ho : s.ones + t.length < 1000000000) (hr : ReadsOf Value.bool false w A t.length t) (hA : ∀ ad, A = some ad → 0 < t.length → w0.heap.size ≤ ad.block) :
    Calls Try.prog 23 #[.pointer (some ⟨g, 0, none⟩), .slice A t.length c] w (After J B w g s t) := by
  refine (hear_fresh HJ hi hI hb A c t ht ho hr hA).mono ?_
  rintro e w' ⟨v, rfl, h1, h2, base, okv, hR⟩
  obtain ⟨A2, c2, rfl⟩ := Kd.R_slice hR
  have hv := hI.run (J := J) t
  exact ⟨_, _, _, _, rfl, rfl, h1, hv.1, hv.2.1, h2⟩
/-- What was heard is one thing. -/
def One (B : Nat) (w : World) (g : Nat) (s' : St) (K : Int) (p : List Int) (e : Ending) (w' : World) : Prop :=
  ∃ (h cl : Nat) (Ap : Option Addr) (cp : Nat), e = .returned (.slice (some ⟨h, 0, none⟩) 1 cl) ∧ w'.cell? ⟨h, 0, none⟩ = some (.int .u8 K) ∧ w'.cell? ⟨h, 1, none⟩ = some (.slice Ap p.length cp) ∧ p.length ≤ cp ∧ Kd.C (Kd.int .u8) w' Ap p.length p ∧ Is B (fun _ => False) w' g s' ∧ Below B w w'
theorem hear_one {J : List Bool → Option (List Int)} (HJ : JudgeOk J) {B : Nat} {w0 w : World} {g : Nat} {s : St} (hi : Is B (fun _ => False) w0 g s) (hI : Inv s) (hb : Below w0.heap.size w0 w) (A : Option Addr) (c : Nat) (t : List Bool) (ht : t.length ≤ 100000000) (ho : s.ones + t.length < 1000000000) (hr : ReadsOf Value.bool false w A t.length t) (hA : ∀ ad, A = some ad → 0 < t.length → w0.heap.size ≤ ad.block) (s' : St) (K : Int) (p : List Int) (he : runF J s t = (s', [(K, p)])) :
    Calls Try.prog 23 #[.pointer (some ⟨g, 0, none⟩), .slice A t.length c] w (One B w g s' K p) := by
  refine (hear_fresh HJ hi hI hb A c t ht ho hr hA).mono ?_
  rintro e w' ⟨v, rfl, h1, h2, base, okv, hR⟩
  rw [he] at h1 hR
  obtain ⟨h, cl, Ap, cp, rfl, c0, c1, hcp, hC⟩ := one_heard hR
  exact ⟨h, cl, Ap, cp, rfl, c0, c1, hcp, hC, h1, h2⟩
/-- Two rows of bits made one behind the other, the first with room behind it, put together. -/
theorem joined {w0 w : World} {v : Value} {xs ys : List Bool} {A : Option Addr} {c : Nat} (hR : Kd.R Kd.bool 4 w w0.heap.size (fun _ => True) v xs) (hr : ReadsOf Value.bool false w A ys.length ys) (hl : xs.length + ys.length ≤ 140737488355328) (t : TypeId) (ht : Try.prog.underlying t = some (.slice 4)) (hb : Below w0.heap.size w0 w) :
    ∃ A1 c1 w1, (Builtin.append_ #[t, t] t #[v, .slice A ys.length c]).run Try.prog w = .ok (.slice A1 (xs ++ ys).length c1) w1 ∧ ReadsOf Value.bool false w1 A1 (xs ++ ys).length (xs ++ ys) ∧ (∀ ad, A1 = some ad → w0.heap.size ≤ ad.block) ∧ Below w0.heap.size w0 w1 := by
  have hs := hb.size
  have ho := Kd.own_of_R hR
  obtain ⟨v1, w1, h1, h2, h3⟩ := Rowq.append_spare t ht t (fun k => w0.heap.size ≤ k ∨ w.heap.size ≤ k) v xs ys A c w (Rowq.spare_of_own ho (fun k hk => Or.inl hk)) hr hl (fun k hk => Or.inr hk)
  obtain ⟨A1, c1, rfl, hc, hr1, hd⟩ := h2.reads
  exact ⟨A1, c1, w1, h1, hr1, fun ad e => (hd ad e).elim (fun h => h) (fun h => by omega), h3.below (fun k hk => hk.elim (fun h => h) (fun h => by omega)) hb (by omega)⟩
end Go.Proofs.Ytonhgiclaieamaa.Ear
