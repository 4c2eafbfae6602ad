/- One contract of (*wire.Wire).Pass: what goes in, what comes out, and what the wire is then. No condition. Written for this claim. -/
import Derived.Test.YtaiallgcobpkaaaWireNew
import Derived.Test.YtaiallgcobpkaaaWireEz
import Derived.Test.YtaiallgcobpkaaaWireEs
import Derived.Test.YtaiallgcobpkaaaWireTz
import Derived.Test.YtaiallgcobpkaaaWireTs
import Derived.Test.YtaiallgcobpkaaaWireFz
import Derived.Test.YtaiallgcobpkaaaWireFs
namespace Go.Proofs.Ytaiallgcobpkaaa.Wire
open Go Go.RowKit Go.Proofs.Ytaiallgcobpkaaa Go.Proofs.YtaiallgcobpkaaaW.PrintWords Go.Proofs.YtaiallgcobpkaaaW.PrintLast Go.Proofs.YtaiallgcobpkaaaW.PrintMore Go.Proofs.Ytaiallgcobpkaaa.Base
set_option linter.unusedVariables false
set_option linter.unusedSimpArgs false
theorem cell_only {P : Nat → Prop} {w w' : World} (h : Only P w w') {a : Addr} {v : Value} (hc : w.cell? a = some v) (hp : ¬ P a.block) : w'.cell? a = some v :=
  (World.cell?_of_block (w := w) (h.block a.block (World.block_lt_of_cell? _ _ hc) hp)).trans hc
theorem reads_only {P : Nat → Prop} {w w' : World} {A : Option Addr} {n : Nat} {xs : List Bool} (h : ReadsOf Value.bool false w A n xs) (ho : Only P w w') (hp : ∀ ad, A = some ad → 0 < n → ¬ P ad.block) : ReadsOf Value.bool false w' A n xs := by
  refine ⟨h.1, h.2.1, fun hn => ?_⟩
  obtain ⟨ad, e, hc⟩ := h.2.2 hn
  exact ⟨ad, e, fun j hj => cell_only ho (hc j hj) (by rw [add_block]; exact hp ad e hn)⟩
/-- The bits of masks that are left: they are read only; they lie apart from the wire's own two blocks. -/
def Mask (w : World) (g gl : Nat) (vm : Value) (mask : List Bool) : Prop := ∃ A c, vm = .slice A mask.length c ∧ mask.length ≤ c ∧ ReadsOf Value.bool false w A mask.length mask ∧ ∀ ad, A = some ad → 0 < mask.length → ad.block ≠ g ∧ ad.block ≠ gl
theorem Mask.nil (w : World) (g gl : Nat) (A : Option Addr) (c : Nat) : Mask w g gl (.slice A 0 c) [] := ⟨A, c, rfl, Nat.zero_le _, ⟨rfl, Nat.zero_le _, fun h => absurd h (Nat.lt_irrefl 0)⟩, fun _ _ h => absurd h (Nat.lt_irrefl 0)⟩
/-- The wire's whole state. -/
structure Is (w : World) (g gl : Nat) (l : List Bool) (i : Nat) (mask : List Bool) (ones bent : Nat) : Prop where
  ne : gl ≠ g
  at_ : ∃ vm, At w g (.slice (some ⟨gl, 0, none⟩) l.length l.length) vm i ones bent ∧ Mask w g gl vm mask
  row : Row w gl l
  idx : l.length = 0 ∨ i < l.length
theorem Is.only {P : Nat → Prop} {w w' : World} {g gl : Nat} {l : List Bool} {i : Nat} {mask : List Bool} {ones bent : Nat} (h : Is w g gl l i mask ones bent) (ho : Only P w w') (h1 : ¬ P g) (h2 : ¬ P gl)
    (h3 : ∀ k, P k → k < w.heap.size → mask = []) : Is w' g gl l i mask ones bent := by
  obtain ⟨vm, hA, A, c, rfl, hc, hr, hd⟩ := h.at_
  refine ⟨h.ne, ⟨_, hA.only ho h1, A, c, rfl, hc, reads_only hr ho (fun ad e hn hp => ?_), hd⟩, h.row.only ho h2, h.idx⟩
  obtain ⟨ad', e', hcell⟩ := hr.2.2 hn
  rw [e] at e'
  obtain rfl := Option.some.inj e'
  have hlt := World.block_lt_of_cell? _ _ (hcell 0 hn)
  have := h3 ad.block hp (by simpa [Addr.add] using hlt)
  rw [this] at hn
  exact absurd hn (Nat.lt_irrefl 0)
/-- What goes on; how many bits more were turned. -/
def goes (mask : List Bool) (ones : Nat) (on : Bool) : Bool := decide (0 < ones) || (mask.headD false != on)
def bends (mask : List Bool) (ones : Nat) (on : Bool) : Nat := (if mask.headD false then 1 else 0) + (if 0 < ones ∧ (mask.headD false != on) = false then 1 else 0)
def comes (l : List Bool) (i : Nat) (mask : List Bool) (ones : Nat) (on : Bool) : Bool := if l.length = 0 then goes mask ones on else l.getD i false
def onto (l : List Bool) (i : Nat) : Nat := if l.length = 0 then i else (i + 1) % l.length
theorem mask_tail {w w' : World} {g gl : Nat} {A : Option Addr} {c : Nat} {b : Bool} {t : List Bool} (hc : (b :: t).length ≤ c) (hr : ReadsOf Value.bool false w A (b :: t).length (b :: t)) (hd : ∀ ad, A = some ad → 0 < (b :: t).length → ad.block ≠ g ∧ ad.block ≠ gl)
    (ho : Only (fun k => k = g ∨ k = gl) w w') : Mask w' g gl (.slice (if c = 1 then A else A.map (·.add 1)) ((b :: t).length - 1) (c - 1)) t := by
  have h1 := hr.drop_ (c := c) 1 (by simp) hc
  have h2 : ∀ ad, (if c = 1 then A else A.map (·.add 1)) = some ad → ad.block ≠ g ∧ ad.block ≠ gl := by
    intro ad e
    obtain ⟨a0, e0, _⟩ := hr.2.2 (by simp)
    have := hd a0 e0 (by simp)
    subst e0
    split at e
    · obtain rfl := Option.some.inj e
      exact this
    · obtain rfl := Option.some.inj e
      simpa [Addr.add] using this
  refine ⟨_, c - 1, rfl, by simp at hc ⊢; omega, ?_, fun ad e _ => h2 ad e⟩
  have h3 := reads_only h1 ho (fun ad e _ hp => hp.elim (h2 ad e).1 (h2 ad e).2)
  simpa using h3
theorem pass_calls {w : World} {g gl : Nat} {l : List Bool} {i : Nat} {mask : List Bool} {ones bent : Nat} (h : Is w g gl l i mask ones bent) (hb : bent < 4611686018427387904) (ho : ones < 4611686018427387904) (hl : l.length < 4611686018427387904) (on : Bool) :
    Calls Try.prog 11 #[.pointer (some ⟨g, 0, none⟩), .bool on] w fun e w' => e = .returned (.bool (comes l i mask ones on)) ∧ Is w' g gl (l.set i (goes mask ones on)) (onto l i) (mask.drop 1) (ones - 1) (bent + bends mask ones on) ∧ Only (fun k => k = g ∨ k = gl) w w' := by
  obtain ⟨hne, ⟨vm, hA, A, c, rfl, hc, hr, hd⟩, hrow, hidx⟩ := h
  have fin : ∀ {e : Ending} {w' : World} {vm' : Value} {out b : Bool} {i' o' b' : Nat} {mask' : List Bool}, e = .returned (.bool out) → At w' g (.slice (some ⟨gl, 0, none⟩) l.length l.length) vm' i' o' b' → Mask w' g gl vm' mask' → Row w' gl (l.set i b) → Only (fun k => k = g ∨ k = gl) w w' →
      comes l i mask ones on = out → l.set i (goes mask ones on) = l.set i b → onto l i = i' → mask.drop 1 = mask' → ones - 1 = o' → bent + bends mask ones on = b' →
      e = .returned (.bool (comes l i mask ones on)) ∧ Is w' g gl (l.set i (goes mask ones on)) (onto l i) (mask.drop 1) (ones - 1) (bent + bends mask ones on) ∧ Only (fun k => k = g ∨ k = gl) w w' := by
    intro e w' vm' out b i' o' b' mask' h1 h2 h3 h4 h5 e1 e2 e3 e4 e5 e6
    subst e1; subst e3; subst e4; subst e5; subst e6
    rw [← e2] at h4
    refine ⟨h1, ⟨hne, ⟨_, by rw [List.length_set]; exact h2, h3⟩, h4, ?_⟩, h5⟩
    rw [List.length_set]
    rcases Nat.eq_zero_or_pos l.length with h0 | h0
    · exact Or.inl h0
    · refine Or.inr ?_
      unfold onto
      rw [if_neg (by omega)]
      exact Nat.mod_lt _ h0
  by_cases h0 : l.length = 0
  · have hn : l = [] := List.eq_nil_of_length_eq_zero h0
    subst hn
    cases mask with
    | nil =>
      rcases Nat.eq_zero_or_pos ones with hz | hp
      · subst hz
        have hcl := Nat.lt_irrefl 0
        refine (pass_ez_n g gl i bent hb A c on w hA).mono ?_
        rintro e w' ⟨h1, h2, h5⟩
        have h4 := hrow.only h5 hne
        replace h5 := h5.mono (Q := fun k => k = g ∨ k = gl) (fun _ h => Or.inl h)
        exact fin (b := on) h1 h2 (Mask.nil _ _ _ _ _) h4 h5 (by simp [comes, goes, hcl]) (by simp [goes, hcl]) (by simp [onto, hcl]) rfl (by simp [hcl]) (by simp [bends, hcl]; try omega)
      · have hcl := hp
        cases on with
        | true =>
          refine (pass_est_n g gl i bent hb A c ones hp ho w hA).mono ?_
          rintro e w' ⟨h1, h2, h5⟩
          have h4 := hrow.only h5 hne
          replace h5 := h5.mono (Q := fun k => k = g ∨ k = gl) (fun _ h => Or.inl h)
          exact fin (b := true) h1 h2 (Mask.nil _ _ _ _ _) h4 h5 (by simp [comes, goes, hcl]) (by simp [goes, hcl]) (by simp [onto, hcl]) rfl (by simp [hcl]) (by simp [bends, hcl]; try omega)
        | false =>
          refine (pass_esf_n g gl i bent hb A c ones hp ho w hA).mono ?_
          rintro e w' ⟨h1, h2, h5⟩
          have h4 := hrow.only h5 hne
          replace h5 := h5.mono (Q := fun k => k = g ∨ k = gl) (fun _ h => Or.inl h)
          exact fin (b := true) h1 h2 (Mask.nil _ _ _ _ _) h4 h5 (by simp [comes, goes, hcl]) (by simp [goes, hcl]) (by simp [onto, hcl]) rfl (by simp [hcl]) (by simp [bends, hcl]; try omega)
    | cons b t =>
      obtain ⟨a0, e0, hcell⟩ := hr.2.2 (by simp)
      subst e0
      have cm := hcell 0 (by simp)
      rw [Addr.add_zero'] at cm
      cases b with
      | true =>
        rcases Nat.eq_zero_or_pos ones with hz | hp
        · subst hz
          have hcl := Nat.lt_irrefl 0
          refine (pass_tz_n g gl i bent hb a0 (t.length + 1) c (by omega) _ (cut_mask (some a0) (t.length + 1) c (by omega)) on w hA cm).mono ?_
          rintro e w' ⟨h1, h2, h5⟩
          have h4 := hrow.only h5 hne
          replace h5 := h5.mono (Q := fun k => k = g ∨ k = gl) (fun _ h => Or.inl h)
          exact fin (b := (!on)) h1 h2 (mask_tail hc hr hd h5) h4 h5 (by simp [comes, goes, hcl]) (by simp [goes, hcl]) (by simp [onto, hcl]) rfl (by simp [hcl]) (by simp [bends, hcl]; try omega)
        · have hcl := hp
          cases on with
          | true =>
            refine (pass_tst_n g gl i bent hb a0 (t.length + 1) c (by omega) _ (cut_mask (some a0) (t.length + 1) c (by omega)) ones hp ho w hA cm).mono ?_
            rintro e w' ⟨h1, h2, h5⟩
            have h4 := hrow.only h5 hne
            replace h5 := h5.mono (Q := fun k => k = g ∨ k = gl) (fun _ h => Or.inl h)
            exact fin (b := true) h1 h2 (mask_tail hc hr hd h5) h4 h5 (by simp [comes, goes, hcl]) (by simp [goes, hcl]) (by simp [onto, hcl]) rfl (by simp [hcl]) (by simp [bends, hcl]; try omega)
          | false =>
            refine (pass_tsf_n g gl i bent hb a0 (t.length + 1) c (by omega) _ (cut_mask (some a0) (t.length + 1) c (by omega)) ones hp ho w hA cm).mono ?_
            rintro e w' ⟨h1, h2, h5⟩
            have h4 := hrow.only h5 hne
            replace h5 := h5.mono (Q := fun k => k = g ∨ k = gl) (fun _ h => Or.inl h)
            exact fin (b := true) h1 h2 (mask_tail hc hr hd h5) h4 h5 (by simp [comes, goes, hcl]) (by simp [goes, hcl]) (by simp [onto, hcl]) rfl (by simp [hcl]) (by simp [bends, hcl]; try omega)
      | false =>
        rcases Nat.eq_zero_or_pos ones with hz | hp
        · subst hz
          have hcl := Nat.lt_irrefl 0
          refine (pass_fz_n g gl i bent hb a0 (t.length + 1) c (by omega) _ (cut_mask (some a0) (t.length + 1) c (by omega)) on w hA cm).mono ?_
          rintro e w' ⟨h1, h2, h5⟩
          have h4 := hrow.only h5 hne
          replace h5 := h5.mono (Q := fun k => k = g ∨ k = gl) (fun _ h => Or.inl h)
          exact fin (b := on) h1 h2 (mask_tail hc hr hd h5) h4 h5 (by simp [comes, goes, hcl]) (by simp [goes, hcl]) (by simp [onto, hcl]) rfl (by simp [hcl]) (by simp [bends, hcl]; try omega)
        · have hcl := hp
          cases on with
          | true =>
            refine (pass_fst_n g gl i bent hb a0 (t.length + 1) c (by omega) _ (cut_mask (some a0) (t.length + 1) c (by omega)) ones hp ho w hA cm).mono ?_
            rintro e w' ⟨h1, h2, h5⟩
            have h4 := hrow.only h5 hne
            replace h5 := h5.mono (Q := fun k => k = g ∨ k = gl) (fun _ h => Or.inl h)
            exact fin (b := true) h1 h2 (mask_tail hc hr hd h5) h4 h5 (by simp [comes, goes, hcl]) (by simp [goes, hcl]) (by simp [onto, hcl]) rfl (by simp [hcl]) (by simp [bends, hcl]; try omega)
          | false =>
            refine (pass_fsf_n g gl i bent hb a0 (t.length + 1) c (by omega) _ (cut_mask (some a0) (t.length + 1) c (by omega)) ones hp ho w hA cm).mono ?_
            rintro e w' ⟨h1, h2, h5⟩
            have h4 := hrow.only h5 hne
            replace h5 := h5.mono (Q := fun k => k = g ∨ k = gl) (fun _ h => Or.inl h)
            exact fin (b := true) h1 h2 (mask_tail hc hr hd h5) h4 h5 (by simp [comes, goes, hcl]) (by simp [goes, hcl]) (by simp [onto, hcl]) rfl (by simp [hcl]) (by simp [bends, hcl]; try omega)
  · have hi : i < l.length := by omega
    cases mask with
    | nil =>
      rcases Nat.eq_zero_or_pos ones with hz | hp
      · subst hz
        have hcl := Nat.lt_irrefl 0
        refine (pass_ez_l g gl l i bent hb A c on w hA hne hrow hi hl).mono ?_
        rintro e w' ⟨h1, h2, h4, h5⟩
        exact fin (b := on) h1 h2 (Mask.nil _ _ _ _ _) h4 h5 (by simp [comes, goes, hcl, h0, List.getD_eq_getElem?_getD, List.getElem?_eq_getElem hi]) (by simp [goes, hcl, h0, List.getD_eq_getElem?_getD, List.getElem?_eq_getElem hi]) (by simp [onto, hcl, h0, List.getD_eq_getElem?_getD, List.getElem?_eq_getElem hi]) rfl (by simp [hcl]) (by simp [bends, hcl, h0, List.getD_eq_getElem?_getD, List.getElem?_eq_getElem hi]; try omega)
      · have hcl := hp
        cases on with
        | true =>
          refine (pass_est_l g gl l i bent hb A c ones hp ho w hA hne hrow hi hl).mono ?_
          rintro e w' ⟨h1, h2, h4, h5⟩
          exact fin (b := true) h1 h2 (Mask.nil _ _ _ _ _) h4 h5 (by simp [comes, goes, hcl, h0, List.getD_eq_getElem?_getD, List.getElem?_eq_getElem hi]) (by simp [goes, hcl, h0, List.getD_eq_getElem?_getD, List.getElem?_eq_getElem hi]) (by simp [onto, hcl, h0, List.getD_eq_getElem?_getD, List.getElem?_eq_getElem hi]) rfl (by simp [hcl]) (by simp [bends, hcl, h0, List.getD_eq_getElem?_getD, List.getElem?_eq_getElem hi]; try omega)
        | false =>
          refine (pass_esf_l g gl l i bent hb A c ones hp ho w hA hne hrow hi hl).mono ?_
          rintro e w' ⟨h1, h2, h4, h5⟩
          exact fin (b := true) h1 h2 (Mask.nil _ _ _ _ _) h4 h5 (by simp [comes, goes, hcl, h0, List.getD_eq_getElem?_getD, List.getElem?_eq_getElem hi]) (by simp [goes, hcl, h0, List.getD_eq_getElem?_getD, List.getElem?_eq_getElem hi]) (by simp [onto, hcl, h0, List.getD_eq_getElem?_getD, List.getElem?_eq_getElem hi]) rfl (by simp [hcl]) (by simp [bends, hcl, h0, List.getD_eq_getElem?_getD, List.getElem?_eq_getElem hi]; try omega)
    | cons b t =>
      obtain ⟨a0, e0, hcell⟩ := hr.2.2 (by simp)
      subst e0
      have cm := hcell 0 (by simp)
      rw [Addr.add_zero'] at cm
      cases b with
      | true =>
        rcases Nat.eq_zero_or_pos ones with hz | hp
        · subst hz
          have hcl := Nat.lt_irrefl 0
          refine (pass_tz_l g gl l i bent hb a0 (t.length + 1) c (by omega) _ (cut_mask (some a0) (t.length + 1) c (by omega)) on w hA cm hne hrow hi hl).mono ?_
          rintro e w' ⟨h1, h2, h4, h5⟩
          exact fin (b := (!on)) h1 h2 (mask_tail hc hr hd h5) h4 h5 (by simp [comes, goes, hcl, h0, List.getD_eq_getElem?_getD, List.getElem?_eq_getElem hi]) (by simp [goes, hcl, h0, List.getD_eq_getElem?_getD, List.getElem?_eq_getElem hi]) (by simp [onto, hcl, h0, List.getD_eq_getElem?_getD, List.getElem?_eq_getElem hi]) rfl (by simp [hcl]) (by simp [bends, hcl, h0, List.getD_eq_getElem?_getD, List.getElem?_eq_getElem hi]; try omega)
        · have hcl := hp
          cases on with
          | true =>
            refine (pass_tst_l g gl l i bent hb a0 (t.length + 1) c (by omega) _ (cut_mask (some a0) (t.length + 1) c (by omega)) ones hp ho w hA cm hne hrow hi hl).mono ?_
            rintro e w' ⟨h1, h2, h4, h5⟩
            exact fin (b := true) h1 h2 (mask_tail hc hr hd h5) h4 h5 (by simp [comes, goes, hcl, h0, List.getD_eq_getElem?_getD, List.getElem?_eq_getElem hi]) (by simp [goes, hcl, h0, List.getD_eq_getElem?_getD, List.getElem?_eq_getElem hi]) (by simp [onto, hcl, h0, List.getD_eq_getElem?_getD, List.getElem?_eq_getElem hi]) rfl (by simp [hcl]) (by simp [bends, hcl, h0, List.getD_eq_getElem?_getD, List.getElem?_eq_getElem hi]; try omega)
          | false =>
            refine (pass_tsf_l g gl l i bent hb a0 (t.length + 1) c (by omega) _ (cut_mask (some a0) (t.length + 1) c (by omega)) ones hp ho w hA cm hne hrow hi hl).mono ?_
            rintro e w' ⟨h1, h2, h4, h5⟩
            exact fin (b := true) h1 h2 (mask_tail hc hr hd h5) h4 h5 (by simp [comes, goes, hcl, h0, List.getD_eq_getElem?_getD, List.getElem?_eq_getElem hi]) (by simp [goes, hcl, h0, List.getD_eq_getElem?_getD, List.getElem?_eq_getElem hi]) (by simp [onto, hcl, h0, List.getD_eq_getElem?_getD, List.getElem?_eq_getElem hi]) rfl (by simp [hcl]) (by simp [bends, hcl, h0, List.getD_eq_getElem?_getD, List.getElem?_eq_getElem hi]; try omega)
      | false =>
        rcases Nat.eq_zero_or_pos ones with hz | hp
        · subst hz
          have hcl := Nat.lt_irrefl 0
          refine (pass_fz_l g gl l i bent hb a0 (t.length + 1) c (by omega) _ (cut_mask (some a0) (t.length + 1) c (by omega)) on w hA cm hne hrow hi hl).mono ?_
          rintro e w' ⟨h1, h2, h4, h5⟩
          exact fin (b := on) h1 h2 (mask_tail hc hr hd h5) h4 h5 (by simp [comes, goes, hcl, h0, List.getD_eq_getElem?_getD, List.getElem?_eq_getElem hi]) (by simp [goes, hcl, h0, List.getD_eq_getElem?_getD, List.getElem?_eq_getElem hi]) (by simp [onto, hcl, h0, List.getD_eq_getElem?_getD, List.getElem?_eq_getElem hi]) rfl (by simp [hcl]) (by simp [bends, hcl, h0, List.getD_eq_getElem?_getD, List.getElem?_eq_getElem hi]; try omega)
        · have hcl := hp
          cases on with
          | true =>
            refine (pass_fst_l g gl l i bent hb a0 (t.length + 1) c (by omega) _ (cut_mask (some a0) (t.length + 1) c (by omega)) ones hp ho w hA cm hne hrow hi hl).mono ?_
            rintro e w' ⟨h1, h2, h4, h5⟩
            exact fin (b := true) h1 h2 (mask_tail hc hr hd h5) h4 h5 (by simp [comes, goes, hcl, h0, List.getD_eq_getElem?_getD, List.getElem?_eq_getElem hi]) (by simp [goes, hcl, h0, List.getD_eq_getElem?_getD, List.getElem?_eq_getElem hi]) (by simp [onto, hcl, h0, List.getD_eq_getElem?_getD, List.getElem?_eq_getElem hi]) rfl (by simp [hcl]) (by simp [bends, hcl, h0, List.getD_eq_getElem?_getD, List.getElem?_eq_getElem hi]; try omega)
          | false =>
            refine (pass_fsf_l g gl l i bent hb a0 (t.length + 1) c (by omega) _ (cut_mask (some a0) (t.length + 1) c (by omega)) ones hp ho w hA cm hne hrow hi hl).mono ?_
            rintro e w' ⟨h1, h2, h4, h5⟩
            exact fin (b := true) h1 h2 (mask_tail hc hr hd h5) h4 h5 (by simp [comes, goes, hcl, h0, List.getD_eq_getElem?_getD, List.getElem?_eq_getElem hi]) (by simp [goes, hcl, h0, List.getD_eq_getElem?_getD, List.getElem?_eq_getElem hi]) (by simp [onto, hcl, h0, List.getD_eq_getElem?_getD, List.getElem?_eq_getElem hi]) rfl (by simp [hcl]) (by simp [bends, hcl, h0, List.getD_eq_getElem?_getD, List.getElem?_eq_getElem hi]; try omega)
end Go.Proofs.Ytaiallgcobpkaaa.Wire
