/- The contract of (*wire.Wire).Pass where the room behind the masks is kept. No condition. Written for this claim. -/
import Derived.Test.YtaiallgcobpkaaaWireBend
namespace Go.Proofs.Ytaiallgcobpkaaa.Wire
open Go Go.RowKit Go.Proofs.Ytaiallgcobpkaaa Go.Proofs.YtaiallgcobpkaaaW.PrintWords Go.Proofs.YtaiallgcobpkaaaW.PrintLast Go.Proofs.YtaiallgcobpkaaaW.PrintMore Go.Proofs.Ytaiallgcobpkaaa.Base
set_option linter.unusedVariables false
set_option linter.unusedSimpArgs false
theorem passq {P : Nat → Prop} {w : World} {g gl : Nat} {l : List Bool} {i : Nat} {mask : List Bool} {ones bent : Nat} (h : Isq P w g gl l i mask ones bent) (hb : bent < 4611686018427387904) (ho : ones < 4611686018427387904) (hl : l.length < 4611686018427387904) (on : Bool) :
    Calls Try.prog 11 #[.pointer (some ⟨g, 0, none⟩), .bool on] w fun e w' => e = .returned (.bool (comes l i mask ones on)) ∧ Isq P w' g gl (l.set i (goes mask ones on)) (onto l i) (mask.drop 1) (ones - 1) (bent + bends mask ones on) ∧ Only (fun k => k = g ∨ k = gl) w w' := by
  obtain ⟨hne, hap, ⟨vm, hA, hS⟩, hrow, hidx⟩ := h
  obtain ⟨A, c, rfl, hc, hr, hd⟩ := hS.reads
  have fin : ∀ {e : Ending} {w' : World} {vm' : Value} {out b : Bool} {i' o' b' : Nat} {mask' : List Bool}, e = .returned (.bool out) → At w' g (.slice (some ⟨gl, 0, none⟩) l.length l.length) vm' i' o' b' → Spare w' P vm' mask' → Row w' gl (l.set i b) → Only (fun k => k = g ∨ k = gl) w w' →
      comes l i mask ones on = out → l.set i (goes mask ones on) = l.set i b → onto l i = i' → mask.drop 1 = mask' → ones - 1 = o' → bent + bends mask ones on = b' →
      e = .returned (.bool (comes l i mask ones on)) ∧ Isq P w' g gl (l.set i (goes mask ones on)) (onto l i) (mask.drop 1) (ones - 1) (bent + bends mask ones on) ∧ Only (fun k => k = g ∨ k = gl) w w' := by
    intro e w' vm' out b i' o' b' mask' h1 h2 h3 h4 h5 e1 e2 e3 e4 e5 e6
    subst e1; subst e3; subst e4; subst e5; subst e6
    rw [← e2] at h4
    refine ⟨h1, ⟨hne, hap, ⟨_, by rw [List.length_set]; exact h2, h3⟩, h4, ?_⟩, h5⟩
    rw [List.length_set]
    rcases Nat.eq_zero_or_pos l.length with h0 | h0
    · exact Or.inl h0
    · refine Or.inr ?_
      unfold onto
      rw [if_neg (by omega)]
      exact Nat.mod_lt _ h0
  by_cases h0 : l.length = 0
  · have hn : l = [] := List.eq_nil_of_length_eq_zero h0
    subst hn
    cases mask with
    | nil =>
      rcases Nat.eq_zero_or_pos ones with hz | hp
      · subst hz
        have hcl := Nat.lt_irrefl 0
        refine (pass_ez_n g gl i bent hb A c on w hA).mono ?_
        rintro e w' ⟨h1, h2, h5⟩
        have h4 := hrow.only h5 hne
        replace h5 := h5.mono (Q := fun k => k = g ∨ k = gl) (fun _ h => Or.inl h)
        exact fin (b := on) h1 h2 (hS.only h5 (fun k hk _ hp => hp.elim (hap k hk).1 (hap k hk).2)) h4 h5 (by simp [comes, goes, hcl]) (by simp [goes, hcl]) (by simp [onto, hcl]) rfl (by simp [hcl]) (by simp [bends, hcl]; try omega)
      · have hcl := hp
        cases on with
        | true =>
          refine (pass_est_n g gl i bent hb A c ones hp ho w hA).mono ?_
          rintro e w' ⟨h1, h2, h5⟩
          have h4 := hrow.only h5 hne
          replace h5 := h5.mono (Q := fun k => k = g ∨ k = gl) (fun _ h => Or.inl h)
          exact fin (b := true) h1 h2 (hS.only h5 (fun k hk _ hp => hp.elim (hap k hk).1 (hap k hk).2)) h4 h5 (by simp [comes, goes, hcl]) (by simp [goes, hcl]) (by simp [onto, hcl]) rfl (by simp [hcl]) (by simp [bends, hcl]; try omega)
        | false =>
          refine (pass_esf_n g gl i bent hb A c ones hp ho w hA).mono ?_
          rintro e w' ⟨h1, h2, h5⟩
          have h4 := hrow.only h5 hne
          replace h5 := h5.mono (Q := fun k => k = g ∨ k = gl) (fun _ h => Or.inl h)
          exact fin (b := true) h1 h2 (hS.only h5 (fun k hk _ hp => hp.elim (hap k hk).1 (hap k hk).2)) h4 h5 (by simp [comes, goes, hcl]) (by simp [goes, hcl]) (by simp [onto, hcl]) rfl (by simp [hcl]) (by simp [bends, hcl]; try omega)
    | cons b t =>
      obtain ⟨a0, e0, hcell⟩ := hr.2.2 (by simp)
      subst e0
      have cm := hcell 0 (by simp)
      rw [Addr.add_zero'] at cm
      cases b with
      | true =>
        rcases Nat.eq_zero_or_pos ones with hz | hp
        · subst hz
          have hcl := Nat.lt_irrefl 0
          refine (pass_tz_n g gl i bent hb a0 (t.length + 1) c (by omega) _ (cut_mask (some a0) (t.length + 1) c (by omega)) on w hA cm).mono ?_
          rintro e w' ⟨h1, h2, h5⟩
          have h4 := hrow.only h5 hne
          replace h5 := h5.mono (Q := fun k => k = g ∨ k = gl) (fun _ h => Or.inl h)
          exact fin (b := (!on)) h1 h2 (hS.tail.only h5 (fun k hk _ hp => hp.elim (hap k hk).1 (hap k hk).2)) h4 h5 (by simp [comes, goes, hcl]) (by simp [goes, hcl]) (by simp [onto, hcl]) rfl (by simp [hcl]) (by simp [bends, hcl]; try omega)
        · have hcl := hp
          cases on with
          | true =>
            refine (pass_tst_n g gl i bent hb a0 (t.length + 1) c (by omega) _ (cut_mask (some a0) (t.length + 1) c (by omega)) ones hp ho w hA cm).mono ?_
            rintro e w' ⟨h1, h2, h5⟩
            have h4 := hrow.only h5 hne
            replace h5 := h5.mono (Q := fun k => k = g ∨ k = gl) (fun _ h => Or.inl h)
            exact fin (b := true) h1 h2 (hS.tail.only h5 (fun k hk _ hp => hp.elim (hap k hk).1 (hap k hk).2)) h4 h5 (by simp [comes, goes, hcl]) (by simp [goes, hcl]) (by simp [onto, hcl]) rfl (by simp [hcl]) (by simp [bends, hcl]; try omega)
          | false =>
            refine (pass_tsf_n g gl i bent hb a0 (t.length + 1) c (by omega) _ (cut_mask (some a0) (t.length + 1) c (by omega)) ones hp ho w hA cm).mono ?_
            rintro e w' ⟨h1, h2, h5⟩
            have h4 := hrow.only h5 hne
            replace h5 := h5.mono (Q := fun k => k = g ∨ k = gl) (fun _ h => Or.inl h)
            exact fin (b := true) h1 h2 (hS.tail.only h5 (fun k hk _ hp => hp.elim (hap k hk).1 (hap k hk).2)) h4 h5 (by simp [comes, goes, hcl]) (by simp [goes, hcl]) (by simp [onto, hcl]) rfl (by simp [hcl]) (by simp [bends, hcl]; try omega)
      | false =>
        rcases Nat.eq_zero_or_pos ones with hz | hp
        · subst hz
          have hcl := Nat.lt_irrefl 0
          refine (pass_fz_n g gl i bent hb a0 (t.length + 1) c (by omega) _ (cut_mask (some a0) (t.length + 1) c (by omega)) on w hA cm).mono ?_
          rintro e w' ⟨h1, h2, h5⟩
          have h4 := hrow.only h5 hne
          replace h5 := h5.mono (Q := fun k => k = g ∨ k = gl) (fun _ h => Or.inl h)
          exact fin (b := on) h1 h2 (hS.tail.only h5 (fun k hk _ hp => hp.elim (hap k hk).1 (hap k hk).2)) h4 h5 (by simp [comes, goes, hcl]) (by simp [goes, hcl]) (by simp [onto, hcl]) rfl (by simp [hcl]) (by simp [bends, hcl]; try omega)
        · have hcl := hp
          cases on with
          | true =>
            refine (pass_fst_n g gl i bent hb a0 (t.length + 1) c (by omega) _ (cut_mask (some a0) (t.length + 1) c (by omega)) ones hp ho w hA cm).mono ?_
            rintro e w' ⟨h1, h2, h5⟩
            have h4 := hrow.only h5 hne
            replace h5 := h5.mono (Q := fun k => k = g ∨ k = gl) (fun _ h => Or.inl h)
            exact fin (b := true) h1 h2 (hS.tail.only h5 (fun k hk _ hp => hp.elim (hap k hk).1 (hap k hk).2)) h4 h5 (by simp [comes, goes, hcl]) (by simp [goes, hcl]) (by simp [onto, hcl]) rfl (by simp [hcl]) (by simp [bends, hcl]; try omega)
          | false =>
            refine (pass_fsf_n g gl i bent hb a0 (t.length + 1) c (by omega) _ (cut_mask (some a0) (t.length + 1) c (by omega)) ones hp ho w hA cm).mono ?_
            rintro e w' ⟨h1, h2, h5⟩
            have h4 := hrow.only h5 hne
            replace h5 := h5.mono (Q := fun k => k = g ∨ k = gl) (fun _ h => Or.inl h)
            exact fin (b := true) h1 h2 (hS.tail.only h5 (fun k hk _ hp => hp.elim (hap k hk).1 (hap k hk).2)) h4 h5 (by simp [comes, goes, hcl]) (by simp [goes, hcl]) (by simp [onto, hcl]) rfl (by simp [hcl]) (by simp [bends, hcl]; try omega)
  · have hi : i < l.length := by omega
    cases mask with
    | nil =>
      rcases Nat.eq_zero_or_pos ones with hz | hp
      · subst hz
        have hcl := Nat.lt_irrefl 0
        refine (pass_ez_l g gl l i bent hb A c on w hA hne hrow hi hl).mono ?_
        rintro e w' ⟨h1, h2, h4, h5⟩
        exact fin (b := on) h1 h2 (hS.only h5 (fun k hk _ hp => hp.elim (hap k hk).1 (hap k hk).2)) h4 h5 (by simp [comes, goes, hcl, h0, List.getD_eq_getElem?_getD, List.getElem?_eq_getElem hi]) (by simp [goes, hcl, h0, List.getD_eq_getElem?_getD, List.getElem?_eq_getElem hi]) (by simp [onto, hcl, h0, List.getD_eq_getElem?_getD, List.getElem?_eq_getElem hi]) rfl (by simp [hcl]) (by simp [bends, hcl, h0, List.getD_eq_getElem?_getD, List.getElem?_eq_getElem hi]; try omega)
      · have hcl := hp
        cases on with
        | true =>
          refine (pass_est_l g gl l i bent hb A c ones hp ho w hA hne hrow hi hl).mono ?_
          rintro e w' ⟨h1, h2, h4, h5⟩
          exact fin (b := true) h1 h2 (hS.only h5 (fun k hk _ hp => hp.elim (hap k hk).1 (hap k hk).2)) h4 h5 (by simp [comes, goes, hcl, h0, List.getD_eq_getElem?_getD, List.getElem?_eq_getElem hi]) (by simp [goes, hcl, h0, List.getD_eq_getElem?_getD, List.getElem?_eq_getElem hi]) (by simp [onto, hcl, h0, List.getD_eq_getElem?_getD, List.getElem?_eq_getElem hi]) rfl (by simp [hcl]) (by simp [bends, hcl, h0, List.getD_eq_getElem?_getD, List.getElem?_eq_getElem hi]; try omega)
        | false =>
          refine (pass_esf_l g gl l i bent hb A c ones hp ho w hA hne hrow hi hl).mono ?_
          rintro e w' ⟨h1, h2, h4, h5⟩
          exact fin (b := true) h1 h2 (hS.only h5 (fun k hk _ hp => hp.elim (hap k hk).1 (hap k hk).2)) h4 h5 (by simp [comes, goes, hcl, h0, List.getD_eq_getElem?_getD, List.getElem?_eq_getElem hi]) (by simp [goes, hcl, h0, List.getD_eq_getElem?_getD, List.getElem?_eq_getElem hi]) (by simp [onto, hcl, h0, List.getD_eq_getElem?_getD, List.getElem?_eq_getElem hi]) rfl (by simp [hcl]) (by simp [bends, hcl, h0, List.getD_eq_getElem?_getD, List.getElem?_eq_getElem hi]; try omega)
    | cons b t =>
      obtain ⟨a0, e0, hcell⟩ := hr.2.2 (by simp)
      subst e0
      have cm := hcell 0 (by simp)
      rw [Addr.add_zero'] at cm
      cases b with
      | true =>
        rcases Nat.eq_zero_or_pos ones with hz | hp
        · subst hz
          have hcl := Nat.lt_irrefl 0
          refine (pass_tz_l g gl l i bent hb a0 (t.length + 1) c (by omega) _ (cut_mask (some a0) (t.length + 1) c (by omega)) on w hA cm hne hrow hi hl).mono ?_
          rintro e w' ⟨h1, h2, h4, h5⟩
          exact fin (b := (!on)) h1 h2 (hS.tail.only h5 (fun k hk _ hp => hp.elim (hap k hk).1 (hap k hk).2)) h4 h5 (by simp [comes, goes, hcl, h0, List.getD_eq_getElem?_getD, List.getElem?_eq_getElem hi]) (by simp [goes, hcl, h0, List.getD_eq_getElem?_getD, List.getElem?_eq_getElem hi]) (by simp [onto, hcl, h0, List.getD_eq_getElem?_getD, List.getElem?_eq_getElem hi]) rfl (by simp [hcl]) (by simp [bends, hcl, h0, List.getD_eq_getElem?_getD, List.getElem?_eq_getElem hi]; try omega)
        · have hcl := hp
          cases on with
          | true =>
            refine (pass_tst_l g gl l i bent hb a0 (t.length + 1) c (by omega) _ (cut_mask (some a0) (t.length + 1) c (by omega)) ones hp ho w hA cm hne hrow hi hl).mono ?_
            rintro e w' ⟨h1, h2, h4, h5⟩
            exact fin (b := true) h1 h2 (hS.tail.only h5 (fun k hk _ hp => hp.elim (hap k hk).1 (hap k hk).2)) h4 h5 (by simp [comes, goes, hcl, h0, List.getD_eq_getElem?_getD, List.getElem?_eq_getElem hi]) (by simp [goes, hcl, h0, List.getD_eq_getElem?_getD, List.getElem?_eq_getElem hi]) (by simp [onto, hcl, h0, List.getD_eq_getElem?_getD, List.getElem?_eq_getElem hi]) rfl (by simp [hcl]) (by simp [bends, hcl, h0, List.getD_eq_getElem?_getD, List.getElem?_eq_getElem hi]; try omega)
          | false =>
            refine (pass_tsf_l g gl l i bent hb a0 (t.length + 1) c (by omega) _ (cut_mask (some a0) (t.length + 1) c (by omega)) ones hp ho w hA cm hne hrow hi hl).mono ?_
            rintro e w' ⟨h1, h2, h4, h5⟩
            exact fin (b := true) h1 h2 (hS.tail.only h5 (fun k hk _ hp => hp.elim (hap k hk).1 (hap k hk).2)) h4 h5 (by simp [comes, goes, hcl, h0, List.getD_eq_getElem?_getD, List.getElem?_eq_getElem hi]) (by simp [goes, hcl, h0, List.getD_eq_getElem?_getD, List.getElem?_eq_getElem hi]) (by simp [onto, hcl, h0, List.getD_eq_getElem?_getD, List.getElem?_eq_getElem hi]) rfl (by simp [hcl]) (by simp [bends, hcl, h0, List.getD_eq_getElem?_getD, List.getElem?_eq_getElem hi]; try omega)
      | false =>
        rcases Nat.eq_zero_or_pos ones with hz | hp
        · subst hz
          have hcl := Nat.lt_irrefl 0
          refine (pass_fz_l g gl l i bent hb a0 (t.length + 1) c (by omega) _ (cut_mask (some a0) (t.length + 1) c (by omega)) on w hA cm hne hrow hi hl).mono ?_
          rintro e w' ⟨h1, h2, h4, h5⟩
          exact fin (b := on) h1 h2 (hS.tail.only h5 (fun k hk _ hp => hp.elim (hap k hk).1 (hap k hk).2)) h4 h5 (by simp [comes, goes, hcl, h0, List.getD_eq_getElem?_getD, List.getElem?_eq_getElem hi]) (by simp [goes, hcl, h0, List.getD_eq_getElem?_getD, List.getElem?_eq_getElem hi]) (by simp [onto, hcl, h0, List.getD_eq_getElem?_getD, List.getElem?_eq_getElem hi]) rfl (by simp [hcl]) (by simp [bends, hcl, h0, List.getD_eq_getElem?_getD, List.getElem?_eq_getElem hi]; try omega)
        · have hcl := hp
          cases on with
          | true =>
            refine (pass_fst_l g gl l i bent hb a0 (t.length + 1) c (by omega) _ (cut_mask (some a0) (t.length + 1) c (by omega)) ones hp ho w hA cm hne hrow hi hl).mono ?_
            rintro e w' ⟨h1, h2, h4, h5⟩
            exact fin (b := true) h1 h2 (hS.tail.only h5 (fun k hk _ hp => hp.elim (hap k hk).1 (hap k hk).2)) h4 h5 (by simp [comes, goes, hcl, h0, List.getD_eq_getElem?_getD, List.getElem?_eq_getElem hi]) (by simp [goes, hcl, h0, List.getD_eq_getElem?_getD, List.getElem?_eq_getElem hi]) (by simp [onto, hcl, h0, List.getD_eq_getElem?_getD, List.getElem?_eq_getElem hi]) rfl (by simp [hcl]) (by simp [bends, hcl, h0, List.getD_eq_getElem?_getD, List.getElem?_eq_getElem hi]; try omega)
          | false =>
            refine (pass_fsf_l g gl l i bent hb a0 (t.length + 1) c (by omega) _ (cut_mask (some a0) (t.length + 1) c (by omega)) ones hp ho w hA cm hne hrow hi hl).mono ?_
            rintro e w' ⟨h1, h2, h4, h5⟩
            exact fin (b := true) h1 h2 (hS.tail.only h5 (fun k hk _ hp => hp.elim (hap k hk).1 (hap k hk).2)) h4 h5 (by simp [comes, goes, hcl, h0, List.getD_eq_getElem?_getD, List.getElem?_eq_getElem hi]) (by simp [goes, hcl, h0, List.getD_eq_getElem?_getD, List.getElem?_eq_getElem hi]) (by simp [onto, hcl, h0, List.getD_eq_getElem?_getD, List.getElem?_eq_getElem hi]) rfl (by simp [hcl]) (by simp [bends, hcl, h0, List.getD_eq_getElem?_getD, List.getElem?_eq_getElem hi]; try omega)
end Go.Proofs.Ytaiallgcobpkaaa.Wire
