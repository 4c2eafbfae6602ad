/- A part of the proof of the given statement that each law names; no condition. Written by a program of this session's own (wip/tools/myprint.py, over the kit's print); Lean checks it. -/
import Derived.Test.YtonhgiclaieamaaMFlagCutsx0
import Derived.Test.YtonhgiclaieamaaMFlagCutsx2
import Derived.Test.YtonhgiclaieamaaMFlagCutsx3
import Derived.Test.YtonhgiclaieamaaMFlagCutsx5
import Derived.Test.YtonhgiclaieamaaMFlagCutsx7
namespace Go.Proofs.Ytonhgiclaieamaa.MFlagCuts
open Go.RowKit Go.Proofs.Ytonhgiclaieamaa Go.Proofs.YtonhgiclaieamaaW.PrintWords Go.Proofs.YtonhgiclaieamaaW.PrintLast Go.Proofs.YtonhgiclaieamaaW.PrintMore
attribute [local go_sem] max2_int min2_int max_two min_two max_three min_three max_four min_four   -- for this text's walks alone
set_option linter.unusedVariables false
set_option linter.unusedSimpArgs false

/-! ### signalmanlaw05_heard: function 25 -/
/-- One thing heard, out of a list of them. -/
def signalmanlaw05_heard.rdH (xs : List (Int × List Int)) (i : Int) : Int × List Int := xs.getD i.toNat (0, [])
theorem signalmanlaw05_heard.atH {w : World} {A : Option Addr} {n : Nat} {xs : List (Int × List Int)} (h : Kd.C Ear.kH w A n xs) (i : Int) (h0 : 0 ≤ i) (h1 : i < n) : ∃ ad A1 c1, A = some ad ∧ w.cell? (ad.add (i.toNat * 2)) = some (.int .u8 (signalmanlaw05_heard.rdH xs i).1) ∧ w.cell? ⟨(ad.add (i.toNat * 2)).block, (ad.add (i.toNat * 2)).off + 1, none⟩ = some (.slice A1 (signalmanlaw05_heard.rdH xs i).2.length c1) ∧ (signalmanlaw05_heard.rdH xs i).2.length ≤ c1 ∧ (Kd.int .u8).C w A1 (signalmanlaw05_heard.rdH xs i).2.length (signalmanlaw05_heard.rdH xs i).2 := by
  obtain ⟨ad, c, e, _, hK, hc0⟩ := Kd.C_get h ((0 : Int), ([] : List Int)) i h0 h1
  have hc : ∀ j u, c[j]? = some u → w.cell? (ad.add (i.toNat * 2 + j)) = some u := hc0
  obtain ⟨_, _, rfl, rfl, ⟨A1, c1, rfl, l1, g1⟩⟩ := hK
  exact ⟨ad, A1, c1, e, hc 0 _ rfl, by rw [← add_field _ _ 1 (by omega)]; exact hc 1 _ rfl, l1, g1⟩
set_option maxHeartbeats 8000000 in
set_option maxRecDepth 100000 in
theorem signalmanlaw05_heard.yes0 (A0 A1 : Option Addr) (c0 c1 n : Nat) (l0 : List (Int × List Int)) (l1 : List S61) (w : World) (hr0 : Kd.C Ear.kH w A0 n l0) (hr1 : Kd.C k61 w A1 n l1) (hsm : n ≤ 1000000000) (he : ∀ i : Nat, i < n → (rd_T61 l1 (i : Int)).f0 = (signalmanlaw05_heard.rdH l0 (i : Int)).1 ∧ (rd_T61 l1 (i : Int)).f1 = (signalmanlaw05_heard.rdH l0 (i : Int)).2) :
    Calls Try.prog 25 #[.slice A0 n c0, .slice A1 n c1] w fun e w' => e = .returned (.bool true) ∧ Drawn0 w w' := by
  have HR0 := Aside0.mk hr0
  have HR1 := Aside0.mk hr1
  have HE := Aside0.mk he
  clear hr0 hr1 he
  go_enter Try.func25, Try.ntmps25
  go_wp2
  go_loopw [5] (fun v5 wr => ∃ i : Nat, i ≤ n ∧ v5 = .int .i64 i ∧ Aside0 (Drawn0 w wr)) (fun v5 _ => n - (intOf v5).toNat)
  case atStart => exact ⟨0, Nat.zero_le _, rfl, ⟨Drawn0.refl _⟩⟩
  case round =>
    obtain ⟨i, hi, rfl, HD⟩ := hrel
    by_cases hlt : i < n
    · have p1 : 0 ≤ (i : Int) := by omega
      have q1 : (i : Int) < (n : Int) := by omega
      have b1 : decide ((i : Int) < (n : Int)) = true := decide_eq_true q1
      obtain ⟨m1, hm1⟩ := HD.out.out
      have hrA := Kd.C_drewN HR0.out m1
      have hrB := Kd.C_drewN HR1.out m1
      rw [← hm1] at hrA hrB
      clear hm1
      obtain ⟨ad, Ax, cx, e, hx0, hx1, hlx, hCx⟩ := signalmanlaw05_heard.atH hrA (i : Int) p1 q1
      cases e
      obtain ⟨be, Ay, cy, e, hy0, hy1, hy2, hly, hCy⟩ := at_T61 hrB (i : Int) p1 q1
      cases e
      obtain ⟨e0, e1⟩ := HE.out i hlt
      rw [e0] at hy0
      rw [e1] at hy1 hly hCy
      clear e0 e1 hy2
      rw [Int.toNat_natCast] at hx0 hx1 hy0 hy1
      generalize signalmanlaw05_heard.rdH l0 (i : Int) = q at hx0 hx1 hlx hCx hy0 hy1 hly hCy
      obtain ⟨K, p⟩ := q
      replace p1 := eq_true p1
      replace q1 := eq_true q1
      have HCX := Aside0.mk hCx
      have HCY := Aside0.mk hCy
      clear hCx hCy hrA hrB
      go_wp2
      have hcv1 := Kd.C_string (c := cx) Try.underlying22 Try.underlying5 Try.underlying9 (Kd.C_drew HCX.out)
      have hcv2 := Kd.C_string (c := cy) Try.underlying22 Try.underlying5 Try.underlying9 (Kd.C_drew HCY.out)
      refine start_ (n := 26) (S := fun W => W.cell? (ad.add (i * 2)) = some (.int .u8 K) ∧ W.cell? ⟨(ad.add (i * 2)).block, (ad.add (i * 2)).off + 1, none⟩ = some (.slice Ax p.length cx) ∧ W.cell? (be.add (i * 3)) = some (.int .u8 K) ∧ W.cell? ⟨(be.add (i * 3)).block, (be.add (i * 3)).off + 1, none⟩ = some (.slice Ay p.length cy) ∧ (convert 22 9 (.slice Ax p.length cx)).run Try.prog W = .ok (.string (strOfNums p)) W ∧ (convert 22 9 (.slice Ay p.length cy)).run Try.prog W = .ok (.string (strOfNums p)) W) (ds := []) #[false, false, false, false, false, false, false, false, false, false, false, false, false, false, false, false, false, false, false, false, false, false, false, false, false, false] (by kernel_rfl) rfl rfl ⟨hx0, hx1, hy0, hy1, hcv1, hcv2⟩ (fun hHeld => ?_)
      have n0_ := Aside0.mk (show Drawn0 w wr.drew from HD.out.step 1)
      clear HD hcv1 hcv2 hx0 hx1 hy0 hy1 HCX HCY
      have HD := n0_
      clear n0_
      generalize wr.drew = W0 at HD hHeld ⊢
      refine pure_ (i := 0) (N := some 17) (v := ?_) (a' := ?_) #[true, false, false, false, false, false, false, false, false, false, false, false, false, false, false, false, false, false, false, false, false, false, false, false, false, false] rfl rfl (by kernel_rfl) (fun _ _ _ h => h) (Or.inl ⟨by rfl, ?_⟩) ?_ ?_
      rotate_left
      · intro w'
        go_simp
        with_reducible rfl
      rotate_left
      · simp only [Act.put, List.setIfInBounds_toArray, List.set_cons_zero, List.set_cons_succ, i64_w, i32_w]
        rfl
      refine pure_ (i := 1) (N := some 18) (v := ?_) (a' := ?_) #[true, true, false, false, false, false, false, false, false, false, false, false, false, false, false, false, false, false, false, false, false, false, false, false, false, false] rfl rfl (by kernel_rfl) (fun _ _ _ h => h) (Or.inl ⟨by rfl, ?_⟩) ?_ ?_
      rotate_left
      · intro w'
        go_simp
        with_reducible rfl
      rotate_left
      · simp only [Act.put, List.setIfInBounds_toArray, List.set_cons_zero, List.set_cons_succ, i64_w, i32_w]
        rfl
      refine pure_ (i := 2) (N := some 19) (v := ?_) (a' := ?_) #[true, true, true, false, false, false, false, false, false, false, false, false, false, false, false, false, false, false, false, false, false, false, false, false, false, false] rfl rfl (by kernel_rfl) (fun _ _ _ h => h) (Or.inl ⟨by rfl, ?_⟩) ?_ ?_
      rotate_left
      · intro w'
        go_simp
        with_reducible rfl
      rotate_left
      · simp only [Act.put, List.setIfInBounds_toArray, List.set_cons_zero, List.set_cons_succ, i64_w, i32_w]
        rfl
      refine pure_ (i := 3) (N := some 20) (v := ?_) (a' := ?_) #[true, true, true, true, false, false, false, false, false, false, false, false, false, false, false, false, false, false, false, false, false, false, false, false, false, false] rfl rfl (by kernel_rfl) (fun _ _ _ h => h) (Or.inl ⟨by rfl, ?_⟩) ?_ ?_
      rotate_left
      · intro w'
        go_simp
        with_reducible rfl
      rotate_left
      · simp only [Act.put, List.setIfInBounds_toArray, List.set_cons_zero, List.set_cons_succ, i64_w, i32_w]
        rfl
      refine take_ (i := 4) (N := some 21) (v := ?_) (a' := ?_) #[true, true, true, true, true, false, false, false, false, false, false, false, false, false, false, false, false, false, false, false, false, false, false, false, false, false] rfl rfl (by kernel_rfl) (fun _ _ _ h => h) (Or.inl ⟨by rfl, ?_⟩) hHeld ?_ ?_
      rotate_left
      · intro w' hS'
        obtain ⟨s1_, s2_, s3_, s4_, s5_, s6_⟩ := hS'
        go_simp
        with_reducible rfl
      rotate_left
      · simp only [Act.put, List.setIfInBounds_toArray, List.set_cons_zero, List.set_cons_succ, i64_w, i32_w]
        rfl
      refine pure_ (i := 5) (N := some 22) (v := ?_) (a' := ?_) #[true, true, true, true, true, true, false, false, false, false, false, false, false, false, false, false, false, false, false, false, false, false, false, false, false, false] rfl rfl (by kernel_rfl) (fun _ _ _ h => h) (Or.inl ⟨by rfl, ?_⟩) ?_ ?_
      rotate_left
      · intro w'
        go_simp
        with_reducible rfl
      rotate_left
      · simp only [Act.put, List.setIfInBounds_toArray, List.set_cons_zero, List.set_cons_succ, i64_w, i32_w]
        rfl
      refine pure_ (i := 6) (N := some 23) (v := ?_) (a' := ?_) #[true, true, true, true, true, true, true, false, false, false, false, false, false, false, false, false, false, false, false, false, false, false, false, false, false, false] rfl rfl (by kernel_rfl) (fun _ _ _ h => h) (Or.inl ⟨by rfl, ?_⟩) ?_ ?_
      rotate_left
      · intro w'
        go_simp
        with_reducible rfl
      rotate_left
      · simp only [Act.put, List.setIfInBounds_toArray, List.set_cons_zero, List.set_cons_succ, i64_w, i32_w]
        rfl
      refine pure_ (i := 7) (N := some 24) (v := ?_) (a' := ?_) #[true, true, true, true, true, true, true, true, false, false, false, false, false, false, false, false, false, false, false, false, false, false, false, false, false, false] rfl rfl (by kernel_rfl) (fun _ _ _ h => h) (Or.inl ⟨by rfl, ?_⟩) ?_ ?_
      rotate_left
      · intro w'
        go_simp
        with_reducible rfl
      rotate_left
      · simp only [Act.put, List.setIfInBounds_toArray, List.set_cons_zero, List.set_cons_succ, i64_w, i32_w]
        rfl
      refine pure_ (i := 8) (N := some 25) (v := ?_) (a' := ?_) #[true, true, true, true, true, true, true, true, true, false, false, false, false, false, false, false, false, false, false, false, false, false, false, false, false, false] rfl rfl (by kernel_rfl) (fun _ _ _ h => h) (Or.inl ⟨by rfl, ?_⟩) ?_ ?_
      rotate_left
      · intro w'
        go_simp
        with_reducible rfl
      rotate_left
      · simp only [Act.put, List.setIfInBounds_toArray, List.set_cons_zero, List.set_cons_succ, i64_w, i32_w]
        rfl
      refine take_ (i := 9) (N := some 26) (v := ?_) (a' := ?_) #[true, true, true, true, true, true, true, true, true, true, false, false, false, false, false, false, false, false, false, false, false, false, false, false, false, false] rfl rfl (by kernel_rfl) (fun _ _ _ h => h) (Or.inl ⟨by rfl, ?_⟩) hHeld ?_ ?_
      rotate_left
      · intro w' hS'
        obtain ⟨s1_, s2_, s3_, s4_, s5_, s6_⟩ := hS'
        go_simp
        with_reducible rfl
      rotate_left
      · simp only [Act.put, List.setIfInBounds_toArray, List.set_cons_zero, List.set_cons_succ, i64_w, i32_w]
        rfl
      refine pure_ (i := 10) (N := some 27) (v := ?_) (a' := ?_) #[true, true, true, true, true, true, true, true, true, true, true, false, false, false, false, false, false, false, false, false, false, false, false, false, false, false] rfl rfl (by kernel_rfl) (fun _ _ _ h => h) (Or.inl ⟨by rfl, ?_⟩) ?_ ?_
      rotate_left
      · intro w'
        go_simp
        with_reducible rfl
      rotate_left
      · simp only [Act.put, List.setIfInBounds_toArray, List.set_cons_zero, List.set_cons_succ, i64_w, i32_w]
        rfl
      refine pure_ (i := 11) (N := some 28) (v := ?_) (a' := ?_) #[true, true, true, true, true, true, true, true, true, true, true, true, false, false, false, false, false, false, false, false, false, false, false, false, false, false] rfl rfl (by kernel_rfl) (fun _ _ _ h => h) (Or.inl ⟨by rfl, ?_⟩) ?_ ?_
      rotate_left
      · intro w'
        go_simp
        with_reducible rfl
      rotate_left
      · simp only [Act.put, List.setIfInBounds_toArray, List.set_cons_zero, List.set_cons_succ, i64_w, i32_w]
        rfl
      refine pure_ (i := 12) (N := some 29) (v := ?_) (a' := ?_) #[true, true, true, true, true, true, true, true, true, true, true, true, true, false, false, false, false, false, false, false, false, false, false, false, false, false] rfl rfl (by kernel_rfl) (fun _ _ _ h => h) (Or.inl ⟨by rfl, ?_⟩) ?_ ?_
      rotate_left
      · intro w'
        go_simp
        with_reducible rfl
      rotate_left
      · simp only [Act.put, List.setIfInBounds_toArray, List.set_cons_zero, List.set_cons_succ, i64_w, i32_w]
        rfl
      refine pure_ (i := 13) (N := some 30) (v := ?_) (a' := ?_) #[true, true, true, true, true, true, true, true, true, true, true, true, true, true, false, false, false, false, false, false, false, false, false, false, false, false] rfl rfl (by kernel_rfl) (fun _ _ _ h => h) (Or.inl ⟨by rfl, ?_⟩) ?_ ?_
      rotate_left
      · intro w'
        go_simp
        with_reducible rfl
      rotate_left
      · simp only [Act.put, List.setIfInBounds_toArray, List.set_cons_zero, List.set_cons_succ, i64_w, i32_w]
        rfl
      refine pure_ (i := 14) (N := some 31) (v := ?_) (a' := ?_) #[true, true, true, true, true, true, true, true, true, true, true, true, true, true, true, false, false, false, false, false, false, false, false, false, false, false] rfl rfl (by kernel_rfl) (fun _ _ _ h => h) (Or.inl ⟨by rfl, ?_⟩) ?_ ?_
      rotate_left
      · intro w'
        go_simp
        with_reducible rfl
      rotate_left
      · simp only [Act.put, List.setIfInBounds_toArray, List.set_cons_zero, List.set_cons_succ, i64_w, i32_w]
        rfl
      refine pure_ (i := 15) (N := some 32) (v := ?_) (a' := ?_) #[true, true, true, true, true, true, true, true, true, true, true, true, true, true, true, true, false, false, false, false, false, false, false, false, false, false] rfl rfl (by kernel_rfl) (fun _ _ _ h => h) (Or.inl ⟨by rfl, ?_⟩) ?_ ?_
      rotate_left
      · intro w'
        go_simp
        with_reducible rfl
      rotate_left
      · simp only [Act.put, List.setIfInBounds_toArray, List.set_cons_zero, List.set_cons_succ, i64_w, i32_w]
        rfl
      refine take_ (i := 16) (N := some 33) (v := ?_) (a' := ?_) #[true, true, true, true, true, true, true, true, true, true, true, true, true, true, true, true, true, false, false, false, false, false, false, false, false, false] rfl rfl (by kernel_rfl) (fun _ _ _ h => h) (Or.inl ⟨by rfl, ?_⟩) hHeld ?_ ?_
      rotate_left
      · intro w' hS'
        obtain ⟨s1_, s2_, s3_, s4_, s5_, s6_⟩ := hS'
        go_simp
        with_reducible rfl
      rotate_left
      · simp only [Act.put, List.setIfInBounds_toArray, List.set_cons_zero, List.set_cons_succ, i64_w, i32_w]
        rfl
      refine take_ (i := 17) (N := some 34) (v := ?_) (a' := ?_) #[true, true, true, true, true, true, true, true, true, true, true, true, true, true, true, true, true, true, false, false, false, false, false, false, false, false] rfl rfl (by kernel_rfl) (fun _ _ _ h => h) (Or.inl ⟨by rfl, ?_⟩) hHeld ?_ ?_
      rotate_left
      · intro w' hS'
        obtain ⟨s1_, s2_, s3_, s4_, s5_, s6_⟩ := hS'
        go_simp
        with_reducible rfl
      rotate_left
      · simp only [Act.put, List.setIfInBounds_toArray, List.set_cons_zero, List.set_cons_succ, i64_w, i32_w]
        rfl
      refine pure_ (i := 18) (N := some 35) (v := ?_) (a' := ?_) #[true, true, true, true, true, true, true, true, true, true, true, true, true, true, true, true, true, true, true, false, false, false, false, false, false, false] rfl rfl (by kernel_rfl) (fun _ _ _ h => h) (Or.inl ⟨by rfl, ?_⟩) ?_ ?_
      rotate_left
      · intro w'
        go_simp
        with_reducible rfl
      rotate_left
      · simp only [Act.put, List.setIfInBounds_toArray, List.set_cons_zero, List.set_cons_succ, i64_w, i32_w]
        rfl
      refine pure_ (i := 19) (N := some 36) (v := ?_) (a' := ?_) #[true, true, true, true, true, true, true, true, true, true, true, true, true, true, true, true, true, true, true, true, false, false, false, false, false, false] rfl rfl (by kernel_rfl) (fun _ _ _ h => h) (Or.inl ⟨by rfl, ?_⟩) ?_ ?_
      rotate_left
      · intro w'
        go_simp
        with_reducible rfl
      rotate_left
      · simp only [Act.put, List.setIfInBounds_toArray, List.set_cons_zero, List.set_cons_succ, i64_w, i32_w]
        rfl
      refine pure_ (i := 20) (N := some 37) (v := ?_) (a' := ?_) #[true, true, true, true, true, true, true, true, true, true, true, true, true, true, true, true, true, true, true, true, true, false, false, false, false, false] rfl rfl (by kernel_rfl) (fun _ _ _ h => h) (Or.inl ⟨by rfl, ?_⟩) ?_ ?_
      rotate_left
      · intro w'
        go_simp
        with_reducible rfl
      rotate_left
      · simp only [Act.put, List.setIfInBounds_toArray, List.set_cons_zero, List.set_cons_succ, i64_w, i32_w]
        rfl
      refine pure_ (i := 21) (N := some 38) (v := ?_) (a' := ?_) #[true, true, true, true, true, true, true, true, true, true, true, true, true, true, true, true, true, true, true, true, true, true, false, false, false, false] rfl rfl (by kernel_rfl) (fun _ _ _ h => h) (Or.inl ⟨by rfl, ?_⟩) ?_ ?_
      rotate_left
      · intro w'
        go_simp
        with_reducible rfl
      rotate_left
      · simp only [Act.put, List.setIfInBounds_toArray, List.set_cons_zero, List.set_cons_succ, i64_w, i32_w]
        rfl
      refine take_ (i := 22) (N := some 39) (v := ?_) (a' := ?_) #[true, true, true, true, true, true, true, true, true, true, true, true, true, true, true, true, true, true, true, true, true, true, true, false, false, false] rfl rfl (by kernel_rfl) (fun _ _ _ h => h) (Or.inl ⟨by rfl, ?_⟩) hHeld ?_ ?_
      rotate_left
      · intro w' hS'
        obtain ⟨s1_, s2_, s3_, s4_, s5_, s6_⟩ := hS'
        go_simp
        with_reducible rfl
      rotate_left
      · simp only [Act.put, List.setIfInBounds_toArray, List.set_cons_zero, List.set_cons_succ, i64_w, i32_w]
        rfl
      refine take_ (i := 23) (N := some 40) (v := ?_) (a' := ?_) #[true, true, true, true, true, true, true, true, true, true, true, true, true, true, true, true, true, true, true, true, true, true, true, true, false, false] rfl rfl (by kernel_rfl) (fun _ _ _ h => h) (Or.inl ⟨by rfl, ?_⟩) hHeld ?_ ?_
      rotate_left
      · intro w' hS'
        obtain ⟨s1_, s2_, s3_, s4_, s5_, s6_⟩ := hS'
        go_simp
        with_reducible rfl
      rotate_left
      · simp only [Act.put, List.setIfInBounds_toArray, List.set_cons_zero, List.set_cons_succ, i64_w, i32_w]
        rfl
      refine pure_ (i := 24) (N := some 41) (v := ?_) (a' := ?_) #[true, true, true, true, true, true, true, true, true, true, true, true, true, true, true, true, true, true, true, true, true, true, true, true, true, false] rfl rfl (by kernel_rfl) (fun _ _ _ h => h) (Or.inl ⟨by rfl, ?_⟩) ?_ ?_
      rotate_left
      · intro w'
        go_simp
        with_reducible rfl
      rotate_left
      · simp only [Act.put, List.setIfInBounds_toArray, List.set_cons_zero, List.set_cons_succ, i64_w, i32_w]
        rfl
      refine pure_ (i := 25) (N := some 42) (v := ?_) (a' := ?_) #[true, true, true, true, true, true, true, true, true, true, true, true, true, true, true, true, true, true, true, true, true, true, true, true, true, true] rfl rfl (by kernel_rfl) (fun _ _ _ h => h) (Or.inl ⟨by rfl, ?_⟩) ?_ ?_
      rotate_left
      · intro w'
        go_simp
        with_reducible rfl
      rotate_left
      · simp only [Act.put, List.setIfInBounds_toArray, List.set_cons_zero, List.set_cons_succ, i64_w, i32_w]
        rfl
      refine done_ (by kernel_rfl) ?_
      clear hHeld
      go_wp2
      go_roundw
      case rel => exact ⟨i + 1, by omega, by first | rfl | (simp; done), HD⟩
      case measure => (simp [intOf]; omega)
    · obtain rfl : i = n := by omega
      have b1 : decide ((i : Int) < (i : Int)) = false := decide_eq_false (by omega)
      go_wp2
      go_ret
      exact ⟨rfl, HD.out⟩
theorem signalmanlaw05_heard.yes (A0 A1 : Option Addr) (c0 c1 : Nat) (l0 : List (Int × List Int)) (l1 : List S61) (w : World) (hr0 : Kd.C Ear.kH w A0 l0.length l0) (hr1 : Kd.C k61 w A1 l1.length l1) (hsm : l0.length ≤ 1000000000) (he : l0 = l1.map (fun x => (x.f0, x.f1))) :
    Calls Try.prog 25 #[.slice A0 l0.length c0, .slice A1 l1.length c1] w fun e w' => e = .returned (.bool true) ∧ Drawn0 w w' := by
  have hl : l0.length = l1.length := by rw [he, List.length_map]
  rw [hl] at hr0 hsm ⊢
  refine signalmanlaw05_heard.yes0 A0 A1 c0 c1 l1.length _ l1 w hr0 hr1 hsm (fun i hi => ?_)
  subst he
  have h1 : rd_T61 l1 (i : Int) = l1[i] := by simp [rd_T61, List.getD_eq_getElem?_getD, List.getElem?_eq_getElem hi]
  have h2 : signalmanlaw05_heard.rdH (l1.map (fun x => (x.f0, x.f1))) (i : Int) = (l1[i].f0, l1[i].f1) := by simp [signalmanlaw05_heard.rdH, List.getD_eq_getElem?_getD, List.getElem?_eq_getElem hi]
  rw [h1, h2]
  exact ⟨rfl, rfl⟩

/-! ### signalmanlaw05_FlagCuts: function 6 -/
set_option maxHeartbeats 8000000 in
set_option maxRecDepth 100000 in
theorem signalmanlaw05_FlagCuts.e_short (k : Nat) (haw : signalmanlaw05_awake.f k = some true) (A Aj Ah Ac : Option Addr) (c cj ch cc : Nat) (ll : List (List Int)) (p how cuts : List Int) (w : World) (hr : Kd.C (Kd.slice 5 (Kd.int .u8)) w A ll.length ll) (hc : ll.length ≤ c) (hs : signalmanlaw05_short.f k ll = some false) :
    Calls Try.prog 6 #[.slice A ll.length c, .slice Aj p.length cj, .slice Ah how.length ch, .slice Ac cuts.length cc] w fun e w' => e = .returned (.bool true) ∧ Below w.heap.size w w' := by
  have HB := Aside0.mk (Below.refl w.heap.size w)
  have HR := Aside0.mk hr
  have HC := Aside0.mk hc
  have HAW := Aside0.mk haw
  have HSH := Aside0.mk hs
  clear hs
  clear hr hc haw
  go_enter Try.func6, Try.ntmps6
  go_wp2_with (first
  | ((with_reducible refine gate_callee (f := 9) rfl ?_); refine goesL_ (some 22) rfl rfl Try.func9 (by kernel_rfl) rfl #[] rfl (by (try simp only [List.map_toArray, List.map_cons, List.map_nil]); first | done | rfl | (simp [Act.eval, *]; done)) ?_; (with_reducible refine (signalmanlaw05_awake.calls k true _ HAW.out).mono ?_); rintro e w1 ⟨rfl, hb⟩; refine ⟨_, rfl, ?_⟩; have n0_ := Aside0.mk (below_step HB.out hb); clear HB; have HB := n0_; clear n0_; clear hb)
  | ((with_reducible refine gate_callee (f := 21) rfl ?_); (try (refine gate_guard (by rfl) ?_; dsimp only)); refine goesL_ (some 26) rfl rfl Try.func21 (by kernel_rfl) rfl #[.slice A ll.length c] rfl (by (try simp only [List.map_toArray, List.map_cons, List.map_nil]); first | done | rfl | (simp [Act.eval, *]; done)) ?_; (with_reducible refine (signalmanlaw05_short.calls k A c ll false _ (Kd.C_below HR.out HB.out) HC.out HSH.out).mono ?_); rintro e w2 ⟨rfl, hd⟩; refine ⟨_, rfl, ?_⟩; have n0_ := Aside0.mk (below_step HB.out hd.below); clear HB; have HB := n0_; clear n0_; clear hd)
  | ((with_reducible refine gate_callee (f := 9) rfl ?_); refine goesL_ (some 34) rfl rfl Try.func9 (by kernel_rfl) rfl #[] rfl (by (try simp only [List.map_toArray, List.map_cons, List.map_nil]); first | done | rfl | (simp [Act.eval, *]; done)) ?_; (with_reducible refine (signalmanlaw05_awake.calls k true _ HAW.out).mono ?_); rintro e w1 ⟨rfl, hb⟩; refine ⟨_, rfl, ?_⟩; have n0_ := Aside0.mk (below_step HB.out hb); clear HB; have HB := n0_; clear n0_; clear hb))
  go_ret
  exact ⟨rfl, HB.out⟩
set_option maxHeartbeats 8000000 in
set_option maxRecDepth 100000 in
theorem signalmanlaw05_FlagCuts.e_junk (k : Nat) (haw : signalmanlaw05_awake.f k = some true) (A Aj Ah Ac : Option Addr) (c cj ch cc : Nat) (ll : List (List Int)) (p how cuts : List Int) (w : World) (hr : Kd.C (Kd.slice 5 (Kd.int .u8)) w A ll.length ll) (hc : ll.length ≤ c) (hs : signalmanlaw05_short.f k ll = some true) (hj : 200 < p.length) :
    Calls Try.prog 6 #[.slice A ll.length c, .slice Aj p.length cj, .slice Ah how.length ch, .slice Ac cuts.length cc] w fun e w' => e = .returned (.bool true) ∧ Below w.heap.size w w' := by
  have HB := Aside0.mk (Below.refl w.heap.size w)
  have HR := Aside0.mk hr
  have HC := Aside0.mk hc
  have HAW := Aside0.mk haw
  have HSH := Aside0.mk hs
  clear hs
  have d0 : decide ((200 : Int) < (p.length : Int)) = true := decide_eq_true (by omega)
  have d1 : decide (200 < p.length) = true := decide_eq_true (by omega)
  clear hr hc haw
  go_enter Try.func6, Try.ntmps6
  go_wp2_with (first
  | ((with_reducible refine gate_callee (f := 9) rfl ?_); refine goesL_ (some 22) rfl rfl Try.func9 (by kernel_rfl) rfl #[] rfl (by (try simp only [List.map_toArray, List.map_cons, List.map_nil]); first | done | rfl | (simp [Act.eval, *]; done)) ?_; (with_reducible refine (signalmanlaw05_awake.calls k true _ HAW.out).mono ?_); rintro e w1 ⟨rfl, hb⟩; refine ⟨_, rfl, ?_⟩; have n0_ := Aside0.mk (below_step HB.out hb); clear HB; have HB := n0_; clear n0_; clear hb)
  | ((with_reducible refine gate_callee (f := 21) rfl ?_); (try (refine gate_guard (by rfl) ?_; dsimp only)); refine goesL_ (some 26) rfl rfl Try.func21 (by kernel_rfl) rfl #[.slice A ll.length c] rfl (by (try simp only [List.map_toArray, List.map_cons, List.map_nil]); first | done | rfl | (simp [Act.eval, *]; done)) ?_; (with_reducible refine (signalmanlaw05_short.calls k A c ll true _ (Kd.C_below HR.out HB.out) HC.out HSH.out).mono ?_); rintro e w2 ⟨rfl, hd⟩; refine ⟨_, rfl, ?_⟩; have n0_ := Aside0.mk (below_step HB.out hd.below); clear HB; have HB := n0_; clear n0_; clear hd)
  | ((with_reducible refine gate_callee (f := 9) rfl ?_); refine goesL_ (some 34) rfl rfl Try.func9 (by kernel_rfl) rfl #[] rfl (by (try simp only [List.map_toArray, List.map_cons, List.map_nil]); first | done | rfl | (simp [Act.eval, *]; done)) ?_; (with_reducible refine (signalmanlaw05_awake.calls k true _ HAW.out).mono ?_); rintro e w1 ⟨rfl, hb⟩; refine ⟨_, rfl, ?_⟩; have n0_ := Aside0.mk (below_step HB.out hb); clear HB; have HB := n0_; clear n0_; clear hb))
  go_ret
  exact ⟨rfl, HB.out⟩
/-- What one bit more does, told against what the document hears of all of them. -/
def signalmanlaw05_FlagCuts.Tells (l : List S61) (i : Nat) (o : Option (Int × List Int)) (q q' : Nat) : Prop :=
  (o = none ∧ (q < l.length → (rd_T61 l (q : Int)).f2 ≠ ((i + 1 : Nat) : Int)) ∧ q' = q) ∨ (∃ h, o = some h ∧ q < l.length ∧ (rd_T61 l (q : Int)).f2 = ((i + 1 : Nat) : Int) ∧ (rd_T61 l (q : Int)).f0 = h.1 ∧ q' = q + 1)
def signalmanlaw05_FlagCuts.st (J : List Bool → Option (List Int)) (t : List Bool) (i : Nat) : Ear.St := (Ear.runF J ⟨[], 0, false, 0⟩ (t.take i)).1
def signalmanlaw05_FlagCuts.ou (J : List Bool → Option (List Int)) (t : List Bool) (i : Nat) : List (Int × List Int) := (Ear.runF J ⟨[], 0, false, 0⟩ (t.take i)).2
set_option maxHeartbeats 64000000 in
set_option maxRecDepth 100000 in
theorem signalmanlaw05_FlagCuts.main (k : Nat) (haw : signalmanlaw05_awake.f k = some true) (A Aj Ah Ac : Option Addr) (c cj ch cc : Nat) (ll : List (List Int)) (p how cuts : List Int) (w : World) (hr : Kd.C (Kd.slice 5 (Kd.int .u8)) w A ll.length ll) (hc : ll.length ≤ c) (hrp : Kd.C (Kd.int .u8) w Aj p.length p) (hcp : p.length ≤ cj) (hrh : Kd.C (Kd.int .u8) w Ah how.length how) (hch : how.length ≤ ch) (hrc : Kd.C (Kd.int .u8) w Ac cuts.length cuts) (hcc : cuts.length ≤ cc) (hwc : ∀ x ∈ cuts, 0 ≤ x ∧ x < 256) (hs : signalmanlaw05_short.f k ll = some true) (hj : p.length ≤ 200) (t : List Bool) (hst : signalmanlaw05_stream.f k ll p how = some t) (ht : t.length ≤ 1000000) (l : List S61) (b : Bool) (hhr : signalmanref01_Hear.f k t = some (l, b)) (hl : l.length ≤ 1000000)
    (hout : signalmanlaw05_FlagCuts.ou (signalmanlaw05_awake.J k) t t.length = l.map (fun x => (x.f0, x.f1))) (qq : Nat → Nat) (hq0 : qq 0 = 0) (hqn : qq t.length = l.length) (hqq : ∀ i, i ≤ t.length → qq i ≤ i) (htell : ∀ i (hi : i < t.length), signalmanlaw05_FlagCuts.Tells l i (Ear.bitF (signalmanlaw05_awake.J k) (signalmanlaw05_FlagCuts.st (signalmanlaw05_awake.J k) t i) t[i]).2 (qq i) (qq (i + 1))) :
    Calls Try.prog 6 #[.slice A ll.length c, .slice Aj p.length cj, .slice Ah how.length ch, .slice Ac cuts.length cc] w fun e w' => e = .returned (.bool true) ∧ Below w.heap.size w w' := by
  have HB := Aside0.mk (Below.refl w.heap.size w)
  have HR := Aside0.mk hr
  have HC := Aside0.mk hc
  have HRP := Aside0.mk hrp
  have HCP := Aside0.mk hcp
  have HRH := Aside0.mk hrh
  have HCH := Aside0.mk hch
  have HRC := Aside0.mk hrc
  have HCC := Aside0.mk hcc
  have HWC := Aside0.mk hwc
  have HAW := Aside0.mk haw
  have HJ := Aside0.mk (signalmanlaw05_awake.ok ((signalmanlaw05_awake.f_full k).1 haw))
  have HSH := Aside0.mk hs
  have HST := Aside0.mk hst
  have HTL := Aside0.mk ht
  have HHR := Aside0.mk hhr
  have HL := Aside0.mk hl
  obtain ⟨out, hout2⟩ : ∃ o, o = l.map (fun x : S61 => (x.f0, x.f1)) := ⟨_, rfl⟩
  rw [← hout2] at hout
  have HOUT := Aside0.mk hout
  have HO2 := Aside0.mk hout2
  have HQ0 := Aside0.mk hq0
  have HQN := Aside0.mk hqn
  have HQQ := Aside0.mk hqq
  have HTELL := Aside0.mk htell
  have d0 : decide ((200 : Int) < (p.length : Int)) = false := decide_eq_false (by omega)
  have d1 : decide (200 < p.length) = false := decide_eq_false (by omega)
  clear hr hc hrp hcp hrh hch hrc hcc hwc haw hs hst ht hhr hl hout hout2 hj hq0 hqn hqq htell
  go_enter Try.func6, Try.ntmps6
  go_wp2_with (first
  | ((with_reducible refine gate_callee (f := 9) rfl ?_); refine goesL_ (some 22) rfl rfl Try.func9 (by kernel_rfl) rfl #[] rfl (by (try simp only [List.map_toArray, List.map_cons, List.map_nil]); first | done | rfl | (simp [Act.eval, *]; done)) ?_; (with_reducible refine (signalmanlaw05_awake.calls k true _ HAW.out).mono ?_); rintro e w1 ⟨rfl, hb⟩; refine ⟨_, rfl, ?_⟩; have n0_ := Aside0.mk (below_step HB.out hb); clear HB; have HB := n0_; clear n0_; clear hb)
  | ((with_reducible refine gate_callee (f := 21) rfl ?_); (try (refine gate_guard (by rfl) ?_; dsimp only)); refine goesL_ (some 26) rfl rfl Try.func21 (by kernel_rfl) rfl #[.slice A ll.length c] rfl (by (try simp only [List.map_toArray, List.map_cons, List.map_nil]); first | done | rfl | (simp [Act.eval, *]; done)) ?_; (with_reducible refine (signalmanlaw05_short.calls k A c ll true _ (Kd.C_below HR.out HB.out) HC.out HSH.out).mono ?_); rintro e w2 ⟨rfl, hd⟩; refine ⟨_, rfl, ?_⟩; have n0_ := Aside0.mk (below_step HB.out hd.below); clear HB; have HB := n0_; clear n0_; clear hd)
  | ((with_reducible refine gate_callee (f := 22) rfl ?_); refine goesL_ (some 38) rfl rfl Try.func22 (by kernel_rfl) rfl #[.slice A ll.length c, .slice Aj p.length cj, .slice Ah how.length ch] rfl (by (try simp only [List.map_toArray, List.map_cons, List.map_nil]); first | done | rfl | (simp [Act.eval, *]; done)) ?_; (with_reducible refine (signalmanlaw05_stream.calls k A c ll Aj cj p Ah ch how t _ (Kd.C_below HR.out HB.out) HC.out (Kd.C_below HRP.out HB.out) HCP.out (Kd.C_below HRH.out HB.out) HCH.out HST.out).mono ?_); rintro e w3 ⟨v, rfl, ho, hb⟩; refine ⟨_, rfl, ?_⟩; obtain ⟨At, ct, rfl, hct, hrt, hft⟩ := Rowq.fresh_reads ho; have HCT := Aside0.mk hct; have HRT := Aside0.mk hrt; have HT2 := Aside0.mk (Kd.C_of_reads (enc := Value.bool) (d := false) (h1 := fun _ => rfl) (Rowq.reads_under hrt (below_alloc (below_alloc (Below.refl _ _) (.cells #[.slice none 0 0, .int .i64 0, .bool false, .int .i64 0] 48)) (.cells #[.slice none 0 0, .int .i64 0, .bool false, .int .i64 0] 48)) (Rowq.reads_block hrt))); have HT3 : Aside0 (Kd.C Kd.bool ((w3.alloc (.cells #[.slice none 0 0, .int .i64 0, .bool false, .int .i64 0] 48)).alloc (.cells #[.slice none 0 0, .int .i64 0, .bool false, .int .i64 0] 48)) At t.length t) := HT2; clear HT2; have n0_ := Aside0.mk (below_step HB.out hb); clear HB; have HB := n0_; clear n0_; clear ho hb hct hrt hft)
  | ((with_reducible refine gate_callee (f := 24) rfl ?_); refine goesL_ (some 45) rfl rfl Try.func24 (by kernel_rfl) rfl #[.slice At t.length ct] rfl (by (try simp only [List.map_toArray, List.map_cons, List.map_nil]); first | done | rfl | (simp [Act.eval, *]; done)) ?_; (with_reducible refine (signalmanref01_Hear.calls k At ct t l b _ HT3.out HCT.out HHR.out).mono ?_); rintro e w4 ⟨v, rfl, ho, hb⟩; refine ⟨_, rfl, ?_⟩; obtain ⟨Aw, cw, rfl⟩ := Kd.S_slice ho; have HCW := Aside0.mk (Kd.R_reads' (Kd.S_R ho)).2.2; have HRW := Aside0.mk (Kd.R_mono (Kd.R_bound (Kd.S_R ho)) (fun k hk => hk.2.1)); have HWB := Aside0.mk (fun ad e hn => by obtain ⟨gg, cap, e2, hb1, _⟩ := Kd.S_form ho hn; subst e; simp only [Value.slice.injEq, Option.some.injEq] at e2; obtain ⟨rfl, _⟩ := e2; exact hb1 : ∀ ad : Addr, Aw = some ad → 0 < l.length → ((w3.alloc (.cells #[.slice none 0 0, .int .i64 0, .bool false, .int .i64 0] 48)).alloc (.cells #[.slice none 0 0, .int .i64 0, .bool false, .int .i64 0] 48)).heap.size ≤ ad.block); have HB4 := Aside0.mk hb; have HBW := Aside0.mk (below_step (below_alloc (below_alloc HB.out _) _) hb); clear HT3 ho hb))
  have hz1 : (w3.alloc (.cells #[.slice none 0 0, .int .i64 0, .bool false, .int .i64 0] 48)).heap.size = w3.heap.size + 1 := by simp [World.alloc_eq]
  have hz2 : ((w3.alloc (.cells #[.slice none 0 0, .int .i64 0, .bool false, .int .i64 0] 48)).alloc (.cells #[.slice none 0 0, .int .i64 0, .bool false, .int .i64 0] 48)).heap.size = w3.heap.size + 2 := by simp [World.alloc_eq]
  have hsz3 := HB.out.size
  have hsz4 := HB4.out.size
  have hx0 : Ear.At w4 w3.heap.size (.slice none 0 0) 0 false 0 := (HB4.out.block _ (by omega)).trans (((below_alloc (Below.refl _ (w3.alloc (.cells #[.slice none 0 0, .int .i64 0, .bool false, .int .i64 0] 48))) (.cells #[.slice none 0 0, .int .i64 0, .bool false, .int .i64 0] 48)).block _ (by omega)).trans (heap_alloc_new w3 (.cells #[.slice none 0 0, .int .i64 0, .bool false, .int .i64 0] 48)))
  have hy0 : Ear.At w4 (w3.heap.size + 1) (.slice none 0 0) 0 false 0 := (HB4.out.block _ (by omega)).trans (hz1 ▸ heap_alloc_new (w3.alloc (.cells #[.slice none 0 0, .int .i64 0, .bool false, .int .i64 0] 48)) (.cells #[.slice none 0 0, .int .i64 0, .bool false, .int .i64 0] 48))
  obtain ⟨g, hg⟩ : ∃ g, g = w3.heap.size := ⟨_, rfl⟩
  obtain ⟨g2, hg2⟩ : ∃ g2, g2 = w3.heap.size + 1 := ⟨_, rfl⟩
  rw [← hg2] at hy0 ⊢
  rw [← hg] at hx0 ⊢
  have hI0 := signalmanlaw05_awake.born (B := w.heap.size) hx0 (by omega)
  have HT4 := Aside0.mk (Rowq.reads_under HRT.out ((below_alloc (below_alloc (Below.refl _ w3) (.cells #[.slice none 0 0, .int .i64 0, .bool false, .int .i64 0] 48)) (.cells #[.slice none 0 0, .int .i64 0, .bool false, .int .i64 0] 48)).trans (HB4.out.mono (by omega))) (Rowq.reads_block HRT.out))
  have HTB := Aside0.mk (fun ad e hn => by have := Rowq.reads_block HRT.out ad e hn; omega : ∀ ad : Addr, At = some ad → 0 < t.length → ad.block < g)
  have HWB2 := Aside0.mk (fun ad e hn => by have := HWB.out ad e hn; omega : ∀ ad : Addr, Aw = some ad → 0 < l.length → g < ad.block ∧ g2 < ad.block)
  have HG := Aside0.mk (show g < g2 ∧ g2 < w4.heap.size ∧ w.heap.size ≤ g by omega)
  have hRW := Kd.R_mono (ok' := fun k => g ≠ k ∧ g2 ≠ k) HRW.out (fun k hk => by have hk2 : ((w3.alloc (.cells #[.slice none 0 0, .int .i64 0, .bool false, .int .i64 0] 48)).alloc (.cells #[.slice none 0 0, .int .i64 0, .bool false, .int .i64 0] 48)).heap.size ≤ k := hk; omega)
  clear HRW
  have HRW := Aside0.mk hRW
  have HRT3 := Aside0.mk (show w3.heap.size = g by omega)
  have HX := Aside0.mk hI0
  have HY := Aside0.mk hy0
  clear hz1 hz2 hsz3 hsz4 hx0 hy0 hI0 HB HB4 HWB hg hg2 hRW

  go_loopw [14, 15] (fun v14 v15 wr => ∃ i : Nat, i ≤ t.length ∧ v14 = .int .i64 (qq i) ∧ v15 = .int .i64 i ∧ Aside0 (Ear.Is w.heap.size (fun k => k ≠ g ∧ k < w4.heap.size) wr g (signalmanlaw05_FlagCuts.st (signalmanlaw05_awake.J k) t i)) ∧ Aside0 (Rowq.KeptE (fun k => k ≠ g ∧ k < w4.heap.size) w4 wr) ∧ Aside0 (Below w.heap.size w wr) ∧ Aside0 (w4.heap.size ≤ wr.heap.size)) (fun _ v15 _ => t.length - (intOf v15).toNat)
  case atStart => exact ⟨0, Nat.zero_le _, by rw [HQ0.out]; rfl, rfl, HX, ⟨Rowq.KeptE.refl _ _⟩, HBW, ⟨Nat.le_refl _⟩⟩
  case round =>
    clear HX
    obtain ⟨i, hi, rfl, rfl, HI, HK, HB, HSZ⟩ := hrel
    by_cases hlt : i < t.length
    · have hpos : 0 < t.length := by omega
      have htl : t.length ≤ 1000000 := HTL.out
      have b1 : decide ((i : Int) < (t.length : Int)) = true := decide_eq_true (by omega)
      have p1 := eq_true (show 0 ≤ (i : Int) by omega)
      have p2 := eq_true (show (i : Int) < (t.length : Int) by omega)
      have hT5 := HK.out.reads HT4.out (fun ad e hn => ⟨by have := HTB.out ad e hn; omega, by have := HTB.out ad e hn; have := HG.out; omega⟩)
      obtain ⟨ad, e, hx⟩ := ReadsOf.at_ hT5 (i : Int) (by omega) (by omega)
      cases e
      rw [Base.rdOf_nat false t i hlt, Int.toNat_natCast] at hx
      have hup := Ear.inv0.upto (J := signalmanlaw05_awake.J k) t i hi
      have htell := HTELL.out i hlt
      have hsn : signalmanlaw05_FlagCuts.st (signalmanlaw05_awake.J k) t (i + 1) = (Ear.bitF (signalmanlaw05_awake.J k) (signalmanlaw05_FlagCuts.st (signalmanlaw05_awake.J k) t i) t[i]).1 := by
        unfold signalmanlaw05_FlagCuts.st
        rw [List.take_succ_eq_append_getElem hlt, Ear.runF_snoc]
      generalize t[i] = x at hx htell hsn
      have hbc := Ear.bit_is HJ.out HI.out hup.1 (by have h1 : (signalmanlaw05_FlagCuts.st (signalmanlaw05_awake.J k) t i).ones ≤ 0 + i := hup.2.1; omega) x
      clear hup
      generalize signalmanlaw05_FlagCuts.st (signalmanlaw05_awake.J k) t i = si at HI htell hsn hbc
      generalize Ear.bitF (signalmanlaw05_awake.J k) si x = bo at htell hsn hbc
      obtain ⟨s2, o⟩ := bo
      have HSN := Aside0.mk hsn
      have hqi := HQQ.out i hi
      obtain ⟨q, hq⟩ : ∃ q, q = qq i := ⟨_, rfl⟩
      obtain ⟨q', hq'⟩ : ∃ q', q' = qq (i + 1) := ⟨_, rfl⟩
      rw [← hq] at hqi htell ⊢
      rw [← hq'] at htell
      have HQ1 := Aside0.mk hq'
      have hqm : q ≤ 1000000 := by omega
      clear hq hT5 hsn hq'
      rcases htell with ⟨ho, hne, hqe⟩ | ⟨h, ho, hql, hf2, hf0, hqe⟩
      · have ho : o = none := ho
        subst ho
        have HBC := Aside0.mk hbc
        have HQE := Aside0.mk hqe
        clear hbc hqe
        by_cases hql : q < l.length
        · have hne := hne hql
          have b2 : decide ((q : Int) < (l.length : Int)) = true := decide_eq_true (by omega)
          have b3 : decide (q < l.length) = true := decide_eq_true hql
          have p3 := eq_true (show 0 ≤ (q : Int) by omega)
          have p4 := eq_true (show (q : Int) < (l.length : Int) by omega)
          obtain ⟨be, Ay, cy, e, hy0, hy1, hy2, hly, hCy⟩ := at_T61 HCW.out (q : Int) (by omega) (by omega)
          cases e
          rw [Int.toNat_natCast] at hy0 hy2
          have hbe := HWB2.out be rfl (by omega)
          have HBE := Aside0.mk (show (be.add (q * 3)).block ≠ g ∧ (be.add (q * 3)).block < w4.heap.size from ⟨by rw [add_block]; omega, World.block_lt_of_cell? w4 _ hy0⟩)
          generalize (rd_T61 l (q : Int)).f2 = z at hne hy2
          have HYK := Aside0.mk (HK.out.cell (p := ⟨(be.add (q * 3)).block, (be.add (q * 3)).off + 2, none⟩) HBE.out hy2)
          have b4 : (z == (i : Int) + 1) = false := beq_eq_false_iff_ne.2 (by omega)
          clear hy0 hy1 hy2 hly hCy hbe hne
          as_aux_lemma =>
            go_wp2_with (first
            | ((with_reducible refine gate_callee (f := 27) rfl ?_); refine goesL_ (some 60) rfl rfl Try.func27 (by kernel_rfl) rfl #[.pointer (some ⟨g, 0, none⟩), .bool x] rfl (by (try simp only [List.map_toArray, List.map_cons, List.map_nil]); first | done | rfl | (simp [Act.eval, *]; done)) ?_; (with_reducible refine (HBC.out).mono ?_); rintro e w5 ⟨⟨v5, rfl, hRv⟩, hI2, hb2, hk2⟩; refine ⟨_, rfl, ?_⟩; obtain ⟨Av, cv, rfl⟩ := Kd.R_slice hRv; have hy6 := pw_cell_below (below_alloc (Below.refl _ _) (.cells #[.int .u8 (Ear.kindO none), .slice Av (Ear.octO none).length cv] 57)) (hk2.cell (p := ⟨(be.add (q * 3)).block, (be.add (q * 3)).off + 2, none⟩) HBE.out HYK.out); have HI2 := Aside0.mk hI2; have HB2 := Aside0.mk hb2; have HK2 := Aside0.mk hk2; clear hRv hI2 hb2 hk2 hx HBC))
            have hsz5 := HB2.out.size
            have hsz6 := HSZ.out
            have HKN := Aside0.mk ((HK.out.trans HK2.out).trans (fun k hk => (below_alloc (Below.refl w5.heap.size w5) (.cells #[.int .u8 (Ear.kindO none), .slice Av (Ear.octO none).length cv] 57)).block k (by have := hk.2; omega) : Rowq.KeptE (fun k => k ≠ g ∧ k < w4.heap.size) w5 (w5.alloc (.cells #[.int .u8 (Ear.kindO none), .slice Av (Ear.octO none).length cv] 57))))
            have HBN := Aside0.mk (below_alloc (HB.out.trans HB2.out) (.cells #[.int .u8 (Ear.kindO none), .slice Av (Ear.octO none).length cv] 57))
            have HIN := Aside0.mk (show Ear.Is w.heap.size (fun k => k ≠ g ∧ k < w4.heap.size) (w5.alloc (.cells #[.int .u8 (Ear.kindO none), .slice Av (Ear.octO none).length cv] 57)) g (signalmanlaw05_FlagCuts.st (signalmanlaw05_awake.J k) t (i + 1)) by rw [HSN.out]; exact HI2.out.below (below_alloc (Below.refl w5.heap.size w5) (.cells #[.int .u8 (Ear.kindO none), .slice Av (Ear.octO none).length cv] 57)) (fun k hk => Or.inl (Or.inl hk)))
            have HSN2 := Aside0.mk (show w4.heap.size ≤ (w5.alloc (.cells #[.int .u8 (Ear.kindO none), .slice Av (Ear.octO none).length cv] 57)).heap.size by have := (below_alloc (Below.refl w5.heap.size w5) (.cells #[.int .u8 (Ear.kindO none), .slice Av (Ear.octO none).length cv] 57)).size; omega)
            clear hsz5 hsz6 HB HK HI HSZ HI2 HB2 HK2
            go_roundw
            case rel => exact ⟨i + 1, by omega, by rw [← HQ1.out, HQE.out]; first | done | rfl | (simp; done), by first | rfl | (simp; done), HIN, HKN, HBN, HSN2⟩
            case measure => (simp [intOf]; omega)

        · have b2 : decide ((q : Int) < (l.length : Int)) = false := decide_eq_false (by omega)
          have b3 : decide (q < l.length) = false := decide_eq_false hql
          clear hne
          as_aux_lemma =>
            go_wp2_with (first
            | ((with_reducible refine gate_callee (f := 27) rfl ?_); refine goesL_ (some 60) rfl rfl Try.func27 (by kernel_rfl) rfl #[.pointer (some ⟨g, 0, none⟩), .bool x] rfl (by (try simp only [List.map_toArray, List.map_cons, List.map_nil]); first | done | rfl | (simp [Act.eval, *]; done)) ?_; (with_reducible refine (HBC.out).mono ?_); rintro e w5 ⟨⟨v5, rfl, hRv⟩, hI2, hb2, hk2⟩; refine ⟨_, rfl, ?_⟩; obtain ⟨Av, cv, rfl⟩ := Kd.R_slice hRv; have HI2 := Aside0.mk hI2; have HB2 := Aside0.mk hb2; have HK2 := Aside0.mk hk2; clear hRv hI2 hb2 hk2 hx HBC))
            have hsz5 := HB2.out.size
            have hsz6 := HSZ.out
            have HKN := Aside0.mk ((HK.out.trans HK2.out).trans (fun k hk => (below_alloc (Below.refl w5.heap.size w5) (.cells #[.int .u8 (Ear.kindO none), .slice Av (Ear.octO none).length cv] 57)).block k (by have := hk.2; omega) : Rowq.KeptE (fun k => k ≠ g ∧ k < w4.heap.size) w5 (w5.alloc (.cells #[.int .u8 (Ear.kindO none), .slice Av (Ear.octO none).length cv] 57))))
            have HBN := Aside0.mk (below_alloc (HB.out.trans HB2.out) (.cells #[.int .u8 (Ear.kindO none), .slice Av (Ear.octO none).length cv] 57))
            have HIN := Aside0.mk (show Ear.Is w.heap.size (fun k => k ≠ g ∧ k < w4.heap.size) (w5.alloc (.cells #[.int .u8 (Ear.kindO none), .slice Av (Ear.octO none).length cv] 57)) g (signalmanlaw05_FlagCuts.st (signalmanlaw05_awake.J k) t (i + 1)) by rw [HSN.out]; exact HI2.out.below (below_alloc (Below.refl w5.heap.size w5) (.cells #[.int .u8 (Ear.kindO none), .slice Av (Ear.octO none).length cv] 57)) (fun k hk => Or.inl (Or.inl hk)))
            have HSN2 := Aside0.mk (show w4.heap.size ≤ (w5.alloc (.cells #[.int .u8 (Ear.kindO none), .slice Av (Ear.octO none).length cv] 57)).heap.size by have := (below_alloc (Below.refl w5.heap.size w5) (.cells #[.int .u8 (Ear.kindO none), .slice Av (Ear.octO none).length cv] 57)).size; omega)
            clear hsz5 hsz6 HB HK HI HSZ HI2 HB2 HK2
            go_roundw
            case rel => exact ⟨i + 1, by omega, by rw [← HQ1.out, HQE.out]; first | done | rfl | (simp; done), by first | rfl | (simp; done), HIN, HKN, HBN, HSN2⟩
            case measure => (simp [intOf]; omega)

      · have ho : o = some h := ho
        subst ho
        obtain ⟨K, pp⟩ := h
        have hb1 : Calls Try.prog 27 #[.pointer (some ⟨g, 0, none⟩), .bool x] wr (fun e w' => (∃ v, e = .returned (.tuple #[.agg #[.int .u8 K, v], .bool true]) ∧ Kd.R (Kd.int .u8) 5 w' wr.heap.size (fun k => wr.heap.size ≤ k ∧ k < w'.heap.size) v pp) ∧ Ear.Is w.heap.size (fun k => (k ≠ g ∧ k < w4.heap.size) ∨ (true = true ∧ wr.heap.size ≤ k ∧ k < w'.heap.size)) w' g s2 ∧ Below w.heap.size wr w' ∧ Rowq.KeptE (fun k => k ≠ g ∧ k < w4.heap.size) wr w') := hbc.mono (fun e w' h => ⟨h.ret, h.is, h.below, h.kept⟩)
        have HBC := Aside0.mk hb1
        have HQE := Aside0.mk hqe
        clear hbc hb1 hqe
        have b2 : decide ((q : Int) < (l.length : Int)) = true := decide_eq_true (by omega)
        have b3 : decide (q < l.length) = true := decide_eq_true hql
        have p3 := eq_true (show 0 ≤ (q : Int) by omega)
        have p4 := eq_true (show (q : Int) < (l.length : Int) by omega)
        obtain ⟨be, Ay, cy, e, hy0, hy1, hy2, hly, hCy⟩ := at_T61 HCW.out (q : Int) (by omega) (by omega)
        cases e
        have hf0 : (rd_T61 l (q : Int)).f0 = K := hf0
        have hf2 : (rd_T61 l (q : Int)).f2 = (i : Int) + 1 := by rw [hf2]; omega
        rw [Int.toNat_natCast] at hy0 hy2
        rw [hf0] at hy0
        rw [hf2] at hy2
        have hbe := HWB2.out be rfl (by omega)
        have HBE := Aside0.mk (show (be.add (q * 3)).block ≠ g ∧ (be.add (q * 3)).block < w4.heap.size from ⟨by rw [add_block]; omega, World.block_lt_of_cell? w4 _ hy0⟩)
        have HYK := Aside0.mk (HK.out.cell (p := ⟨(be.add (q * 3)).block, (be.add (q * 3)).off + 2, none⟩) HBE.out hy2)
        have HYL := Aside0.mk (HK.out.cell (p := be.add (q * 3)) HBE.out hy0)
        clear hy0 hy1 hy2 hly hCy hbe hf0 hf2
        as_aux_lemma =>
          go_wp2_with (first
          | ((with_reducible refine gate_callee (f := 27) rfl ?_); refine goesL_ (some 60) rfl rfl Try.func27 (by kernel_rfl) rfl #[.pointer (some ⟨g, 0, none⟩), .bool x] rfl (by (try simp only [List.map_toArray, List.map_cons, List.map_nil]); first | done | rfl | (simp [Act.eval, *]; done)) ?_; (with_reducible refine (HBC.out).mono ?_); rintro e w5 ⟨⟨v5, rfl, hRv⟩, hI2, hb2, hk2⟩; refine ⟨_, rfl, ?_⟩; obtain ⟨Av, cv, rfl⟩ := Kd.R_slice hRv; have hy6 := pw_cell_below (below_alloc (Below.refl _ _) (.cells #[.int .u8 K, .slice Av pp.length cv] 57)) (hk2.cell (p := ⟨(be.add (q * 3)).block, (be.add (q * 3)).off + 2, none⟩) HBE.out HYK.out); have HYL2 := Aside0.mk (pw_cell_below (below_alloc (Below.refl _ _) (.cells #[.int .u8 K, .slice Av pp.length cv] 57)) (hk2.cell (p := be.add (q * 3)) HBE.out HYL.out)); have HI2 := Aside0.mk hI2; have HB2 := Aside0.mk hb2; have HK2 := Aside0.mk hk2; clear hRv hI2 hb2 hk2 hx HBC))
          have hsz5 := HB2.out.size
          have hsz6 := HSZ.out
          have HKN := Aside0.mk ((HK.out.trans HK2.out).trans (fun k hk => (below_alloc (Below.refl w5.heap.size w5) (.cells #[.int .u8 K, .slice Av pp.length cv] 57)).block k (by have := hk.2; omega) : Rowq.KeptE (fun k => k ≠ g ∧ k < w4.heap.size) w5 (w5.alloc (.cells #[.int .u8 K, .slice Av pp.length cv] 57))))
          have HBN := Aside0.mk (below_alloc (HB.out.trans HB2.out) (.cells #[.int .u8 K, .slice Av pp.length cv] 57))
          have HIN := Aside0.mk (show Ear.Is w.heap.size (fun k => k ≠ g ∧ k < w4.heap.size) (w5.alloc (.cells #[.int .u8 K, .slice Av pp.length cv] 57)) g (signalmanlaw05_FlagCuts.st (signalmanlaw05_awake.J k) t (i + 1)) by rw [HSN.out]; exact HI2.out.below (below_alloc (Below.refl w5.heap.size w5) (.cells #[.int .u8 K, .slice Av pp.length cv] 57)) (fun k hk => Or.inl (Or.inl hk)))
          have HSN2 := Aside0.mk (show w4.heap.size ≤ (w5.alloc (.cells #[.int .u8 K, .slice Av pp.length cv] 57)).heap.size by have := (below_alloc (Below.refl w5.heap.size w5) (.cells #[.int .u8 K, .slice Av pp.length cv] 57)).size; omega)
          clear hsz5 hsz6 HB HK HI HSZ HI2 HB2 HK2
          refine start_ (n := 8) (S := fun W => W.cell? ⟨w5.heap.size, 0, none⟩ = some (.int .u8 K) ∧ W.cell? (be.add (q * 3)) = some (.int .u8 K)) (ds := []) #[false, false, false, false, false, false, false, false] (by kernel_rfl) rfl rfl ⟨by show (w5.alloc (.cells #[.int .u8 K, .slice Av pp.length cv] 57)).cell? ⟨w5.heap.size, 0, none⟩ = _; rw [World.cell?_alloc_mark]; rfl, HYL2.out⟩ (fun hHeld => ?_)
          have n0_ := Aside0.mk (show Rowq.KeptE (fun k => k ≠ g ∧ k < w4.heap.size) w4 (w5.alloc (.cells #[.int .u8 K, .slice Av pp.length cv] 57)).drew from HKN.out)
          have n1_ := Aside0.mk (below_drew1 HBN.out)
          have n2_ := Aside0.mk (HIN.out.below (below_drew1 (Below.refl _ _)) (fun k hk => Or.inl hk))
          have n3_ := Aside0.mk (show w4.heap.size ≤ (w5.alloc (.cells #[.int .u8 K, .slice Av pp.length cv] 57)).drew.heap.size from HSN2.out)
          clear HKN HBN HIN HSN2 HYL2
          have HKN := n0_
          have HBN := n1_
          have HIN := n2_
          have HSN2 := n3_
          clear n0_ n1_ n2_ n3_
          generalize (w5.alloc (.cells #[.int .u8 K, .slice Av pp.length cv] 57)).drew = W0 at HKN HBN HIN HSN2 hHeld ⊢
          refine pure_ (i := 0) (N := some 80) (v := ?_) (a' := ?_) #[true, false, false, false, false, false, false, false] rfl rfl (by kernel_rfl) (fun _ _ _ h => h) (Or.inl ⟨by rfl, ?_⟩) ?_ ?_
          rotate_left
          · intro w'
            go_simp
            with_reducible rfl
          rotate_left
          · simp only [Act.put, List.setIfInBounds_toArray, List.set_cons_zero, List.set_cons_succ, i64_w, i32_w]
            rfl
          refine take_ (i := 1) (N := some 81) (v := ?_) (a' := ?_) #[true, true, false, false, false, false, false, false] rfl rfl (by kernel_rfl) (fun _ _ _ h => h) (Or.inl ⟨by rfl, ?_⟩) hHeld ?_ ?_
          rotate_left
          · intro w' hS'
            obtain ⟨s1_, s2_⟩ := hS'
            go_simp
            with_reducible rfl
          rotate_left
          · simp only [Act.put, List.setIfInBounds_toArray, List.set_cons_zero, List.set_cons_succ, i64_w, i32_w]
            rfl
          refine pure_ (i := 2) (N := some 82) (v := ?_) (a' := ?_) #[true, true, true, false, false, false, false, false] rfl rfl (by kernel_rfl) (fun _ _ _ h => h) (Or.inl ⟨by rfl, ?_⟩) ?_ ?_
          rotate_left
          · intro w'
            go_simp
            with_reducible rfl
          rotate_left
          · simp only [Act.put, List.setIfInBounds_toArray, List.set_cons_zero, List.set_cons_succ, i64_w, i32_w]
            rfl
          refine pure_ (i := 3) (N := some 83) (v := ?_) (a' := ?_) #[true, true, true, true, false, false, false, false] rfl rfl (by kernel_rfl) (fun _ _ _ h => h) (Or.inl ⟨by rfl, ?_⟩) ?_ ?_
          rotate_left
          · intro w'
            go_simp
            with_reducible rfl
          rotate_left
          · simp only [Act.put, List.setIfInBounds_toArray, List.set_cons_zero, List.set_cons_succ, i64_w, i32_w]
            rfl
          refine pure_ (i := 4) (N := some 84) (v := ?_) (a' := ?_) #[true, true, true, true, true, false, false, false] rfl rfl (by kernel_rfl) (fun _ _ _ h => h) (Or.inl ⟨by rfl, ?_⟩) ?_ ?_
          rotate_left
          · intro w'
            go_simp
            with_reducible rfl
          rotate_left
          · simp only [Act.put, List.setIfInBounds_toArray, List.set_cons_zero, List.set_cons_succ, i64_w, i32_w]
            rfl
          refine pure_ (i := 5) (N := some 85) (v := ?_) (a' := ?_) #[true, true, true, true, true, true, false, false] rfl rfl (by kernel_rfl) (fun _ _ _ h => h) (Or.inl ⟨by rfl, ?_⟩) ?_ ?_
          rotate_left
          · intro w'
            go_simp
            with_reducible rfl
          rotate_left
          · simp only [Act.put, List.setIfInBounds_toArray, List.set_cons_zero, List.set_cons_succ, i64_w, i32_w]
            rfl
          refine take_ (i := 6) (N := some 86) (v := ?_) (a' := ?_) #[true, true, true, true, true, true, true, false] rfl rfl (by kernel_rfl) (fun _ _ _ h => h) (Or.inl ⟨by rfl, ?_⟩) hHeld ?_ ?_
          rotate_left
          · intro w' hS'
            obtain ⟨s1_, s2_⟩ := hS'
            go_simp
            with_reducible rfl
          rotate_left
          · simp only [Act.put, List.setIfInBounds_toArray, List.set_cons_zero, List.set_cons_succ, i64_w, i32_w]
            rfl
          refine pure_ (i := 7) (N := some 87) (v := ?_) (a' := ?_) #[true, true, true, true, true, true, true, true] rfl rfl (by kernel_rfl) (fun _ _ _ h => h) (Or.inl ⟨by rfl, ?_⟩) ?_ ?_
          rotate_left
          · intro w'
            go_simp
            with_reducible rfl
          rotate_left
          · simp only [Act.put, List.setIfInBounds_toArray, List.set_cons_zero, List.set_cons_succ, i64_w, i32_w]
            rfl
          refine done_ (by kernel_rfl) ?_
          clear hHeld
          go_wp2
          go_roundw
          case rel => exact ⟨i + 1, by omega, by rw [← HQ1.out, HQE.out]; first | done | rfl | (simp; done), by first | rfl | (simp; done), HIN, HKN, HBN, HSN2⟩
          case measure => (simp [intOf]; omega)
    · obtain rfl : i = t.length := by omega
      have b1 : decide ((t.length : Int) < (t.length : Int)) = false := decide_eq_false (by omega)
      have htl : t.length ≤ 1000000 := HTL.out
      have hy1 : Ear.At wr g2 (.slice none 0 0) 0 false 0 := (HK.out g2 ⟨by have := HG.out; omega, by have := HG.out; omega⟩).trans HY.out
      have hP1 := Ear.Part.start (J := signalmanlaw05_awake.J k) (signalmanlaw05_awake.born (B := w.heap.size) hy1 (by have := HG.out; omega))
      have HT5 := Aside0.mk (HK.out.reads HT4.out (fun ad e hn => ⟨by have := HTB.out ad e hn; omega, by have := HTB.out ad e hn; have := HG.out; omega⟩))
      have HRW5 := Aside0.mk (Kd.R_step HRW.out (fun k hk hlt => HK.out k ⟨fun e => hk.1 e.symm, hlt⟩))
      have HP1 := Aside0.mk hP1
      have HS5 := HSZ
      rw [HQN.out]
      clear HI HK HSZ hlt hi hy1 hP1 HT4 HRW HY HCW
      go_wp2
      obtain ⟨w5, hw5⟩ : ∃ w5 : World, w5 = wr := ⟨_, rfl⟩
      rw [← hw5] at HP1 HB HT5 HRW5 HS5 ⊢
      clear hw5 wr
      go_loopw [18, 19, 20] (fun v18 v19 v20 wr => ∃ m a : Nat, m ≤ cuts.length ∧ a ≤ t.length ∧ v19 = .int .i64 a ∧ v20 = .int .i64 m ∧ Aside0 (Ear.Part (signalmanlaw05_awake.J k) w.heap.size (fun k => k ≠ g2 ∧ k < w5.heap.size) w5 wr g2 (signalmanlaw05_FlagCuts.st (signalmanlaw05_awake.J k) t a) (signalmanlaw05_FlagCuts.ou (signalmanlaw05_awake.J k) t a) v18)) (fun _ _ v20 _ => cuts.length - (intOf v20).toNat)
      case atStart => exact ⟨0, 0, Nat.zero_le _, Nat.zero_le _, rfl, rfl, HP1⟩
      case round =>
        clear HP1
        obtain ⟨m, a, hm, ha, rfl, rfl, HP⟩ := hrel
        by_cases hm1 : m < cuts.length
        · have b1 : decide ((m : Int) < (cuts.length : Int)) = true := decide_eq_true (by omega)
          by_cases ha1 : a < t.length
          · have b2 : decide ((a : Int) < (t.length : Int)) = true := decide_eq_true (by omega)
            have p1 := eq_true (show 0 ≤ (m : Int) by omega)
            have p2 := eq_true (show (m : Int) < (cuts.length : Int) by omega)
            obtain ⟨ac, e, hx⟩ := ReadsOf.at_ (Kd.reads_of_C (enc := Value.int .u8) (d := (0 : Int)) (h1 := fun _ => rfl) (Kd.C_below HRC.out (HB.out.trans HP.out.below))) (m : Int) (by omega) (by omega)
            cases e
            rw [Base.rdOf_nat 0 cuts m hm1, Int.toNat_natCast] at hx
            have hz := HWC.out cuts[m] (List.getElem_mem hm1)
            generalize cuts[m] = z at hx hz
            obtain ⟨z, rfl⟩ := Int.eq_ofNat_of_zero_le hz.1
            by_cases hgt : t.length < a + z
            · have b3 : decide ((t.length : Int) < (a : Int) + (z : Int)) = true := decide_eq_true (by omega)
              as_aux_lemma =>
                obtain ⟨i0_, hi0_, _, hsz0_, _⟩ := info_parts info4
                obtain ⟨A5, hcut, hA5, hC5⟩ := print_mid_of (P := Try.prog) Value.bool false 26 4 .i64 .i64 Try.underlying26 hi0_ hsz0_ At ct t (a : Int) ((t.length : Int)) (by omega) (by omega) (by omega) HCT.out
                rw [Int.toNat_natCast] at hcut hA5 hC5
                simp only [Int.toNat_natCast] at hcut hA5 hC5
                have hcutr := Ear.runF_cut (signalmanlaw05_awake.J k) ⟨[], 0, false, 0⟩ t a (t.length) (by omega)
                have hup := Ear.inv0.upto (J := signalmanlaw05_awake.J k) t a ha
                have hul : ((t.take (t.length)).drop a).length ≤ 1000000 := by rw [List.length_drop, List.length_take]; omega
                have hr3 := Rowq.reads_block (hA5 w3 HRT.out)
                have hr6 := hA5 wr (HP.out.kept.reads HT5.out (fun ad e hn => ⟨by have := HTB.out ad e hn; have := HG.out; omega, by have := HTB.out ad e hn; have := HG.out; have := HS5.out; omega⟩))
                have hst : signalmanlaw05_FlagCuts.st (signalmanlaw05_awake.J k) t (t.length) = (Ear.runF (signalmanlaw05_awake.J k) (signalmanlaw05_FlagCuts.st (signalmanlaw05_awake.J k) t a) ((t.take (t.length)).drop a)).1 := by unfold signalmanlaw05_FlagCuts.st; rw [hcutr]
                have hou : signalmanlaw05_FlagCuts.ou (signalmanlaw05_awake.J k) t (t.length) = signalmanlaw05_FlagCuts.ou (signalmanlaw05_awake.J k) t a ++ (Ear.runF (signalmanlaw05_awake.J k) (signalmanlaw05_FlagCuts.st (signalmanlaw05_awake.J k) t a) ((t.take (t.length)).drop a)).2 := by unfold signalmanlaw05_FlagCuts.ou signalmanlaw05_FlagCuts.st; rw [hcutr]
                have hol : (signalmanlaw05_FlagCuts.ou (signalmanlaw05_awake.J k) t a).length ≤ a := hup.2.2
                have hrl := (hup.1.run (J := signalmanlaw05_awake.J k) ((t.take (t.length)).drop a)).2.2
                have hrl : (Ear.runF (signalmanlaw05_awake.J k) (signalmanlaw05_FlagCuts.st (signalmanlaw05_awake.J k) t a) ((t.take (t.length)).drop a)).2.length ≤ ((t.take (t.length)).drop a).length := hrl
                obtain ⟨o2, ho2⟩ : ∃ o2, o2 = (Ear.runF (signalmanlaw05_awake.J k) (signalmanlaw05_FlagCuts.st (signalmanlaw05_awake.J k) t a) ((t.take (t.length)).drop a)).2 := ⟨_, rfl⟩
                have hbits := HP.out.hears HJ.out (fun k hk => hk.2) hup.1 A5 (ct - a) _ (by omega) (by have h1 : (signalmanlaw05_FlagCuts.st (signalmanlaw05_awake.J k) t a).ones ≤ 0 + a := hup.2.1; show (signalmanlaw05_FlagCuts.st (signalmanlaw05_awake.J k) t a).ones + _ < 1000000000; omega) hr6 (fun ad e hn => ⟨by have := hr3 ad e hn; have := HRT3.out; have := HG.out; omega, by have := hr3 ad e hn; have := HRT3.out; have := HG.out; have := HS5.out; omega⟩) (signalmanlaw05_FlagCuts.st (signalmanlaw05_awake.J k) t (t.length)) o2 (by rw [hst, ho2])
                rw [← ho2] at hou hrl
                generalize signalmanlaw05_FlagCuts.ou (signalmanlaw05_awake.J k) t a = oo at hbits hou hol
                clear hcutr hst ho2 hup
                generalize (t.take (t.length)).drop a = u at hcut hbits hul hrl hr3 hr6 hA5 hC5
                have HLO := Aside0.mk (show (oo.length + o2.length) * 32 ≤ 140737488355328 by omega)
                have HBITS := Aside0.mk hbits
                have HOU := Aside0.mk hou
                clear hA5 hC5 hi0_ hsz0_ hr3 hr6 hbits hou hrl hol hul HP
                go_wp2_with (first
                | ((with_reducible refine gate_callee (f := 23) rfl ?_); refine goesL_ (some 121) rfl rfl Try.func23 (by kernel_rfl) rfl #[.pointer (some ⟨g2, 0, none⟩), .slice A5 u.length (ct - a)] rfl (by (try simp only [List.map_toArray, List.map_cons, List.map_nil]); first | done | rfl | (simp [Act.eval, *]; done)) ?_; (with_reducible refine (HBITS.out).mono ?_); rintro e w6 ⟨A2, c2, rfl, hrdy⟩; refine ⟨_, rfl, ?_⟩; have HRDY := Aside0.mk hrdy; clear hrdy HBITS)
                | ((with_reducible refine gate_builtin (b := .append) (xs := #[.tmp 115, .tmp 121]) rfl ?_); at_builtin; (obtain ⟨ok_, okp_, hr1, hr2, hr3, hr4, hr5, hr6⟩ := HRDY.out.ex); refine Kd.R_append_rows Ear.kH (w0 := w6) (W := w6) w5.heap.size rfl (.tmp 115) (.tmp 121) 49 57 (.agg #[(.int .u8 0), (.slice none 0 0)]) 32 rfl Try.underlying49 Ear.info57 rfl (by decide) (by omega) u18 oo o2 A2 o2.length c2 ok_ okp_ rfl rfl hr1 hr2 (fun _ _ h => h) hr3 hr4 (Below.refl _ _) hr5 ?aL ?_; (case aL => exact HLO.out); intro v1 w7 hR7 _ hg7 _; have HPN := Aside0.mk (hr6 v1 w7 hR7 hg7); clear hr1 hr2 hr3 hr4 hr5 hr6 hR7 hg7 HRDY))
                have hPN := HPN.out
                rw [← HOU.out] at hPN
                go_roundw
                case rel => exact ⟨m + 1, t.length, by omega, by omega, by first | rfl | (congr 1; omega) | (simp; done), congrArg (Value.int .i64) (Base.w64s m (Nat.lt_of_lt_of_le hm1 HRC.out.2.1)), ⟨hPN⟩⟩
                case measure => (rw [Base.w64s m (Nat.lt_of_lt_of_le hm1 HRC.out.2.1)]; simp [intOf]; omega)

            · have b3 : decide ((t.length : Int) < (a : Int) + (z : Int)) = false := decide_eq_false (by omega)
              as_aux_lemma =>
                obtain ⟨i0_, hi0_, _, hsz0_, _⟩ := info_parts info4
                obtain ⟨A5, hcut, hA5, hC5⟩ := print_mid_of (P := Try.prog) Value.bool false 26 4 .i64 .i64 Try.underlying26 hi0_ hsz0_ At ct t (a : Int) ((a : Int) + (z : Int)) (by omega) (by omega) (by omega) HCT.out
                rw [Int.toNat_natCast] at hcut hA5 hC5
                rw [show ((a : Int) + (z : Int)).toNat = a + z by omega] at hcut hA5 hC5
                have hcutr := Ear.runF_cut (signalmanlaw05_awake.J k) ⟨[], 0, false, 0⟩ t a (a + z) (by omega)
                have hup := Ear.inv0.upto (J := signalmanlaw05_awake.J k) t a ha
                have hul : ((t.take (a + z)).drop a).length ≤ 1000000 := by rw [List.length_drop, List.length_take]; omega
                have hr3 := Rowq.reads_block (hA5 w3 HRT.out)
                have hr6 := hA5 wr (HP.out.kept.reads HT5.out (fun ad e hn => ⟨by have := HTB.out ad e hn; have := HG.out; omega, by have := HTB.out ad e hn; have := HG.out; have := HS5.out; omega⟩))
                have hst : signalmanlaw05_FlagCuts.st (signalmanlaw05_awake.J k) t (a + z) = (Ear.runF (signalmanlaw05_awake.J k) (signalmanlaw05_FlagCuts.st (signalmanlaw05_awake.J k) t a) ((t.take (a + z)).drop a)).1 := by unfold signalmanlaw05_FlagCuts.st; rw [hcutr]
                have hou : signalmanlaw05_FlagCuts.ou (signalmanlaw05_awake.J k) t (a + z) = signalmanlaw05_FlagCuts.ou (signalmanlaw05_awake.J k) t a ++ (Ear.runF (signalmanlaw05_awake.J k) (signalmanlaw05_FlagCuts.st (signalmanlaw05_awake.J k) t a) ((t.take (a + z)).drop a)).2 := by unfold signalmanlaw05_FlagCuts.ou signalmanlaw05_FlagCuts.st; rw [hcutr]
                have hol : (signalmanlaw05_FlagCuts.ou (signalmanlaw05_awake.J k) t a).length ≤ a := hup.2.2
                have hrl := (hup.1.run (J := signalmanlaw05_awake.J k) ((t.take (a + z)).drop a)).2.2
                have hrl : (Ear.runF (signalmanlaw05_awake.J k) (signalmanlaw05_FlagCuts.st (signalmanlaw05_awake.J k) t a) ((t.take (a + z)).drop a)).2.length ≤ ((t.take (a + z)).drop a).length := hrl
                obtain ⟨o2, ho2⟩ : ∃ o2, o2 = (Ear.runF (signalmanlaw05_awake.J k) (signalmanlaw05_FlagCuts.st (signalmanlaw05_awake.J k) t a) ((t.take (a + z)).drop a)).2 := ⟨_, rfl⟩
                have hbits := HP.out.hears HJ.out (fun k hk => hk.2) hup.1 A5 (ct - a) _ (by omega) (by have h1 : (signalmanlaw05_FlagCuts.st (signalmanlaw05_awake.J k) t a).ones ≤ 0 + a := hup.2.1; show (signalmanlaw05_FlagCuts.st (signalmanlaw05_awake.J k) t a).ones + _ < 1000000000; omega) hr6 (fun ad e hn => ⟨by have := hr3 ad e hn; have := HRT3.out; have := HG.out; omega, by have := hr3 ad e hn; have := HRT3.out; have := HG.out; have := HS5.out; omega⟩) (signalmanlaw05_FlagCuts.st (signalmanlaw05_awake.J k) t (a + z)) o2 (by rw [hst, ho2])
                rw [← ho2] at hou hrl
                generalize signalmanlaw05_FlagCuts.ou (signalmanlaw05_awake.J k) t a = oo at hbits hou hol
                clear hcutr hst ho2 hup
                generalize (t.take (a + z)).drop a = u at hcut hbits hul hrl hr3 hr6 hA5 hC5
                have HLO := Aside0.mk (show (oo.length + o2.length) * 32 ≤ 140737488355328 by omega)
                have HBITS := Aside0.mk hbits
                have HOU := Aside0.mk hou
                clear hA5 hC5 hi0_ hsz0_ hr3 hr6 hbits hou hrl hol hul HP
                go_wp2_with (first
                | ((with_reducible refine gate_callee (f := 23) rfl ?_); refine goesL_ (some 121) rfl rfl Try.func23 (by kernel_rfl) rfl #[.pointer (some ⟨g2, 0, none⟩), .slice A5 u.length (ct - a)] rfl (by (try simp only [List.map_toArray, List.map_cons, List.map_nil]); first | done | rfl | (simp [Act.eval, *]; done)) ?_; (with_reducible refine (HBITS.out).mono ?_); rintro e w6 ⟨A2, c2, rfl, hrdy⟩; refine ⟨_, rfl, ?_⟩; have HRDY := Aside0.mk hrdy; clear hrdy HBITS)
                | ((with_reducible refine gate_builtin (b := .append) (xs := #[.tmp 115, .tmp 121]) rfl ?_); at_builtin; (obtain ⟨ok_, okp_, hr1, hr2, hr3, hr4, hr5, hr6⟩ := HRDY.out.ex); refine Kd.R_append_rows Ear.kH (w0 := w6) (W := w6) w5.heap.size rfl (.tmp 115) (.tmp 121) 49 57 (.agg #[(.int .u8 0), (.slice none 0 0)]) 32 rfl Try.underlying49 Ear.info57 rfl (by decide) (by omega) u18 oo o2 A2 o2.length c2 ok_ okp_ rfl rfl hr1 hr2 (fun _ _ h => h) hr3 hr4 (Below.refl _ _) hr5 ?aL ?_; (case aL => exact HLO.out); intro v1 w7 hR7 _ hg7 _; have HPN := Aside0.mk (hr6 v1 w7 hR7 hg7); clear hr1 hr2 hr3 hr4 hr5 hr6 hR7 hg7 HRDY))
                have hPN := HPN.out
                rw [← HOU.out] at hPN
                go_roundw
                case rel => exact ⟨m + 1, a + z, by omega, by omega, by first | rfl | (congr 1; omega) | (simp; done), congrArg (Value.int .i64) (Base.w64s m (Nat.lt_of_lt_of_le hm1 HRC.out.2.1)), ⟨hPN⟩⟩
                case measure => (rw [Base.w64s m (Nat.lt_of_lt_of_le hm1 HRC.out.2.1)]; simp [intOf]; omega)

          · have b2 : decide ((a : Int) < (t.length : Int)) = false := decide_eq_false (by omega)
            as_aux_lemma =>
              obtain ⟨i0_, hi0_, _, hsz0_, _⟩ := info_parts info4
              obtain ⟨A5, hcut, hA5, hC5⟩ := print_drop_of (P := Try.prog) Value.bool false 26 4 .i64 Try.underlying26 hi0_ hsz0_ At ct t (a : Int) (by omega) (by omega) HCT.out
              rw [Int.toNat_natCast] at hcut hA5 hC5
              rw [show t.drop a = (t.take t.length).drop a by rw [List.take_length]] at hcut hA5 hC5
              have hcutr := Ear.runF_cut (signalmanlaw05_awake.J k) ⟨[], 0, false, 0⟩ t a (t.length) (by omega)
              have hup := Ear.inv0.upto (J := signalmanlaw05_awake.J k) t a ha
              have hul : ((t.take (t.length)).drop a).length ≤ 1000000 := by rw [List.length_drop, List.length_take]; omega
              have hr3 := Rowq.reads_block (hA5 w3 HRT.out)
              have hr6 := hA5 wr (HP.out.kept.reads HT5.out (fun ad e hn => ⟨by have := HTB.out ad e hn; have := HG.out; omega, by have := HTB.out ad e hn; have := HG.out; have := HS5.out; omega⟩))
              have hst : signalmanlaw05_FlagCuts.st (signalmanlaw05_awake.J k) t (t.length) = (Ear.runF (signalmanlaw05_awake.J k) (signalmanlaw05_FlagCuts.st (signalmanlaw05_awake.J k) t a) ((t.take (t.length)).drop a)).1 := by unfold signalmanlaw05_FlagCuts.st; rw [hcutr]
              have hou : signalmanlaw05_FlagCuts.ou (signalmanlaw05_awake.J k) t (t.length) = signalmanlaw05_FlagCuts.ou (signalmanlaw05_awake.J k) t a ++ (Ear.runF (signalmanlaw05_awake.J k) (signalmanlaw05_FlagCuts.st (signalmanlaw05_awake.J k) t a) ((t.take (t.length)).drop a)).2 := by unfold signalmanlaw05_FlagCuts.ou signalmanlaw05_FlagCuts.st; rw [hcutr]
              have hol : (signalmanlaw05_FlagCuts.ou (signalmanlaw05_awake.J k) t a).length ≤ a := hup.2.2
              have hrl := (hup.1.run (J := signalmanlaw05_awake.J k) ((t.take (t.length)).drop a)).2.2
              have hrl : (Ear.runF (signalmanlaw05_awake.J k) (signalmanlaw05_FlagCuts.st (signalmanlaw05_awake.J k) t a) ((t.take (t.length)).drop a)).2.length ≤ ((t.take (t.length)).drop a).length := hrl
              obtain ⟨o2, ho2⟩ : ∃ o2, o2 = (Ear.runF (signalmanlaw05_awake.J k) (signalmanlaw05_FlagCuts.st (signalmanlaw05_awake.J k) t a) ((t.take (t.length)).drop a)).2 := ⟨_, rfl⟩
              have hbits := HP.out.hears HJ.out (fun k hk => hk.2) hup.1 A5 (ct - a) _ (by omega) (by have h1 : (signalmanlaw05_FlagCuts.st (signalmanlaw05_awake.J k) t a).ones ≤ 0 + a := hup.2.1; show (signalmanlaw05_FlagCuts.st (signalmanlaw05_awake.J k) t a).ones + _ < 1000000000; omega) hr6 (fun ad e hn => ⟨by have := hr3 ad e hn; have := HRT3.out; have := HG.out; omega, by have := hr3 ad e hn; have := HRT3.out; have := HG.out; have := HS5.out; omega⟩) (signalmanlaw05_FlagCuts.st (signalmanlaw05_awake.J k) t (t.length)) o2 (by rw [hst, ho2])
              rw [← ho2] at hou hrl
              generalize signalmanlaw05_FlagCuts.ou (signalmanlaw05_awake.J k) t a = oo at hbits hou hol
              clear hcutr hst ho2 hup
              generalize (t.take (t.length)).drop a = u at hcut hbits hul hrl hr3 hr6 hA5 hC5
              have HLO := Aside0.mk (show (oo.length + o2.length) * 32 ≤ 140737488355328 by omega)
              have HBITS := Aside0.mk hbits
              have HOU := Aside0.mk hou
              clear hA5 hC5 hi0_ hsz0_ hr3 hr6 hbits hou hrl hol hul HP
              go_wp2_with (first
              | ((with_reducible refine gate_callee (f := 23) rfl ?_); refine goesL_ (some 129) rfl rfl Try.func23 (by kernel_rfl) rfl #[.pointer (some ⟨g2, 0, none⟩), .slice A5 u.length (ct - a)] rfl (by (try simp only [List.map_toArray, List.map_cons, List.map_nil]); first | done | rfl | (simp [Act.eval, *]; done)) ?_; (with_reducible refine (HBITS.out).mono ?_); rintro e w6 ⟨A2, c2, rfl, hrdy⟩; refine ⟨_, rfl, ?_⟩; have HRDY := Aside0.mk hrdy; clear hrdy HBITS)
              | ((with_reducible refine gate_builtin (b := .append) (xs := #[.tmp 124, .tmp 129]) rfl ?_); at_builtin; (obtain ⟨ok_, okp_, hr1, hr2, hr3, hr4, hr5, hr6⟩ := HRDY.out.ex); refine Kd.R_append_rows Ear.kH (w0 := w6) (W := w6) w5.heap.size rfl (.tmp 124) (.tmp 129) 49 57 (.agg #[(.int .u8 0), (.slice none 0 0)]) 32 rfl Try.underlying49 Ear.info57 rfl (by decide) (by omega) u18 oo o2 A2 o2.length c2 ok_ okp_ rfl rfl hr1 hr2 (fun _ _ h => h) hr3 hr4 (Below.refl _ _) hr5 ?aL ?_; (case aL => exact HLO.out); intro v1 w7 hR7 _ hg7 _; have hPP := hr6 v1 w7 hR7 hg7; have HB7 := Aside0.mk (HB.out.trans hPP.below); have hRW7 := Kd.R_step HRW5.out (fun k hk hlt => hPP.kept k ⟨fun e => hk.2 e.symm, hlt⟩); have HCW7 := Aside0.mk (Kd.R_reads' hRW7).2.2; (obtain ⟨ot, hot⟩ : ∃ ot, ot = oo ++ o2 := ⟨_, rfl⟩); rw [← hot] at hR7; (obtain ⟨Ao, co, rfl⟩ := Kd.R_slice hR7); have HCO7 := Aside0.mk (Kd.R_reads' hR7).2.2; have HE7 := Aside0.mk (hot.trans (HOU.out.symm.trans (HOUT.out.trans HO2.out))); clear hr1 hr2 hr3 hr4 hr5 hr6 hR7 hg7 HRDY hPP hRW7 hot)
              | ((with_reducible refine gate_callee (f := 25) rfl ?_); (try (refine gate_guard (by rfl) ?_; dsimp only)); refine goesL_ (some 138) rfl rfl Try.func25 (by kernel_rfl) rfl #[.slice Ao ot.length co, .slice Aw l.length cw] rfl (by (try simp only [List.map_toArray, List.map_cons, List.map_nil]); first | done | rfl | (simp [Act.eval, *]; done)) ?_; (with_reducible refine (signalmanlaw05_heard.yes Ao Aw co cw ot l _ HCO7.out HCW7.out (by rw [HE7.out, List.length_map]; have := HL.out; omega) HE7.out).mono ?_); rintro e w8 ⟨rfl, hd⟩; refine ⟨_, rfl, ?_⟩; have HB8 := Aside0.mk (below_step HB7.out hd.below); clear hd))
              go_ret
              exact ⟨rfl, HB8.out⟩

        · have b1 : decide ((m : Int) < (cuts.length : Int)) = false := decide_eq_false (by omega)
          as_aux_lemma =>
            obtain ⟨i0_, hi0_, _, hsz0_, _⟩ := info_parts info4
            obtain ⟨A5, hcut, hA5, hC5⟩ := print_drop_of (P := Try.prog) Value.bool false 26 4 .i64 Try.underlying26 hi0_ hsz0_ At ct t (a : Int) (by omega) (by omega) HCT.out
            rw [Int.toNat_natCast] at hcut hA5 hC5
            rw [show t.drop a = (t.take t.length).drop a by rw [List.take_length]] at hcut hA5 hC5
            have hcutr := Ear.runF_cut (signalmanlaw05_awake.J k) ⟨[], 0, false, 0⟩ t a (t.length) (by omega)
            have hup := Ear.inv0.upto (J := signalmanlaw05_awake.J k) t a ha
            have hul : ((t.take (t.length)).drop a).length ≤ 1000000 := by rw [List.length_drop, List.length_take]; omega
            have hr3 := Rowq.reads_block (hA5 w3 HRT.out)
            have hr6 := hA5 wr (HP.out.kept.reads HT5.out (fun ad e hn => ⟨by have := HTB.out ad e hn; have := HG.out; omega, by have := HTB.out ad e hn; have := HG.out; have := HS5.out; omega⟩))
            have hst : signalmanlaw05_FlagCuts.st (signalmanlaw05_awake.J k) t (t.length) = (Ear.runF (signalmanlaw05_awake.J k) (signalmanlaw05_FlagCuts.st (signalmanlaw05_awake.J k) t a) ((t.take (t.length)).drop a)).1 := by unfold signalmanlaw05_FlagCuts.st; rw [hcutr]
            have hou : signalmanlaw05_FlagCuts.ou (signalmanlaw05_awake.J k) t (t.length) = signalmanlaw05_FlagCuts.ou (signalmanlaw05_awake.J k) t a ++ (Ear.runF (signalmanlaw05_awake.J k) (signalmanlaw05_FlagCuts.st (signalmanlaw05_awake.J k) t a) ((t.take (t.length)).drop a)).2 := by unfold signalmanlaw05_FlagCuts.ou signalmanlaw05_FlagCuts.st; rw [hcutr]
            have hol : (signalmanlaw05_FlagCuts.ou (signalmanlaw05_awake.J k) t a).length ≤ a := hup.2.2
            have hrl := (hup.1.run (J := signalmanlaw05_awake.J k) ((t.take (t.length)).drop a)).2.2
            have hrl : (Ear.runF (signalmanlaw05_awake.J k) (signalmanlaw05_FlagCuts.st (signalmanlaw05_awake.J k) t a) ((t.take (t.length)).drop a)).2.length ≤ ((t.take (t.length)).drop a).length := hrl
            obtain ⟨o2, ho2⟩ : ∃ o2, o2 = (Ear.runF (signalmanlaw05_awake.J k) (signalmanlaw05_FlagCuts.st (signalmanlaw05_awake.J k) t a) ((t.take (t.length)).drop a)).2 := ⟨_, rfl⟩
            have hbits := HP.out.hears HJ.out (fun k hk => hk.2) hup.1 A5 (ct - a) _ (by omega) (by have h1 : (signalmanlaw05_FlagCuts.st (signalmanlaw05_awake.J k) t a).ones ≤ 0 + a := hup.2.1; show (signalmanlaw05_FlagCuts.st (signalmanlaw05_awake.J k) t a).ones + _ < 1000000000; omega) hr6 (fun ad e hn => ⟨by have := hr3 ad e hn; have := HRT3.out; have := HG.out; omega, by have := hr3 ad e hn; have := HRT3.out; have := HG.out; have := HS5.out; omega⟩) (signalmanlaw05_FlagCuts.st (signalmanlaw05_awake.J k) t (t.length)) o2 (by rw [hst, ho2])
            rw [← ho2] at hou hrl
            generalize signalmanlaw05_FlagCuts.ou (signalmanlaw05_awake.J k) t a = oo at hbits hou hol
            clear hcutr hst ho2 hup
            generalize (t.take (t.length)).drop a = u at hcut hbits hul hrl hr3 hr6 hA5 hC5
            have HLO := Aside0.mk (show (oo.length + o2.length) * 32 ≤ 140737488355328 by omega)
            have HBITS := Aside0.mk hbits
            have HOU := Aside0.mk hou
            clear hA5 hC5 hi0_ hsz0_ hr3 hr6 hbits hou hrl hol hul HP
            go_wp2_with (first
            | ((with_reducible refine gate_callee (f := 23) rfl ?_); refine goesL_ (some 129) rfl rfl Try.func23 (by kernel_rfl) rfl #[.pointer (some ⟨g2, 0, none⟩), .slice A5 u.length (ct - a)] rfl (by (try simp only [List.map_toArray, List.map_cons, List.map_nil]); first | done | rfl | (simp [Act.eval, *]; done)) ?_; (with_reducible refine (HBITS.out).mono ?_); rintro e w6 ⟨A2, c2, rfl, hrdy⟩; refine ⟨_, rfl, ?_⟩; have HRDY := Aside0.mk hrdy; clear hrdy HBITS)
            | ((with_reducible refine gate_builtin (b := .append) (xs := #[.tmp 124, .tmp 129]) rfl ?_); at_builtin; (obtain ⟨ok_, okp_, hr1, hr2, hr3, hr4, hr5, hr6⟩ := HRDY.out.ex); refine Kd.R_append_rows Ear.kH (w0 := w6) (W := w6) w5.heap.size rfl (.tmp 124) (.tmp 129) 49 57 (.agg #[(.int .u8 0), (.slice none 0 0)]) 32 rfl Try.underlying49 Ear.info57 rfl (by decide) (by omega) u18 oo o2 A2 o2.length c2 ok_ okp_ rfl rfl hr1 hr2 (fun _ _ h => h) hr3 hr4 (Below.refl _ _) hr5 ?aL ?_; (case aL => exact HLO.out); intro v1 w7 hR7 _ hg7 _; have hPP := hr6 v1 w7 hR7 hg7; have HB7 := Aside0.mk (HB.out.trans hPP.below); have hRW7 := Kd.R_step HRW5.out (fun k hk hlt => hPP.kept k ⟨fun e => hk.2 e.symm, hlt⟩); have HCW7 := Aside0.mk (Kd.R_reads' hRW7).2.2; (obtain ⟨ot, hot⟩ : ∃ ot, ot = oo ++ o2 := ⟨_, rfl⟩); rw [← hot] at hR7; (obtain ⟨Ao, co, rfl⟩ := Kd.R_slice hR7); have HCO7 := Aside0.mk (Kd.R_reads' hR7).2.2; have HE7 := Aside0.mk (hot.trans (HOU.out.symm.trans (HOUT.out.trans HO2.out))); clear hr1 hr2 hr3 hr4 hr5 hr6 hR7 hg7 HRDY hPP hRW7 hot)
            | ((with_reducible refine gate_callee (f := 25) rfl ?_); (try (refine gate_guard (by rfl) ?_; dsimp only)); refine goesL_ (some 138) rfl rfl Try.func25 (by kernel_rfl) rfl #[.slice Ao ot.length co, .slice Aw l.length cw] rfl (by (try simp only [List.map_toArray, List.map_cons, List.map_nil]); first | done | rfl | (simp [Act.eval, *]; done)) ?_; (with_reducible refine (signalmanlaw05_heard.yes Ao Aw co cw ot l _ HCO7.out HCW7.out (by rw [HE7.out, List.length_map]; have := HL.out; omega) HE7.out).mono ?_); rintro e w8 ⟨rfl, hd⟩; refine ⟨_, rfl, ?_⟩; have HB8 := Aside0.mk (below_step HB7.out hd.below); clear hd))
            go_ret
            exact ⟨rfl, HB8.out⟩
def signalmanlaw05_FlagCuts.Pure : Prop := ∀ (ll : List (List Int)) (p how : List Int), (∀ q ∈ ll, ∀ x ∈ q, 0 ≤ x ∧ x < 256) → (∀ x ∈ p, 0 ≤ x ∧ x < 256) → (∀ x ∈ how, 0 ≤ x ∧ x < 256) → ll.length ≤ 9223372036854775807 → ∃ (k : Nat) (b : Bool), signalmanlaw05_awake.f k = some true ∧ signalmanlaw05_short.f k ll = some b ∧
    (b = true → p.length ≤ 200 → ∃ t l lost, signalmanlaw05_stream.f k ll p how = some t ∧ t.length ≤ 1000000 ∧ signalmanref01_Hear.f k t = some (l, lost) ∧ l.length ≤ 1000000 ∧
      signalmanlaw05_FlagCuts.ou (signalmanlaw05_awake.J k) t t.length = l.map (fun x => (x.f0, x.f1)) ∧ ∃ qq : Nat → Nat, qq 0 = 0 ∧ qq t.length = l.length ∧ (∀ i, i ≤ t.length → qq i ≤ i) ∧ ∀ i (hi : i < t.length), signalmanlaw05_FlagCuts.Tells l i (Ear.bitF (signalmanlaw05_awake.J k) (signalmanlaw05_FlagCuts.st (signalmanlaw05_awake.J k) t i) t[i]).2 (qq i) (qq (i + 1)))
theorem signalmanlaw05_FlagCuts.walk (P : signalmanlaw05_FlagCuts.Pure) (A Aj Ah Ac : Option Addr) (c cj ch cc : Nat) (ll : List (List Int)) (p how cuts : List Int) (w : World) (hr : Kd.C (Kd.slice 5 (Kd.int .u8)) w A ll.length ll) (hc : ll.length ≤ c) (hrp : Kd.C (Kd.int .u8) w Aj p.length p) (hcp : p.length ≤ cj) (hrh : Kd.C (Kd.int .u8) w Ah how.length how) (hch : how.length ≤ ch) (hrc : Kd.C (Kd.int .u8) w Ac cuts.length cuts) (hcc : cuts.length ≤ cc)
    (hw : ∀ q ∈ ll, ∀ x ∈ q, 0 ≤ x ∧ x < 256) (hwp : ∀ x ∈ p, 0 ≤ x ∧ x < 256) (hwh : ∀ x ∈ how, 0 ≤ x ∧ x < 256) (hwc : ∀ x ∈ cuts, 0 ≤ x ∧ x < 256) :
    Calls Try.prog 6 #[.slice A ll.length c, .slice Aj p.length cj, .slice Ah how.length ch, .slice Ac cuts.length cc] w fun e w' => e = .returned (.bool true) ∧ Below w.heap.size w w' := by
  obtain ⟨k, b, h1, h2, h3⟩ := P ll p how hw hwp hwh hr.2.1
  cases b with
  | false => exact signalmanlaw05_FlagCuts.e_short k h1 A Aj Ah Ac c cj ch cc ll p how cuts w hr hc h2
  | true =>
    by_cases hp : p.length ≤ 200
    · obtain ⟨t, l, lost, h4, h5, h6, h7, h8, qq, h9, h10, h11, h12⟩ := h3 rfl hp
      exact signalmanlaw05_FlagCuts.main k h1 A Aj Ah Ac c cj ch cc ll p how cuts w hr hc hrp hcp hrh hch hrc hcc hwc h2 hp t h4 h5 l lost h6 h7 h8 qq h9 h10 h11 h12
    · exact signalmanlaw05_FlagCuts.e_junk k h1 A Aj Ah Ac c cj ch cc ll p how cuts w hr hc h2 (by omega)

end Go.Proofs.Ytonhgiclaieamaa.MFlagCuts
