/- A part of the proof of the given statement that each law names; no condition. Written by a program of this session's own (wip/tools/myprint.py, over the kit's print); Lean checks it. -/
import Derived.Test.YtonhgiclaieamaaMFlagHearsx0
import Derived.Test.YtonhgiclaieamaaMFlagHearsx2
import Derived.Test.YtonhgiclaieamaaMFlagHearsx3
import Derived.Test.YtonhgiclaieamaaMFlagHearsx5
import Derived.Test.YtonhgiclaieamaaMFlagHearsx7
namespace Go.Proofs.Ytonhgiclaieamaa.MFlagHears
open Go.RowKit Go.Proofs.Ytonhgiclaieamaa Go.Proofs.YtonhgiclaieamaaW.PrintWords Go.Proofs.YtonhgiclaieamaaW.PrintLast Go.Proofs.YtonhgiclaieamaaW.PrintMore
attribute [local go_sem] max2_int min2_int max_two min_two max_three min_three max_four min_four   -- for this text's walks alone
set_option linter.unusedVariables false
set_option linter.unusedSimpArgs false

/-! ### signalmanlaw05_heard: function 25 -/
/-- One thing heard, out of a list of them. -/
def signalmanlaw05_heard.rdH (xs : List (Int × List Int)) (i : Int) : Int × List Int := xs.getD i.toNat (0, [])
theorem signalmanlaw05_heard.atH {w : World} {A : Option Addr} {n : Nat} {xs : List (Int × List Int)} (h : Kd.C Ear.kH w A n xs) (i : Int) (h0 : 0 ≤ i) (h1 : i < n) : ∃ ad A1 c1, A = some ad ∧ w.cell? (ad.add (i.toNat * 2)) = some (.int .u8 (signalmanlaw05_heard.rdH xs i).1) ∧ w.cell? ⟨(ad.add (i.toNat * 2)).block, (ad.add (i.toNat * 2)).off + 1, none⟩ = some (.slice A1 (signalmanlaw05_heard.rdH xs i).2.length c1) ∧ (signalmanlaw05_heard.rdH xs i).2.length ≤ c1 ∧ (Kd.int .u8).C w A1 (signalmanlaw05_heard.rdH xs i).2.length (signalmanlaw05_heard.rdH xs i).2 := by
  obtain ⟨ad, c, e, _, hK, hc0⟩ := Kd.C_get h ((0 : Int), ([] : List Int)) i h0 h1
  have hc : ∀ j u, c[j]? = some u → w.cell? (ad.add (i.toNat * 2 + j)) = some u := hc0
  obtain ⟨_, _, rfl, rfl, ⟨A1, c1, rfl, l1, g1⟩⟩ := hK
  exact ⟨ad, A1, c1, e, hc 0 _ rfl, by rw [← add_field _ _ 1 (by omega)]; exact hc 1 _ rfl, l1, g1⟩
set_option maxHeartbeats 8000000 in
set_option maxRecDepth 100000 in
theorem signalmanlaw05_heard.yes0 (A0 A1 : Option Addr) (c0 c1 n : Nat) (l0 : List (Int × List Int)) (l1 : List S61) (w : World) (hr0 : Kd.C Ear.kH w A0 n l0) (hr1 : Kd.C k61 w A1 n l1) (hsm : n ≤ 1000000000) (he : ∀ i : Nat, i < n → (rd_T61 l1 (i : Int)).f0 = (signalmanlaw05_heard.rdH l0 (i : Int)).1 ∧ (rd_T61 l1 (i : Int)).f1 = (signalmanlaw05_heard.rdH l0 (i : Int)).2) :
    Calls Try.prog 25 #[.slice A0 n c0, .slice A1 n c1] w fun e w' => e = .returned (.bool true) ∧ Drawn0 w w' := by
  have HR0 := Aside0.mk hr0
  have HR1 := Aside0.mk hr1
  have HE := Aside0.mk he
  clear hr0 hr1 he
  go_enter Try.func25, Try.ntmps25
  go_wp2
  go_loopw [5] (fun v5 wr => ∃ i : Nat, i ≤ n ∧ v5 = .int .i64 i ∧ Aside0 (Drawn0 w wr)) (fun v5 _ => n - (intOf v5).toNat)
  case atStart => exact ⟨0, Nat.zero_le _, rfl, ⟨Drawn0.refl _⟩⟩
  case round =>
    obtain ⟨i, hi, rfl, HD⟩ := hrel
    by_cases hlt : i < n
    · have p1 : 0 ≤ (i : Int) := by omega
      have q1 : (i : Int) < (n : Int) := by omega
      have b1 : decide ((i : Int) < (n : Int)) = true := decide_eq_true q1
      obtain ⟨m1, hm1⟩ := HD.out.out
      have hrA := Kd.C_drewN HR0.out m1
      have hrB := Kd.C_drewN HR1.out m1
      rw [← hm1] at hrA hrB
      clear hm1
      obtain ⟨ad, Ax, cx, e, hx0, hx1, hlx, hCx⟩ := signalmanlaw05_heard.atH hrA (i : Int) p1 q1
      cases e
      obtain ⟨be, Ay, cy, e, hy0, hy1, hy2, hly, hCy⟩ := at_T61 hrB (i : Int) p1 q1
      cases e
      obtain ⟨e0, e1⟩ := HE.out i hlt
      rw [e0] at hy0
      rw [e1] at hy1 hly hCy
      clear e0 e1 hy2
      rw [Int.toNat_natCast] at hx0 hx1 hy0 hy1
      generalize signalmanlaw05_heard.rdH l0 (i : Int) = q at hx0 hx1 hlx hCx hy0 hy1 hly hCy
      obtain ⟨K, p⟩ := q
      replace p1 := eq_true p1
      replace q1 := eq_true q1
      have HCX := Aside0.mk hCx
      have HCY := Aside0.mk hCy
      clear hCx hCy hrA hrB
      go_wp2
      have hcv1 := Kd.C_string (c := cx) Try.underlying22 Try.underlying5 Try.underlying9 (Kd.C_drew HCX.out)
      have hcv2 := Kd.C_string (c := cy) Try.underlying22 Try.underlying5 Try.underlying9 (Kd.C_drew HCY.out)
      refine start_ (n := 26) (S := fun W => W.cell? (ad.add (i * 2)) = some (.int .u8 K) ∧ W.cell? ⟨(ad.add (i * 2)).block, (ad.add (i * 2)).off + 1, none⟩ = some (.slice Ax p.length cx) ∧ W.cell? (be.add (i * 3)) = some (.int .u8 K) ∧ W.cell? ⟨(be.add (i * 3)).block, (be.add (i * 3)).off + 1, none⟩ = some (.slice Ay p.length cy) ∧ (convert 22 9 (.slice Ax p.length cx)).run Try.prog W = .ok (.string (strOfNums p)) W ∧ (convert 22 9 (.slice Ay p.length cy)).run Try.prog W = .ok (.string (strOfNums p)) W) (ds := []) #[false, false, false, false, false, false, false, false, false, false, false, false, false, false, false, false, false, false, false, false, false, false, false, false, false, false] (by kernel_rfl) rfl rfl ⟨hx0, hx1, hy0, hy1, hcv1, hcv2⟩ (fun hHeld => ?_)
      have n0_ := Aside0.mk (show Drawn0 w wr.drew from HD.out.step 1)
      clear HD hcv1 hcv2 hx0 hx1 hy0 hy1 HCX HCY
      have HD := n0_
      clear n0_
      generalize wr.drew = W0 at HD hHeld ⊢
      refine pure_ (i := 0) (N := some 17) (v := ?_) (a' := ?_) #[true, false, false, false, false, false, false, false, false, false, false, false, false, false, false, false, false, false, false, false, false, false, false, false, false, false] rfl rfl (by kernel_rfl) (fun _ _ _ h => h) (Or.inl ⟨by rfl, ?_⟩) ?_ ?_
      rotate_left
      · intro w'
        go_simp
        with_reducible rfl
      rotate_left
      · simp only [Act.put, List.setIfInBounds_toArray, List.set_cons_zero, List.set_cons_succ, i64_w, i32_w]
        rfl
      refine pure_ (i := 1) (N := some 18) (v := ?_) (a' := ?_) #[true, true, false, false, false, false, false, false, false, false, false, false, false, false, false, false, false, false, false, false, false, false, false, false, false, false] rfl rfl (by kernel_rfl) (fun _ _ _ h => h) (Or.inl ⟨by rfl, ?_⟩) ?_ ?_
      rotate_left
      · intro w'
        go_simp
        with_reducible rfl
      rotate_left
      · simp only [Act.put, List.setIfInBounds_toArray, List.set_cons_zero, List.set_cons_succ, i64_w, i32_w]
        rfl
      refine pure_ (i := 2) (N := some 19) (v := ?_) (a' := ?_) #[true, true, true, false, false, false, false, false, false, false, false, false, false, false, false, false, false, false, false, false, false, false, false, false, false, false] rfl rfl (by kernel_rfl) (fun _ _ _ h => h) (Or.inl ⟨by rfl, ?_⟩) ?_ ?_
      rotate_left
      · intro w'
        go_simp
        with_reducible rfl
      rotate_left
      · simp only [Act.put, List.setIfInBounds_toArray, List.set_cons_zero, List.set_cons_succ, i64_w, i32_w]
        rfl
      refine pure_ (i := 3) (N := some 20) (v := ?_) (a' := ?_) #[true, true, true, true, false, false, false, false, false, false, false, false, false, false, false, false, false, false, false, false, false, false, false, false, false, false] rfl rfl (by kernel_rfl) (fun _ _ _ h => h) (Or.inl ⟨by rfl, ?_⟩) ?_ ?_
      rotate_left
      · intro w'
        go_simp
        with_reducible rfl
      rotate_left
      · simp only [Act.put, List.setIfInBounds_toArray, List.set_cons_zero, List.set_cons_succ, i64_w, i32_w]
        rfl
      refine take_ (i := 4) (N := some 21) (v := ?_) (a' := ?_) #[true, true, true, true, true, false, false, false, false, false, false, false, false, false, false, false, false, false, false, false, false, false, false, false, false, false] rfl rfl (by kernel_rfl) (fun _ _ _ h => h) (Or.inl ⟨by rfl, ?_⟩) hHeld ?_ ?_
      rotate_left
      · intro w' hS'
        obtain ⟨s1_, s2_, s3_, s4_, s5_, s6_⟩ := hS'
        go_simp
        with_reducible rfl
      rotate_left
      · simp only [Act.put, List.setIfInBounds_toArray, List.set_cons_zero, List.set_cons_succ, i64_w, i32_w]
        rfl
      refine pure_ (i := 5) (N := some 22) (v := ?_) (a' := ?_) #[true, true, true, true, true, true, false, false, false, false, false, false, false, false, false, false, false, false, false, false, false, false, false, false, false, false] rfl rfl (by kernel_rfl) (fun _ _ _ h => h) (Or.inl ⟨by rfl, ?_⟩) ?_ ?_
      rotate_left
      · intro w'
        go_simp
        with_reducible rfl
      rotate_left
      · simp only [Act.put, List.setIfInBounds_toArray, List.set_cons_zero, List.set_cons_succ, i64_w, i32_w]
        rfl
      refine pure_ (i := 6) (N := some 23) (v := ?_) (a' := ?_) #[true, true, true, true, true, true, true, false, false, false, false, false, false, false, false, false, false, false, false, false, false, false, false, false, false, false] rfl rfl (by kernel_rfl) (fun _ _ _ h => h) (Or.inl ⟨by rfl, ?_⟩) ?_ ?_
      rotate_left
      · intro w'
        go_simp
        with_reducible rfl
      rotate_left
      · simp only [Act.put, List.setIfInBounds_toArray, List.set_cons_zero, List.set_cons_succ, i64_w, i32_w]
        rfl
      refine pure_ (i := 7) (N := some 24) (v := ?_) (a' := ?_) #[true, true, true, true, true, true, true, true, false, false, false, false, false, false, false, false, false, false, false, false, false, false, false, false, false, false] rfl rfl (by kernel_rfl) (fun _ _ _ h => h) (Or.inl ⟨by rfl, ?_⟩) ?_ ?_
      rotate_left
      · intro w'
        go_simp
        with_reducible rfl
      rotate_left
      · simp only [Act.put, List.setIfInBounds_toArray, List.set_cons_zero, List.set_cons_succ, i64_w, i32_w]
        rfl
      refine pure_ (i := 8) (N := some 25) (v := ?_) (a' := ?_) #[true, true, true, true, true, true, true, true, true, false, false, false, false, false, false, false, false, false, false, false, false, false, false, false, false, false] rfl rfl (by kernel_rfl) (fun _ _ _ h => h) (Or.inl ⟨by rfl, ?_⟩) ?_ ?_
      rotate_left
      · intro w'
        go_simp
        with_reducible rfl
      rotate_left
      · simp only [Act.put, List.setIfInBounds_toArray, List.set_cons_zero, List.set_cons_succ, i64_w, i32_w]
        rfl
      refine take_ (i := 9) (N := some 26) (v := ?_) (a' := ?_) #[true, true, true, true, true, true, true, true, true, true, false, false, false, false, false, false, false, false, false, false, false, false, false, false, false, false] rfl rfl (by kernel_rfl) (fun _ _ _ h => h) (Or.inl ⟨by rfl, ?_⟩) hHeld ?_ ?_
      rotate_left
      · intro w' hS'
        obtain ⟨s1_, s2_, s3_, s4_, s5_, s6_⟩ := hS'
        go_simp
        with_reducible rfl
      rotate_left
      · simp only [Act.put, List.setIfInBounds_toArray, List.set_cons_zero, List.set_cons_succ, i64_w, i32_w]
        rfl
      refine pure_ (i := 10) (N := some 27) (v := ?_) (a' := ?_) #[true, true, true, true, true, true, true, true, true, true, true, false, false, false, false, false, false, false, false, false, false, false, false, false, false, false] rfl rfl (by kernel_rfl) (fun _ _ _ h => h) (Or.inl ⟨by rfl, ?_⟩) ?_ ?_
      rotate_left
      · intro w'
        go_simp
        with_reducible rfl
      rotate_left
      · simp only [Act.put, List.setIfInBounds_toArray, List.set_cons_zero, List.set_cons_succ, i64_w, i32_w]
        rfl
      refine pure_ (i := 11) (N := some 28) (v := ?_) (a' := ?_) #[true, true, true, true, true, true, true, true, true, true, true, true, false, false, false, false, false, false, false, false, false, false, false, false, false, false] rfl rfl (by kernel_rfl) (fun _ _ _ h => h) (Or.inl ⟨by rfl, ?_⟩) ?_ ?_
      rotate_left
      · intro w'
        go_simp
        with_reducible rfl
      rotate_left
      · simp only [Act.put, List.setIfInBounds_toArray, List.set_cons_zero, List.set_cons_succ, i64_w, i32_w]
        rfl
      refine pure_ (i := 12) (N := some 29) (v := ?_) (a' := ?_) #[true, true, true, true, true, true, true, true, true, true, true, true, true, false, false, false, false, false, false, false, false, false, false, false, false, false] rfl rfl (by kernel_rfl) (fun _ _ _ h => h) (Or.inl ⟨by rfl, ?_⟩) ?_ ?_
      rotate_left
      · intro w'
        go_simp
        with_reducible rfl
      rotate_left
      · simp only [Act.put, List.setIfInBounds_toArray, List.set_cons_zero, List.set_cons_succ, i64_w, i32_w]
        rfl
      refine pure_ (i := 13) (N := some 30) (v := ?_) (a' := ?_) #[true, true, true, true, true, true, true, true, true, true, true, true, true, true, false, false, false, false, false, false, false, false, false, false, false, false] rfl rfl (by kernel_rfl) (fun _ _ _ h => h) (Or.inl ⟨by rfl, ?_⟩) ?_ ?_
      rotate_left
      · intro w'
        go_simp
        with_reducible rfl
      rotate_left
      · simp only [Act.put, List.setIfInBounds_toArray, List.set_cons_zero, List.set_cons_succ, i64_w, i32_w]
        rfl
      refine pure_ (i := 14) (N := some 31) (v := ?_) (a' := ?_) #[true, true, true, true, true, true, true, true, true, true, true, true, true, true, true, false, false, false, false, false, false, false, false, false, false, false] rfl rfl (by kernel_rfl) (fun _ _ _ h => h) (Or.inl ⟨by rfl, ?_⟩) ?_ ?_
      rotate_left
      · intro w'
        go_simp
        with_reducible rfl
      rotate_left
      · simp only [Act.put, List.setIfInBounds_toArray, List.set_cons_zero, List.set_cons_succ, i64_w, i32_w]
        rfl
      refine pure_ (i := 15) (N := some 32) (v := ?_) (a' := ?_) #[true, true, true, true, true, true, true, true, true, true, true, true, true, true, true, true, false, false, false, false, false, false, false, false, false, false] rfl rfl (by kernel_rfl) (fun _ _ _ h => h) (Or.inl ⟨by rfl, ?_⟩) ?_ ?_
      rotate_left
      · intro w'
        go_simp
        with_reducible rfl
      rotate_left
      · simp only [Act.put, List.setIfInBounds_toArray, List.set_cons_zero, List.set_cons_succ, i64_w, i32_w]
        rfl
      refine take_ (i := 16) (N := some 33) (v := ?_) (a' := ?_) #[true, true, true, true, true, true, true, true, true, true, true, true, true, true, true, true, true, false, false, false, false, false, false, false, false, false] rfl rfl (by kernel_rfl) (fun _ _ _ h => h) (Or.inl ⟨by rfl, ?_⟩) hHeld ?_ ?_
      rotate_left
      · intro w' hS'
        obtain ⟨s1_, s2_, s3_, s4_, s5_, s6_⟩ := hS'
        go_simp
        with_reducible rfl
      rotate_left
      · simp only [Act.put, List.setIfInBounds_toArray, List.set_cons_zero, List.set_cons_succ, i64_w, i32_w]
        rfl
      refine take_ (i := 17) (N := some 34) (v := ?_) (a' := ?_) #[true, true, true, true, true, true, true, true, true, true, true, true, true, true, true, true, true, true, false, false, false, false, false, false, false, false] rfl rfl (by kernel_rfl) (fun _ _ _ h => h) (Or.inl ⟨by rfl, ?_⟩) hHeld ?_ ?_
      rotate_left
      · intro w' hS'
        obtain ⟨s1_, s2_, s3_, s4_, s5_, s6_⟩ := hS'
        go_simp
        with_reducible rfl
      rotate_left
      · simp only [Act.put, List.setIfInBounds_toArray, List.set_cons_zero, List.set_cons_succ, i64_w, i32_w]
        rfl
      refine pure_ (i := 18) (N := some 35) (v := ?_) (a' := ?_) #[true, true, true, true, true, true, true, true, true, true, true, true, true, true, true, true, true, true, true, false, false, false, false, false, false, false] rfl rfl (by kernel_rfl) (fun _ _ _ h => h) (Or.inl ⟨by rfl, ?_⟩) ?_ ?_
      rotate_left
      · intro w'
        go_simp
        with_reducible rfl
      rotate_left
      · simp only [Act.put, List.setIfInBounds_toArray, List.set_cons_zero, List.set_cons_succ, i64_w, i32_w]
        rfl
      refine pure_ (i := 19) (N := some 36) (v := ?_) (a' := ?_) #[true, true, true, true, true, true, true, true, true, true, true, true, true, true, true, true, true, true, true, true, false, false, false, false, false, false] rfl rfl (by kernel_rfl) (fun _ _ _ h => h) (Or.inl ⟨by rfl, ?_⟩) ?_ ?_
      rotate_left
      · intro w'
        go_simp
        with_reducible rfl
      rotate_left
      · simp only [Act.put, List.setIfInBounds_toArray, List.set_cons_zero, List.set_cons_succ, i64_w, i32_w]
        rfl
      refine pure_ (i := 20) (N := some 37) (v := ?_) (a' := ?_) #[true, true, true, true, true, true, true, true, true, true, true, true, true, true, true, true, true, true, true, true, true, false, false, false, false, false] rfl rfl (by kernel_rfl) (fun _ _ _ h => h) (Or.inl ⟨by rfl, ?_⟩) ?_ ?_
      rotate_left
      · intro w'
        go_simp
        with_reducible rfl
      rotate_left
      · simp only [Act.put, List.setIfInBounds_toArray, List.set_cons_zero, List.set_cons_succ, i64_w, i32_w]
        rfl
      refine pure_ (i := 21) (N := some 38) (v := ?_) (a' := ?_) #[true, true, true, true, true, true, true, true, true, true, true, true, true, true, true, true, true, true, true, true, true, true, false, false, false, false] rfl rfl (by kernel_rfl) (fun _ _ _ h => h) (Or.inl ⟨by rfl, ?_⟩) ?_ ?_
      rotate_left
      · intro w'
        go_simp
        with_reducible rfl
      rotate_left
      · simp only [Act.put, List.setIfInBounds_toArray, List.set_cons_zero, List.set_cons_succ, i64_w, i32_w]
        rfl
      refine take_ (i := 22) (N := some 39) (v := ?_) (a' := ?_) #[true, true, true, true, true, true, true, true, true, true, true, true, true, true, true, true, true, true, true, true, true, true, true, false, false, false] rfl rfl (by kernel_rfl) (fun _ _ _ h => h) (Or.inl ⟨by rfl, ?_⟩) hHeld ?_ ?_
      rotate_left
      · intro w' hS'
        obtain ⟨s1_, s2_, s3_, s4_, s5_, s6_⟩ := hS'
        go_simp
        with_reducible rfl
      rotate_left
      · simp only [Act.put, List.setIfInBounds_toArray, List.set_cons_zero, List.set_cons_succ, i64_w, i32_w]
        rfl
      refine take_ (i := 23) (N := some 40) (v := ?_) (a' := ?_) #[true, true, true, true, true, true, true, true, true, true, true, true, true, true, true, true, true, true, true, true, true, true, true, true, false, false] rfl rfl (by kernel_rfl) (fun _ _ _ h => h) (Or.inl ⟨by rfl, ?_⟩) hHeld ?_ ?_
      rotate_left
      · intro w' hS'
        obtain ⟨s1_, s2_, s3_, s4_, s5_, s6_⟩ := hS'
        go_simp
        with_reducible rfl
      rotate_left
      · simp only [Act.put, List.setIfInBounds_toArray, List.set_cons_zero, List.set_cons_succ, i64_w, i32_w]
        rfl
      refine pure_ (i := 24) (N := some 41) (v := ?_) (a' := ?_) #[true, true, true, true, true, true, true, true, true, true, true, true, true, true, true, true, true, true, true, true, true, true, true, true, true, false] rfl rfl (by kernel_rfl) (fun _ _ _ h => h) (Or.inl ⟨by rfl, ?_⟩) ?_ ?_
      rotate_left
      · intro w'
        go_simp
        with_reducible rfl
      rotate_left
      · simp only [Act.put, List.setIfInBounds_toArray, List.set_cons_zero, List.set_cons_succ, i64_w, i32_w]
        rfl
      refine pure_ (i := 25) (N := some 42) (v := ?_) (a' := ?_) #[true, true, true, true, true, true, true, true, true, true, true, true, true, true, true, true, true, true, true, true, true, true, true, true, true, true] rfl rfl (by kernel_rfl) (fun _ _ _ h => h) (Or.inl ⟨by rfl, ?_⟩) ?_ ?_
      rotate_left
      · intro w'
        go_simp
        with_reducible rfl
      rotate_left
      · simp only [Act.put, List.setIfInBounds_toArray, List.set_cons_zero, List.set_cons_succ, i64_w, i32_w]
        rfl
      refine done_ (by kernel_rfl) ?_
      clear hHeld
      go_wp2
      go_roundw
      case rel => exact ⟨i + 1, by omega, by first | rfl | (simp; done), HD⟩
      case measure => (simp [intOf]; omega)
    · obtain rfl : i = n := by omega
      have b1 : decide ((i : Int) < (i : Int)) = false := decide_eq_false (by omega)
      go_wp2
      go_ret
      exact ⟨rfl, HD.out⟩
theorem signalmanlaw05_heard.yes (A0 A1 : Option Addr) (c0 c1 : Nat) (l0 : List (Int × List Int)) (l1 : List S61) (w : World) (hr0 : Kd.C Ear.kH w A0 l0.length l0) (hr1 : Kd.C k61 w A1 l1.length l1) (hsm : l0.length ≤ 1000000000) (he : l0 = l1.map (fun x => (x.f0, x.f1))) :
    Calls Try.prog 25 #[.slice A0 l0.length c0, .slice A1 l1.length c1] w fun e w' => e = .returned (.bool true) ∧ Drawn0 w w' := by
  have hl : l0.length = l1.length := by rw [he, List.length_map]
  rw [hl] at hr0 hsm ⊢
  refine signalmanlaw05_heard.yes0 A0 A1 c0 c1 l1.length _ l1 w hr0 hr1 hsm (fun i hi => ?_)
  subst he
  have h1 : rd_T61 l1 (i : Int) = l1[i] := by simp [rd_T61, List.getD_eq_getElem?_getD, List.getElem?_eq_getElem hi]
  have h2 : signalmanlaw05_heard.rdH (l1.map (fun x => (x.f0, x.f1))) (i : Int) = (l1[i].f0, l1[i].f1) := by simp [signalmanlaw05_heard.rdH, List.getD_eq_getElem?_getD, List.getElem?_eq_getElem hi]
  rw [h1, h2]
  exact ⟨rfl, rfl⟩

/-! ### signalmanlaw05_FlagHears: function 5 -/
set_option maxHeartbeats 8000000 in
set_option maxRecDepth 100000 in
theorem signalmanlaw05_FlagHears.e_short (k : Nat) (haw : signalmanlaw05_awake.f k = some true) (A Aj Ah : Option Addr) (c cj ch : Nat) (ll : List (List Int)) (p how : List Int) (w : World) (hr : Kd.C (Kd.slice 5 (Kd.int .u8)) w A ll.length ll) (hc : ll.length ≤ c) (hs : signalmanlaw05_short.f k ll = some false) :
    Calls Try.prog 5 #[.slice A ll.length c, .slice Aj p.length cj, .slice Ah how.length ch] w fun e w' => e = .returned (.bool true) ∧ Below w.heap.size w w' := by
  have HB := Aside0.mk (Below.refl w.heap.size w)
  have HR := Aside0.mk hr
  have HC := Aside0.mk hc
  have HAW := Aside0.mk haw
  have HSH := Aside0.mk hs
  clear hs
  clear hr hc haw
  go_enter Try.func5, Try.ntmps5
  go_wp2_with (first
  | ((with_reducible refine gate_callee (f := 9) rfl ?_); refine goesL_ (some 12) rfl rfl Try.func9 (by kernel_rfl) rfl #[] rfl (by (try simp only [List.map_toArray, List.map_cons, List.map_nil]); first | done | rfl | (simp [Act.eval, *]; done)) ?_; (with_reducible refine (signalmanlaw05_awake.calls k true _ HAW.out).mono ?_); rintro e w1 ⟨rfl, hb⟩; refine ⟨_, rfl, ?_⟩; have n0_ := Aside0.mk (below_step HB.out hb); clear HB; have HB := n0_; clear n0_; clear hb)
  | ((with_reducible refine gate_callee (f := 21) rfl ?_); (try (refine gate_guard (by rfl) ?_; dsimp only)); refine goesL_ (some 16) rfl rfl Try.func21 (by kernel_rfl) rfl #[.slice A ll.length c] rfl (by (try simp only [List.map_toArray, List.map_cons, List.map_nil]); first | done | rfl | (simp [Act.eval, *]; done)) ?_; (with_reducible refine (signalmanlaw05_short.calls k A c ll false _ (Kd.C_below HR.out HB.out) HC.out HSH.out).mono ?_); rintro e w2 ⟨rfl, hd⟩; refine ⟨_, rfl, ?_⟩; have n0_ := Aside0.mk (below_step HB.out hd.below); clear HB; have HB := n0_; clear n0_; clear hd)
  | ((with_reducible refine gate_callee (f := 9) rfl ?_); refine goesL_ (some 24) rfl rfl Try.func9 (by kernel_rfl) rfl #[] rfl (by (try simp only [List.map_toArray, List.map_cons, List.map_nil]); first | done | rfl | (simp [Act.eval, *]; done)) ?_; (with_reducible refine (signalmanlaw05_awake.calls k true _ HAW.out).mono ?_); rintro e w1 ⟨rfl, hb⟩; refine ⟨_, rfl, ?_⟩; have n0_ := Aside0.mk (below_step HB.out hb); clear HB; have HB := n0_; clear n0_; clear hb))
  go_ret
  exact ⟨rfl, HB.out⟩
set_option maxHeartbeats 8000000 in
set_option maxRecDepth 100000 in
theorem signalmanlaw05_FlagHears.e_junk (k : Nat) (haw : signalmanlaw05_awake.f k = some true) (A Aj Ah : Option Addr) (c cj ch : Nat) (ll : List (List Int)) (p how : List Int) (w : World) (hr : Kd.C (Kd.slice 5 (Kd.int .u8)) w A ll.length ll) (hc : ll.length ≤ c) (hs : signalmanlaw05_short.f k ll = some true) (hj : 200 < p.length) :
    Calls Try.prog 5 #[.slice A ll.length c, .slice Aj p.length cj, .slice Ah how.length ch] w fun e w' => e = .returned (.bool true) ∧ Below w.heap.size w w' := by
  have HB := Aside0.mk (Below.refl w.heap.size w)
  have HR := Aside0.mk hr
  have HC := Aside0.mk hc
  have HAW := Aside0.mk haw
  have HSH := Aside0.mk hs
  clear hs
  have d0 : decide ((200 : Int) < (p.length : Int)) = true := decide_eq_true (by omega)
  have d1 : decide (200 < p.length) = true := decide_eq_true (by omega)
  clear hr hc haw
  go_enter Try.func5, Try.ntmps5
  go_wp2_with (first
  | ((with_reducible refine gate_callee (f := 9) rfl ?_); refine goesL_ (some 12) rfl rfl Try.func9 (by kernel_rfl) rfl #[] rfl (by (try simp only [List.map_toArray, List.map_cons, List.map_nil]); first | done | rfl | (simp [Act.eval, *]; done)) ?_; (with_reducible refine (signalmanlaw05_awake.calls k true _ HAW.out).mono ?_); rintro e w1 ⟨rfl, hb⟩; refine ⟨_, rfl, ?_⟩; have n0_ := Aside0.mk (below_step HB.out hb); clear HB; have HB := n0_; clear n0_; clear hb)
  | ((with_reducible refine gate_callee (f := 21) rfl ?_); (try (refine gate_guard (by rfl) ?_; dsimp only)); refine goesL_ (some 16) rfl rfl Try.func21 (by kernel_rfl) rfl #[.slice A ll.length c] rfl (by (try simp only [List.map_toArray, List.map_cons, List.map_nil]); first | done | rfl | (simp [Act.eval, *]; done)) ?_; (with_reducible refine (signalmanlaw05_short.calls k A c ll true _ (Kd.C_below HR.out HB.out) HC.out HSH.out).mono ?_); rintro e w2 ⟨rfl, hd⟩; refine ⟨_, rfl, ?_⟩; have n0_ := Aside0.mk (below_step HB.out hd.below); clear HB; have HB := n0_; clear n0_; clear hd)
  | ((with_reducible refine gate_callee (f := 9) rfl ?_); refine goesL_ (some 24) rfl rfl Try.func9 (by kernel_rfl) rfl #[] rfl (by (try simp only [List.map_toArray, List.map_cons, List.map_nil]); first | done | rfl | (simp [Act.eval, *]; done)) ?_; (with_reducible refine (signalmanlaw05_awake.calls k true _ HAW.out).mono ?_); rintro e w1 ⟨rfl, hb⟩; refine ⟨_, rfl, ?_⟩; have n0_ := Aside0.mk (below_step HB.out hb); clear HB; have HB := n0_; clear n0_; clear hb))
  go_ret
  exact ⟨rfl, HB.out⟩
theorem signalmanlaw05_FlagHears.asks {B : Nat} {E : Nat → Prop} {w : World} {g : Nat} {s : Ear.St} (h : Ear.Is B E w g s) (b : Bool) (hb : s.found = !b) : Calls Try.prog 26 #[.pointer (some ⟨g, 0, none⟩)] w fun e w' => e = .returned (.bool b) ∧ w = w' := by
  obtain ⟨_, P, vin, _, _, hA, _⟩ := h
  refine (Ear.counting_calls g vin s.ones s.n s.found w hA).mono ?_
  rintro e w' ⟨rfl, rfl⟩
  rw [hb, Bool.not_not]
  exact ⟨rfl, rfl⟩
/-- What was heard of a row that the new ear leaves alone. -/
def signalmanlaw05_FlagHears.Got (B : Nat) (J : List Bool → Option (List Int)) (w : World) (g : Nat) (At : Option Addr) (t : List Bool) (out : List (Int × List Int)) (b : Bool) (e : Ending) (w' : World) : Prop :=
  ∃ (Ao : Option Addr) (co : Nat), e = .returned (.slice Ao out.length co) ∧ Kd.C Ear.kH w' Ao out.length out ∧ (∃ E s, Ear.Is B E w' g s ∧ s.found = !b) ∧ Below B w w' ∧ Kd.C Kd.bool w' At t.length t
theorem signalmanlaw05_FlagHears.got {J : List Bool → Option (List Int)} (HJ : Ear.JudgeOk J) {B : Nat} (w1 : World) (hB : B ≤ w1.heap.size) (At : Option Addr) (ct : Nat) (t : List Bool) (ht : t.length ≤ 100000000) (hr : ReadsOf Value.bool false w1 At t.length t) (out : List (Int × List Int)) (b : Bool) (ho : (Ear.runF J ⟨[], 0, false, 0⟩ t).2 = out) (hb : (Ear.runF J ⟨[], 0, false, 0⟩ t).1.found = !b) :
    Calls Try.prog 23 #[.pointer (some ⟨w1.heap.size, 0, none⟩), .slice At t.length ct] (w1.alloc (.cells #[.slice none 0 0, .int .i64 0, .bool false, .int .i64 0] 48)) (signalmanlaw05_FlagHears.Got B J (w1.alloc (.cells #[.slice none 0 0, .int .i64 0, .bool false, .int .i64 0] 48)) w1.heap.size At t out b) := by
  have hz : (w1.alloc (.cells #[.slice none 0 0, .int .i64 0, .bool false, .int .i64 0] 48)).heap.size = w1.heap.size + 1 := by simp [World.alloc_eq]
  have hr2 := Rowq.reads_under hr (below_alloc (Below.refl _ _) (.cells #[.slice none 0 0, .int .i64 0, .bool false, .int .i64 0] 48)) (Rowq.reads_block hr)
  have hE : ∀ ad, At = some ad → 0 < t.length → ad.block ≠ w1.heap.size ∧ ad.block < (w1.alloc (.cells #[.slice none 0 0, .int .i64 0, .bool false, .int .i64 0] 48)).heap.size := fun ad e hn => by have := Rowq.reads_block hr ad e hn; omega
  refine (Ear.bits_calls HJ (signalmanlaw05_awake.born (B := B) (heap_alloc_new w1 (.cells #[.slice none 0 0, .int .i64 0, .bool false, .int .i64 0] 48)) hB) Ear.inv0 At ct t ht (by show 0 + t.length < 1000000000; omega) hr2 hE).mono ?_
  rintro e w' ⟨v, rfl, hP⟩
  have hK := hP.kept
  have hBl := hP.below
  obtain ⟨okv, _, hR, hIs⟩ := hP.ex
  rw [ho] at hR
  obtain ⟨Ao, co, rfl⟩ := Kd.R_slice hR
  exact ⟨Ao, co, rfl, (Kd.R_reads' hR).2.2, ⟨_, _, hIs, hb⟩, hBl, Kd.C_of_reads (enc := Value.bool) (d := false) (h1 := fun _ => rfl) (hK.reads hr2 hE)⟩
set_option maxHeartbeats 32000000 in
set_option maxRecDepth 100000 in
theorem signalmanlaw05_FlagHears.main (k : Nat) (haw : signalmanlaw05_awake.f k = some true) (A Aj Ah : Option Addr) (c cj ch : Nat) (ll : List (List Int)) (p how : List Int) (w : World) (hr : Kd.C (Kd.slice 5 (Kd.int .u8)) w A ll.length ll) (hc : ll.length ≤ c) (hrp : Kd.C (Kd.int .u8) w Aj p.length p) (hcp : p.length ≤ cj) (hrh : Kd.C (Kd.int .u8) w Ah how.length how) (hch : how.length ≤ ch) (hs : signalmanlaw05_short.f k ll = some true) (hj : p.length ≤ 200) (t : List Bool) (hst : signalmanlaw05_stream.f k ll p how = some t) (ht : t.length ≤ 1000000) (l : List S61) (b : Bool) (hhr : signalmanref01_Hear.f k t = some (l, b)) (hl : l.length ≤ 1000000)
    (hout : (Ear.runF (signalmanlaw05_awake.J k) ⟨[], 0, false, 0⟩ t).2 = l.map (fun x => (x.f0, x.f1))) (hfound : (Ear.runF (signalmanlaw05_awake.J k) ⟨[], 0, false, 0⟩ t).1.found = !b) :
    Calls Try.prog 5 #[.slice A ll.length c, .slice Aj p.length cj, .slice Ah how.length ch] w fun e w' => e = .returned (.bool true) ∧ Below w.heap.size w w' := by
  have HB := Aside0.mk (Below.refl w.heap.size w)
  have HR := Aside0.mk hr
  have HC := Aside0.mk hc
  have HRP := Aside0.mk hrp
  have HCP := Aside0.mk hcp
  have HRH := Aside0.mk hrh
  have HCH := Aside0.mk hch
  have HAW := Aside0.mk haw
  have HJ := Aside0.mk (signalmanlaw05_awake.ok ((signalmanlaw05_awake.f_full k).1 haw))
  have HSH := Aside0.mk hs
  have HST := Aside0.mk hst
  have HTL := Aside0.mk ht
  have HHR := Aside0.mk hhr
  have HL := Aside0.mk hl
  obtain ⟨out, hout2⟩ : ∃ o, o = l.map (fun x : S61 => (x.f0, x.f1)) := ⟨_, rfl⟩
  rw [← hout2] at hout
  have HOUT := Aside0.mk hout
  have HFO := Aside0.mk hfound
  have HO2 := Aside0.mk hout2
  have d0 : decide ((200 : Int) < (p.length : Int)) = false := decide_eq_false (by omega)
  have d1 : decide (200 < p.length) = false := decide_eq_false (by omega)
  clear hr hc hrp hcp hrh hch haw hs hst ht hhr hl hout hfound hout2 hj
  go_enter Try.func5, Try.ntmps5
  go_wp2_with (first
  | ((with_reducible refine gate_callee (f := 9) rfl ?_); refine goesL_ (some 12) rfl rfl Try.func9 (by kernel_rfl) rfl #[] rfl (by (try simp only [List.map_toArray, List.map_cons, List.map_nil]); first | done | rfl | (simp [Act.eval, *]; done)) ?_; (with_reducible refine (signalmanlaw05_awake.calls k true _ HAW.out).mono ?_); rintro e w1 ⟨rfl, hb⟩; refine ⟨_, rfl, ?_⟩; have n0_ := Aside0.mk (below_step HB.out hb); clear HB; have HB := n0_; clear n0_; clear hb)
  | ((with_reducible refine gate_callee (f := 21) rfl ?_); (try (refine gate_guard (by rfl) ?_; dsimp only)); refine goesL_ (some 16) rfl rfl Try.func21 (by kernel_rfl) rfl #[.slice A ll.length c] rfl (by (try simp only [List.map_toArray, List.map_cons, List.map_nil]); first | done | rfl | (simp [Act.eval, *]; done)) ?_; (with_reducible refine (signalmanlaw05_short.calls k A c ll true _ (Kd.C_below HR.out HB.out) HC.out HSH.out).mono ?_); rintro e w2 ⟨rfl, hd⟩; refine ⟨_, rfl, ?_⟩; have n0_ := Aside0.mk (below_step HB.out hd.below); clear HB; have HB := n0_; clear n0_; clear hd)
  | ((with_reducible refine gate_callee (f := 22) rfl ?_); refine goesL_ (some 28) rfl rfl Try.func22 (by kernel_rfl) rfl #[.slice A ll.length c, .slice Aj p.length cj, .slice Ah how.length ch] rfl (by (try simp only [List.map_toArray, List.map_cons, List.map_nil]); first | done | rfl | (simp [Act.eval, *]; done)) ?_; (with_reducible refine (signalmanlaw05_stream.calls k A c ll Aj cj p Ah ch how t _ (Kd.C_below HR.out HB.out) HC.out (Kd.C_below HRP.out HB.out) HCP.out (Kd.C_below HRH.out HB.out) HCH.out HST.out).mono ?_); rintro e w3 ⟨v, rfl, ho, hb⟩; refine ⟨_, rfl, ?_⟩; obtain ⟨At, ct, rfl, hct, hrt, hft⟩ := Rowq.fresh_reads ho; have HCT := Aside0.mk hct; have hbits := signalmanlaw05_FlagHears.got HJ.out w3 (below_step HB.out hb).size At ct t (by have := HTL.out; omega) hrt out b HOUT.out HFO.out; have HBITS := Aside0.mk hbits; have n0_ := Aside0.mk (below_step HB.out hb); clear HB; have HB := n0_; clear n0_; clear ho hb hct hrt hft hbits)
  | ((with_reducible refine gate_callee (f := 23) rfl ?_); refine goesL_ (some 33) rfl rfl Try.func23 (by kernel_rfl) rfl #[.pointer (some ⟨w3.heap.size, 0, none⟩), .slice At t.length ct] rfl (by (try simp only [List.map_toArray, List.map_cons, List.map_nil]); first | done | rfl | (simp [Act.eval, *]; done)) ?_; (with_reducible refine (HBITS.out).mono ?_); rintro e w4 ⟨Ao, co, rfl, hCo, hIs, hb, hrt⟩; refine ⟨_, rfl, ?_⟩; have HCO := Aside0.mk hCo; have HIS := Aside0.mk hIs; have HRT := Aside0.mk hrt; clear HBITS; have n0_ := Aside0.mk ((below_alloc HB.out _).trans hb); clear HB; have HB := n0_; clear n0_; clear hCo hIs hb hrt)
  | ((with_reducible refine gate_callee (f := 24) rfl ?_); refine goesL_ (some 36) rfl rfl Try.func24 (by kernel_rfl) rfl #[.slice At t.length ct] rfl (by (try simp only [List.map_toArray, List.map_cons, List.map_nil]); first | done | rfl | (simp [Act.eval, *]; done)) ?_; (with_reducible refine (signalmanref01_Hear.calls k At ct t l b _ HRT.out HCT.out HHR.out).mono ?_); rintro e w5 ⟨v, rfl, ho, hb⟩; refine ⟨_, rfl, ?_⟩; obtain ⟨Aw, cw, rfl⟩ := Kd.S_slice ho; have HCW := Aside0.mk (Kd.R_reads' (Kd.S_R ho)).2.2; have hCo2 := Kd.C_below HCO.out hb; obtain ⟨E_, s_, hIs, hfo⟩ := HIS.out; have HIS2 := Aside0.mk (hIs.below (E' := fun _ => False) hb (fun k hk => hk.elim)); have HFO2 := Aside0.mk hfo; clear HCO HIS HRT; have HCO := Aside0.mk hCo2; have n0_ := Aside0.mk (below_step HB.out hb); clear HB; have HB := n0_; clear n0_; clear hCo2 ho hb hIs hfo)
  | ((with_reducible refine gate_callee (f := 25) rfl ?_); refine goesL_ (some 41) rfl rfl Try.func25 (by kernel_rfl) rfl #[.slice Ao out.length co, .slice Aw l.length cw] rfl (by (try simp only [List.map_toArray, List.map_cons, List.map_nil]); first | done | rfl | (simp [Act.eval, *]; done)) ?_; (with_reducible refine (signalmanlaw05_heard.yes Ao Aw co cw out l _ HCO.out HCW.out (by have := HL.out; rw [HO2.out, List.length_map]; omega) HO2.out).mono ?_); rintro e w6 ⟨rfl, hd⟩; refine ⟨_, rfl, ?_⟩; have HIS3 := Aside0.mk (HIS2.out.below (E' := fun _ => False) hd.below (fun k hk => hk.elim)); clear HIS2 HCO HCW; have n0_ := Aside0.mk (below_step HB.out hd.below); clear HB; have HB := n0_; clear n0_; clear hd)
  | ((with_reducible refine gate_callee (f := 26) rfl ?_); (try (refine gate_guard (by rfl) ?_; dsimp only)); refine goesL_ (some 44) rfl rfl Try.func26 (by kernel_rfl) rfl #[.pointer (some ⟨w3.heap.size, 0, none⟩)] rfl (by (try simp only [List.map_toArray, List.map_cons, List.map_nil]); first | done | rfl | (simp [Act.eval, *]; done)) ?_; (with_reducible refine (signalmanlaw05_FlagHears.asks HIS3.out b HFO2.out).mono ?_); rintro e w7 ⟨rfl, rfl⟩; refine ⟨_, rfl, ?_⟩))
  go_ret
  exact ⟨rfl, HB.out⟩
def signalmanlaw05_FlagHears.Pure : Prop := ∀ (ll : List (List Int)) (p how : List Int), (∀ q ∈ ll, ∀ x ∈ q, 0 ≤ x ∧ x < 256) → (∀ x ∈ p, 0 ≤ x ∧ x < 256) → (∀ x ∈ how, 0 ≤ x ∧ x < 256) → ll.length ≤ 9223372036854775807 → ∃ (k : Nat) (b : Bool), signalmanlaw05_awake.f k = some true ∧ signalmanlaw05_short.f k ll = some b ∧
    (b = true → p.length ≤ 200 → ∃ t l lost, signalmanlaw05_stream.f k ll p how = some t ∧ t.length ≤ 1000000 ∧ signalmanref01_Hear.f k t = some (l, lost) ∧ l.length ≤ 1000000 ∧
      (Ear.runF (signalmanlaw05_awake.J k) ⟨[], 0, false, 0⟩ t).2 = l.map (fun x => (x.f0, x.f1)) ∧ (Ear.runF (signalmanlaw05_awake.J k) ⟨[], 0, false, 0⟩ t).1.found = !lost)
theorem signalmanlaw05_FlagHears.walk (P : signalmanlaw05_FlagHears.Pure) (A Aj Ah : Option Addr) (c cj ch : Nat) (ll : List (List Int)) (p how : List Int) (w : World) (hr : Kd.C (Kd.slice 5 (Kd.int .u8)) w A ll.length ll) (hc : ll.length ≤ c) (hrp : Kd.C (Kd.int .u8) w Aj p.length p) (hcp : p.length ≤ cj) (hrh : Kd.C (Kd.int .u8) w Ah how.length how) (hch : how.length ≤ ch)
    (hw : ∀ q ∈ ll, ∀ x ∈ q, 0 ≤ x ∧ x < 256) (hwp : ∀ x ∈ p, 0 ≤ x ∧ x < 256) (hwh : ∀ x ∈ how, 0 ≤ x ∧ x < 256) :
    Calls Try.prog 5 #[.slice A ll.length c, .slice Aj p.length cj, .slice Ah how.length ch] w fun e w' => e = .returned (.bool true) ∧ Below w.heap.size w w' := by
  obtain ⟨k, b, h1, h2, h3⟩ := P ll p how hw hwp hwh hr.2.1
  cases b with
  | false => exact signalmanlaw05_FlagHears.e_short k h1 A Aj Ah c cj ch ll p how w hr hc h2
  | true =>
    by_cases hp : p.length ≤ 200
    · obtain ⟨t, l, lost, h4, h5, h6, h7, h8, h9⟩ := h3 rfl hp
      exact signalmanlaw05_FlagHears.main k h1 A Aj Ah c cj ch ll p how w hr hc hrp hcp hrh hch h2 hp t h4 h5 l lost h6 h7 h8 h9
    · exact signalmanlaw05_FlagHears.e_junk k h1 A Aj Ah c cj ch ll p how w hr hc h2 (by omega)

end Go.Proofs.Ytonhgiclaieamaa.MFlagHears
