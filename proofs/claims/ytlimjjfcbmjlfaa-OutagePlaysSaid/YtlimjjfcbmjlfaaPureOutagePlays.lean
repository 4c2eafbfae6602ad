/- The last step of the law OutagePlays: what the printed functions tell is always true: an outage is none just if nobody is out, and level 3 has gone on since the other one was. No condition. -/
import Derived.Test.YtlimjjfcbmjlfaaMOutagePlaysx
import Derived.Test.YtlimjjfcbmjlfaaBase
namespace Go.Proofs.Ytlimjjfcbmjlfaa.Pure
open Go Go.RowKit Go.Proofs.Ytlimjjfcbmjlfaa.MOutagePlays Go.Proofs.YtlimjjfcbmjlfaaW.PrintWords Go.Proofs.YtlimjjfcbmjlfaaW.PrintLast Go.Proofs.YtlimjjfcbmjlfaaW.PrintMore Go.Proofs.Ytlimjjfcbmjlfaa.Base

theorem wf8 {x : Int} (h : (Lit.int .u8 x).wf = true) : 0 ≤ x ∧ x < 256 := by
  simp [Lit.wf, IntKind.min, IntKind.max, IntKind.signed, IntKind.bits] at h; omega
theorem wf8s {l : List Int} (h : ∀ x ∈ l, (Lit.int .u8 x).wf = true) : ∀ x ∈ l, 0 ≤ x ∧ x < 256 := fun x hx => wf8 (h x hx)

theorem Is_eq (a b c : Bool) : outage_Outage_Is.f a b c = some (a || b || c) := by cases a <;> cases b <;> cases c <;> rfl
theorem awake_eq : signalmanlaw15_awake.f = some true := rfl

theorem Round_ev (l : List Int) (i : Nat) (hi : i < l.length) (hlen : l.length ≤ 100) (x : Int) (hx : rd l (i : Int) = x) (h0 : 0 ≤ x)
    (hn : ∀ a b c, Ev (fun k => signalmanlaw15_OutagePlays.l0 k l a b c ((i + 1 : Nat) : Int) a b c) true) (a b c : Bool) :
    Ev (fun k => signalmanlaw15_OutagePlays.l0 k l a b c (i : Int) a b c) true := by
  have hw := w64s i (by omega)
  have hm : Int.tmod x 5 = x % 5 := Int.tmod_eq_emod_of_nonneg h0
  have hr : x % 5 = 0 ∨ x % 5 = 1 ∨ x % 5 = 2 ∨ x % 5 = 3 ∨ x % 5 = 4 := by omega
  rcases hr with h | h | h | h | h
  · refine Ev.step (f := fun k => signalmanlaw15_OutagePlays.j2 k l a b c (i : Int) 0 true a b c) (fun k => ?_) (Ev.step (fun k => ?_) (hn true b c))
    · simp only [signalmanlaw15_OutagePlays.l0]
      rw [if_pos (by omega), if_pos (by omega), hx, hm, h, if_pos rfl]; rfl
    · simp only [signalmanlaw15_OutagePlays.j2]
      rw [if_pos trivial, if_pos (by omega), if_pos (by omega), hx, hm, h, hw]
      cases b <;> cases c <;> rfl
  · refine Ev.step (f := fun k => signalmanlaw15_OutagePlays.j2 k l a b c (i : Int) 1 true a b c) (fun k => ?_) (Ev.step (fun k => ?_) (hn false b c))
    · simp only [signalmanlaw15_OutagePlays.l0]
      rw [if_pos (by omega), if_pos (by omega), hx, hm, h, if_neg (by decide)]; rfl
    · simp only [signalmanlaw15_OutagePlays.j2]
      rw [if_pos trivial, if_pos (by omega), if_pos (by omega), hx, hm, h, hw]
      cases b <;> cases c <;> rfl
  · refine Ev.step (f := fun k => signalmanlaw15_OutagePlays.j2 k l a b c (i : Int) 2 false a b c) (fun k => ?_) (Ev.step (f := fun k => signalmanlaw15_OutagePlays.j3 k l a b c (i : Int) true a b c) (fun k => ?_) (Ev.step (f := fun k => signalmanlaw15_OutagePlays.j4 k l a true true (i : Int) a b c) (fun k => ?_) (Ev.step (fun k => ?_) (hn a true true))))
    · simp only [signalmanlaw15_OutagePlays.l0]
      rw [if_pos (by omega), if_pos (by omega), hx, hm, h, if_neg (by decide)]; rfl
    · simp only [signalmanlaw15_OutagePlays.j2]
      rw [if_neg (by decide), if_pos trivial]; rfl
    · simp only [signalmanlaw15_OutagePlays.j3]
      rw [if_pos trivial, if_pos (by omega), if_pos (by omega), hx, hm, h]
      cases c <;> rfl
    · simp only [signalmanlaw15_OutagePlays.j4]
      rw [hw]
      cases a <;> cases c <;> rfl
  · refine Ev.step (f := fun k => signalmanlaw15_OutagePlays.j2 k l a b c (i : Int) 3 false a b c) (fun k => ?_) (Ev.step (f := fun k => signalmanlaw15_OutagePlays.j3 k l a b c (i : Int) true a b c) (fun k => ?_) (Ev.step (f := fun k => signalmanlaw15_OutagePlays.j4 k l a false c (i : Int) a b c) (fun k => ?_) (Ev.step (fun k => ?_) (hn a false c))))
    · simp only [signalmanlaw15_OutagePlays.l0]
      rw [if_pos (by omega), if_pos (by omega), hx, hm, h, if_neg (by decide)]; rfl
    · simp only [signalmanlaw15_OutagePlays.j2]
      rw [if_neg (by decide), if_neg (by decide)]; rfl
    · simp only [signalmanlaw15_OutagePlays.j3]
      rw [if_pos trivial, if_pos (by omega), if_pos (by omega), hx, hm, h]
      cases c <;> rfl
    · simp only [signalmanlaw15_OutagePlays.j4]
      rw [hw]
      cases a <;> cases c <;> rfl
  · refine Ev.step (f := fun k => signalmanlaw15_OutagePlays.j2 k l a b c (i : Int) 4 false a b c) (fun k => ?_) (Ev.step (f := fun k => signalmanlaw15_OutagePlays.j3 k l a b c (i : Int) false a b c) (fun k => ?_)
      (Ev.step (f := fun k => signalmanlaw15_OutagePlays.j5 k l a b c (i : Int) (!a && !b) false a b (if (!a && !b) = true then false else c)) (fun k => ?_) (Ev.step (fun k => ?_) (hn a b (if (!a && !b) = true then false else c)))))
    · simp only [signalmanlaw15_OutagePlays.l0]
      rw [if_pos (by omega), if_pos (by omega), hx, hm, h, if_neg (by decide)]; rfl
    · simp only [signalmanlaw15_OutagePlays.j2]
      rw [if_neg (by decide), if_neg (by decide)]; rfl
    · simp only [signalmanlaw15_OutagePlays.j3]
      cases a <;> cases b <;> rfl
    · simp only [signalmanlaw15_OutagePlays.j5]
      rw [hw]
      cases a <;> cases b <;> cases c <;> rfl

theorem OutagePlays : signalmanlaw15_OutagePlays.Pure := by
  intro l0 _ _ hw
  have hb := wf8s hw
  refine Ev.rounds (g := fun k => signalmanlaw15_OutagePlays.f k l0) ?_
  refine Ev.congr (f := fun k => signalmanlaw15_OutagePlays.j0 k l0 (decide ((l0.length : Int) > 100))) (fun k => ?_) ?_
  · unfold signalmanlaw15_OutagePlays.f
    rw [awake_eq]; rfl
  · by_cases hlen : l0.length ≤ 100
    · have key : ∀ d i, i + d = l0.length → ∀ a b c, Ev (fun k => signalmanlaw15_OutagePlays.l0 k l0 a b c (i : Int) a b c) true := by
        intro d
        induction d with
        | zero =>
          intro i hi a b c
          refine Ev.step (fun k => ?_) (Ev.now true)
          simp only [signalmanlaw15_OutagePlays.l0]
          rw [if_neg (by omega)]
        | succ d ih =>
          intro i hi a b c
          have h1 : i < l0.length := by omega
          exact Round_ev l0 i h1 hlen _ (rd_nat l0 i h1) (hb _ (List.getElem_mem h1)).1 (ih (i + 1) (by omega)) a b c
      rw [decide_eq_false (by omega)]
      refine Ev.step (fun k => ?_) (key l0.length 0 (by omega) false false false)
      simp only [signalmanlaw15_OutagePlays.j0]
      rw [if_neg (by decide)]; rfl
    · rw [decide_eq_true (by omega)]
      refine Ev.step (fun k => ?_) (Ev.now true)
      simp only [signalmanlaw15_OutagePlays.j0]
      rw [if_pos trivial, awake_eq]; rfl

end Go.Proofs.Ytlimjjfcbmjlfaa.Pure
