/- A kernel's code: both functions compute codeB. -/
import Derived.Test.YtmcboiffbcnalaaPFnExactLivesx3
import Derived.Test.YtmcboiffbcnalaaPFnExactLivesx13
import Derived.Test.YtmcboiffbcnalaaEFnExactLivesa
namespace Go.Proofs.Ytmcboiffbcnalaa.Pure
open Go.RowKit Go.Proofs.Ytmcboiffbcnalaa.PFnExactLives Go.Proofs.YtmcboiffbcnalaaW.PrintWords Go.Proofs.YtmcboiffbcnalaaW.PrintLast Go.Proofs.YtmcboiffbcnalaaW.PrintMore
set_option linter.unusedSimpArgs false
set_option linter.unusedVariables false
def codeOp (n : Int) (i : Nat) (c : S122) : Bool :=
  if c.f0 = 1 then decide (0 ≤ c.f1) && (decide (c.f1 < n) && (c.f2 == 0))
  else if c.f0 = 2 then decide (0 ≤ c.f1) && (decide (c.f1 < 2147483647) && (c.f2 == 0))
  else if (c.f0 == 3 || (c.f0 == 4 || c.f0 == 5)) = true then decide (0 ≤ c.f1) && (decide (c.f1 < (i : Int)) && (decide (0 ≤ c.f2) && decide (c.f2 < (i : Int))))
  else (c.f0 == 6 || (c.f0 == 7 || (c.f0 == 8 || c.f0 == 9))) && (decide (0 ≤ c.f1) && (decide (c.f1 < (i : Int)) && (c.f2 == 0)))
def codeL (n : Int) : Nat → List S122 → Bool
  | _, [] => true
  | i, c :: r => codeOp n i c && codeL n (i + 1) r
def codeB (n : Int) (l : List S122) : Bool := decide (1 ≤ l.length) && (decide (l.length ≤ 60) && codeL n 0 l)

section
variable (l : List S122) (n : Int) (i : Nat) (R : Bool) (hi : (i : Int) ≤ 1048576) (ih : Ev (fun k => spec_l11Code.l0 k l n ((i + 1 : Nat) : Int)) R)
include hi ih
theorem sc4 (b : Bool) : Ev (fun k => spec_l11Code.j4 k l n (i : Int) b) (b && R) := by
  cases b with
  | false => exact Ev.stop fun k => by simp [spec_l11Code.j4]
  | true =>
    rw [Bool.true_and]
    refine Ev.step (fun k => ?_) ih
    simp only [spec_l11Code.j4, if_true]
    rw [wn i (by omega)]
theorem sc3 (x : Bool) (a b c : Int) : Ev (fun k => spec_l11Code.j3 k l n (i : Int) false x a b c) ((x && (decide (0 ≤ b) && (decide (b < (i : Int)) && (c == 0)))) && R) := by
  refine Ev.step (fun k => ?_) (sc4 l n i R hi ih _)
  simp only [spec_l11Code.j3]
  cases x with
  | false => simp
  | true =>
    by_cases c1 : 0 ≤ b
    · by_cases c2 : b < (i : Int)
      · simp [c1, c2]
      · simp [c1, c2]
    · simp [c1]
theorem sc2 (y : Int) (x : Bool) (a b c : Int) : Ev (fun k => spec_l11Code.j2 k l n (i : Int) false y x a b c) ((if x = true then decide (0 ≤ b) && (decide (b < (i : Int)) && (decide (0 ≤ c) && decide (c < (i : Int)))) else ((y == 6 || (y == 7 || (y == 8 || y == 9))) && (decide (0 ≤ b) && (decide (b < (i : Int)) && (c == 0))))) && R) := by
  cases x with
  | true =>
    rw [if_pos rfl]
    refine Ev.step (fun k => ?_) (sc4 l n i R hi ih _)
    simp only [spec_l11Code.j2, if_true]
    by_cases c1 : 0 ≤ b
    · by_cases c2 : b < (i : Int)
      · by_cases c3 : 0 ≤ c
        · simp [c1, c2, c3]
        · simp [c1, c2, c3]
      · simp [c1, c2]
    · simp [c1]
  | false =>
    rw [if_neg (by decide)]
    refine Ev.step (fun k => ?_) (sc3 l n i R hi ih (y == 6 || (y == 7 || (y == 8 || y == 9))) a b c)
    simp only [spec_l11Code.j2]
    rw [if_neg (by decide)]
    by_cases c6 : y = 6
    · simp [c6]
    · by_cases c7 : y = 7
      · simp [c7]
      · by_cases c8 : y = 8
        · simp [c8]
        · have e6 : (y == 6) = false := by simpa using c6
          have e7 : (y == 7) = false := by simpa using c7
          have e8 : (y == 8) = false := by simpa using c8
          rw [if_neg c6, if_neg c7, if_neg c8, e6, e7, e8]; rfl
end
theorem scloop (l : List S122) (n : Int) (hl : l.length ≤ 1048576) : ∀ i, i ≤ l.length → Ev (fun k => spec_l11Code.l0 k l n (i : Int)) (codeL n i (l.drop i)) := by
  refine down (P := fun i => Ev (fun k => spec_l11Code.l0 k l n (i : Int)) (codeL n i (l.drop i))) ?_ ?_
  · rw [List.drop_length]
    exact Ev.stop fun k => by simp only [spec_l11Code.l0]; rw [if_neg (by omega)]; rfl
  · intro i hi ih
    rw [drop204 l i hi, codeL, codeOp]
    generalize hR : codeL n (i + 1) (l.drop (i + 1)) = R at ih ⊢
    have hi2 : (i : Int) ≤ 1048576 := by omega
    by_cases c1 : (rd_T122 l (i : Int)).f0 = 1
    · rw [if_pos c1]
      refine Ev.step (fun k => ?_) (sc4 l n i R hi2 ih _)
      simp only [spec_l11Code.l0]
      rw [if_pos (by omega), if_pos (by omega), if_pos c1]
      by_cases d1 : 0 ≤ (rd_T122 l (i : Int)).f1
      · by_cases d2 : (rd_T122 l (i : Int)).f1 < n
        · simp [d1, d2]
        · simp [d1, d2]
      · simp [d1]
    · rw [if_neg c1]
      by_cases c2 : (rd_T122 l (i : Int)).f0 = 2
      · rw [if_pos c2]
        refine Ev.step (fun k => ?_) (sc4 l n i R hi2 ih _)
        simp only [spec_l11Code.l0]
        rw [if_pos (by omega), if_pos (by omega), if_neg c1, if_pos c2]
        by_cases d1 : 0 ≤ (rd_T122 l (i : Int)).f1
        · by_cases d2 : (rd_T122 l (i : Int)).f1 < 2147483647
          · simp [d1, d2]
          · simp [d1, d2]
        · simp [d1]
      · rw [if_neg c2]
        refine Ev.step (fun k => ?_) (sc2 l n i R hi2 ih (rd_T122 l (i : Int)).f0 ((rd_T122 l (i : Int)).f0 == 3 || ((rd_T122 l (i : Int)).f0 == 4 || (rd_T122 l (i : Int)).f0 == 5)) (rd_T122 l (i : Int)).f0 (rd_T122 l (i : Int)).f1 (rd_T122 l (i : Int)).f2)
        simp only [spec_l11Code.l0]
        rw [if_pos (by omega), if_pos (by omega), if_neg c1, if_neg c2]
        by_cases c3 : (rd_T122 l (i : Int)).f0 = 3
        · simp [c3]
        · by_cases c4 : (rd_T122 l (i : Int)).f0 = 4
          · simp [c4]
          · have e3 : ((rd_T122 l (i : Int)).f0 == 3) = false := by simpa using c3
            have e4 : ((rd_T122 l (i : Int)).f0 == 4) = false := by simpa using c4
            rw [if_neg c3, if_neg c4, e3, e4]; rfl
theorem scev (l : List S122) (n : Int) (hl : l.length ≤ 1048576) : Ev (fun k => spec_l11Code.f k l n) (codeB n l) := by
  have loop := scloop l n hl 0 (Nat.zero_le _)
  unfold codeB
  by_cases c1 : l.length < 1
  · rw [decide_eq_false (by omega : ¬ 1 ≤ l.length)]
    refine Ev.congr (f := fun k => spec_l11Code.j0 k l n true) (fun k => ?_) (Ev.stop fun k => by simp only [spec_l11Code.j0, if_true]; rfl)
    unfold spec_l11Code.f; rw [if_pos (by omega)]
  · rw [decide_eq_true (by omega : 1 ≤ l.length)]
    refine Ev.congr (f := fun k => spec_l11Code.j0 k l n (decide ((l.length : Int) > 60))) (fun k => ?_) ?_
    · unfold spec_l11Code.f; rw [if_neg (by omega)]
    · by_cases c2 : l.length ≤ 60
      · rw [decide_eq_true c2, decide_eq_false (by omega)]
        exact Ev.step (fun k => by simp only [spec_l11Code.j0]; rw [if_neg (by decide)]; rfl) loop
      · rw [decide_eq_false c2, decide_eq_true (by omega)]
        exact Ev.stop fun k => by simp only [spec_l11Code.j0, if_true]; rfl

section
variable (l : List S122) (n : Int) (i : Nat) (R : Bool) (hi : (i : Int) ≤ 1048576) (ih : Ev (fun k => impl_codeOk.l0 k n l (l.length : Int) ((i + 1 : Nat) : Int)) R)
include hi ih
theorem ic4 (b : Bool) : Ev (fun k => impl_codeOk.j4 k n b l (l.length : Int) (i : Int)) (b && R) := by
  cases b with
  | false => exact Ev.stop fun k => by simp [impl_codeOk.j4]
  | true =>
    rw [Bool.true_and]
    refine Ev.step (fun k => ?_) ih
    simp only [impl_codeOk.j4, if_true]
    rw [wn i (by omega)]
theorem ic3 (x : Bool) (a b c : Int) : Ev (fun k => impl_codeOk.j3 k n (i : Int) false l (l.length : Int) (i : Int) x a b c) ((x && (decide (0 ≤ b) && (decide (b < (i : Int)) && (c == 0)))) && R) := by
  refine Ev.step (fun k => ?_) (ic4 l n i R hi ih _)
  simp only [impl_codeOk.j3]
  cases x with
  | false => simp
  | true =>
    by_cases c1 : 0 ≤ b
    · by_cases c2 : b < (i : Int)
      · simp [c1, c2]
      · simp [c1, c2]
    · simp [c1]
theorem ic2 (y : Int) (x : Bool) (a b c : Int) : Ev (fun k => impl_codeOk.j2 k n (i : Int) false l (l.length : Int) (i : Int) y x a b c) ((if x = true then decide (0 ≤ b) && (decide (b < (i : Int)) && (decide (0 ≤ c) && decide (c < (i : Int)))) else ((y == 6 || (y == 7 || (y == 8 || y == 9))) && (decide (0 ≤ b) && (decide (b < (i : Int)) && (c == 0))))) && R) := by
  cases x with
  | true =>
    rw [if_pos rfl]
    refine Ev.step (fun k => ?_) (ic4 l n i R hi ih _)
    simp only [impl_codeOk.j2, if_true]
    by_cases c1 : 0 ≤ b
    · by_cases c2 : b < (i : Int)
      · by_cases c3 : 0 ≤ c
        · simp [c1, c2, c3]
        · simp [c1, c2, c3]
      · simp [c1, c2]
    · simp [c1]
  | false =>
    rw [if_neg (by decide)]
    refine Ev.step (fun k => ?_) (ic3 l n i R hi ih (y == 6 || (y == 7 || (y == 8 || y == 9))) a b c)
    simp only [impl_codeOk.j2]
    rw [if_neg (by decide)]
    by_cases c6 : y = 6
    · simp [c6]
    · by_cases c7 : y = 7
      · simp [c7]
      · by_cases c8 : y = 8
        · simp [c8]
        · have e6 : (y == 6) = false := by simpa using c6
          have e7 : (y == 7) = false := by simpa using c7
          have e8 : (y == 8) = false := by simpa using c8
          rw [if_neg c6, if_neg c7, if_neg c8, e6, e7, e8]; rfl
end
theorem icloop (l : List S122) (n : Int) (hl : l.length ≤ 1048576) : ∀ i, i ≤ l.length → Ev (fun k => impl_codeOk.l0 k n l (l.length : Int) (i : Int)) (codeL n i (l.drop i)) := by
  refine down (P := fun i => Ev (fun k => impl_codeOk.l0 k n l (l.length : Int) (i : Int)) (codeL n i (l.drop i))) ?_ ?_
  · rw [List.drop_length]
    exact Ev.stop fun k => by simp only [impl_codeOk.l0]; rw [if_neg (by omega)]; rfl
  · intro i hi ih
    rw [drop204 l i hi, codeL, codeOp]
    generalize hR : codeL n (i + 1) (l.drop (i + 1)) = R at ih ⊢
    have hi2 : (i : Int) ≤ 1048576 := by omega
    by_cases c1 : (rd_T122 l (i : Int)).f0 = 1
    · rw [if_pos c1]
      refine Ev.step (fun k => ?_) (ic4 l n i R hi2 ih _)
      simp only [impl_codeOk.l0]
      rw [if_pos (by omega), if_pos (by omega), if_pos (by omega), if_pos c1]
      by_cases d1 : 0 ≤ (rd_T122 l (i : Int)).f1
      · by_cases d2 : (rd_T122 l (i : Int)).f1 < n
        · simp [d1, d2]
        · simp [d1, d2]
      · simp [d1]
    · rw [if_neg c1]
      by_cases c2 : (rd_T122 l (i : Int)).f0 = 2
      · rw [if_pos c2]
        refine Ev.step (fun k => ?_) (ic4 l n i R hi2 ih _)
        simp only [impl_codeOk.l0]
        rw [if_pos (by omega), if_pos (by omega), if_pos (by omega), if_neg c1, if_pos c2]
        by_cases d1 : 0 ≤ (rd_T122 l (i : Int)).f1
        · by_cases d2 : (rd_T122 l (i : Int)).f1 < 2147483647
          · simp [d1, d2, impl_isNum.f]
          · simp [d1, d2, impl_isNum.f]
        · simp [d1, impl_isNum.f]
      · rw [if_neg c2]
        refine Ev.step (fun k => ?_) (ic2 l n i R hi2 ih (rd_T122 l (i : Int)).f0 ((rd_T122 l (i : Int)).f0 == 3 || ((rd_T122 l (i : Int)).f0 == 4 || (rd_T122 l (i : Int)).f0 == 5)) (rd_T122 l (i : Int)).f0 (rd_T122 l (i : Int)).f1 (rd_T122 l (i : Int)).f2)
        simp only [impl_codeOk.l0]
        rw [if_pos (by omega), if_pos (by omega), if_pos (by omega), if_neg c1, if_neg c2]
        by_cases c3 : (rd_T122 l (i : Int)).f0 = 3
        · simp [c3]
        · by_cases c4 : (rd_T122 l (i : Int)).f0 = 4
          · simp [c4]
          · have e3 : ((rd_T122 l (i : Int)).f0 == 3) = false := by simpa using c3
            have e4 : ((rd_T122 l (i : Int)).f0 == 4) = false := by simpa using c4
            rw [if_neg c3, if_neg c4, e3, e4]; rfl
theorem icev (l : List S122) (n : Int) (hl : l.length ≤ 1048576) : Ev (fun k => impl_codeOk.f k l n) (codeB n l) := by
  have loop := icloop l n hl 0 (Nat.zero_le _)
  unfold codeB
  by_cases c1 : l.length < 1
  · rw [decide_eq_false (by omega : ¬ 1 ≤ l.length)]
    refine Ev.congr (f := fun k => impl_codeOk.j0 k l n true) (fun k => ?_) (Ev.stop fun k => by simp only [impl_codeOk.j0, if_true]; rfl)
    unfold impl_codeOk.f; rw [if_pos (by omega)]
  · rw [decide_eq_true (by omega : 1 ≤ l.length)]
    refine Ev.congr (f := fun k => impl_codeOk.j0 k l n (decide ((l.length : Int) > 60))) (fun k => ?_) ?_
    · unfold impl_codeOk.f; rw [if_neg (by omega)]
    · by_cases c2 : l.length ≤ 60
      · rw [decide_eq_true c2, decide_eq_false (by omega)]
        exact Ev.step (fun k => by simp only [impl_codeOk.j0]; rw [if_neg (by decide)]; rfl) loop
      · rw [decide_eq_false c2, decide_eq_true (by omega)]
        exact Ev.stop fun k => by simp only [impl_codeOk.j0, if_true]; rfl

end Go.Proofs.Ytmcboiffbcnalaa.Pure
