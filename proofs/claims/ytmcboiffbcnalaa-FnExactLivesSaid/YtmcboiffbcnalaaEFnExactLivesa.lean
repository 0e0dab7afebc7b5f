/- The functions at the leaves of NestOk, the given one's and the model's, each beside the plain function that both compute. -/
import Derived.Test.YtmcboiffbcnalaaPFnExactLivesx2
import Derived.Test.YtmcboiffbcnalaaPFnExactLivesx12
namespace Go.Proofs.Ytmcboiffbcnalaa.Pure
open Go.RowKit Go.Proofs.Ytmcboiffbcnalaa.PFnExactLives Go.Proofs.YtmcboiffbcnalaaW.PrintWords Go.Proofs.YtmcboiffbcnalaaW.PrintLast Go.Proofs.YtmcboiffbcnalaaW.PrintMore

theorem w64 {x : Int} (h1 : -9223372036854775808 ≤ x) (h2 : x ≤ 9223372036854775807) : wrap64 x = x := by
  unfold wrap64; omega
theorem down {P : Nat → Prop} {n : Nat} (hend : P n) (hstep : ∀ i, i < n → P (i + 1) → P i) : ∀ i, i ≤ n → P i := by
  intro i hi
  obtain ⟨d, rfl⟩ : ∃ d, n = i + d := ⟨n - i, by omega⟩
  clear hi
  induction d generalizing i with
  | zero => exact hend
  | succ d ih => exact hstep i (by omega) (ih (i + 1) (by rw [show i + 1 + d = i + (d + 1) by omega]; exact hend) (fun j hj => hstep j (by omega)))
theorem wn (i : Nat) (h : i ≤ 4611686018427387904) : wrap64 ((i : Int) + 1) = ((i + 1 : Nat) : Int) := by
  rw [w64 (by omega) (by omega)]; omega
theorem getc {α : Type} (z : α) (l : List α) (i : Nat) (h : i < l.length) : l.getD (i : Int).toNat z = l[i] := by
  simp [List.getD_eq_getElem?_getD, List.getElem?_eq_getElem h]
theorem rd_lt (l : List Int) (i : Nat) (h : i < l.length) : rd l (i : Int) = l[i] := getc 0 l i h
theorem dropi (l : List Int) (i : Nat) (h : i < l.length) : l.drop i = rd l (i : Int) :: l.drop (i + 1) := by
  rw [rd_lt l i h]; exact List.drop_eq_getElem_cons h
theorem drop204 (l : List S122) (i : Nat) (h : i < l.length) : l.drop i = rd_T122 l (i : Int) :: l.drop (i + 1) := by
  rw [show rd_T122 l (i : Int) = l[i] from getc z122 l i h]; exact List.drop_eq_getElem_cons h
/-- A step that ends here. -/
theorem Ev.stop {α : Type} {g : Nat → Option α} {r : α} (h : ∀ k, g (k + 1) = some r) : Ev g r := Ev.step (f := fun _ => some r) h (Ev.now r)

theorem within_ev (l : List Int) (n : Int) (hl : l.length ≤ 1048576) : Ev (fun k => spec_l4Within.f k l n) (l.all fun x => decide (0 ≤ x) && decide (x < n)) := by
  refine down (P := fun i => Ev (fun k => spec_l4Within.l0 k l n (i : Int)) ((l.drop i).all fun x => decide (0 ≤ x) && decide (x < n))) (n := l.length) ?_ ?_ 0 (Nat.zero_le _)
  · rw [List.drop_length]
    exact Ev.stop fun k => by simp only [spec_l4Within.l0]; rw [if_neg (by omega)]; rfl
  · intro i hi ih
    rw [dropi l i hi, List.all_cons]
    by_cases c1 : rd l (i : Int) < 0
    · rw [decide_eq_false (by omega : ¬ 0 ≤ rd l (i : Int))]
      exact Ev.stop fun k => by simp only [spec_l4Within.l0]; rw [if_pos (by omega), if_pos (by omega), if_pos c1]; rfl
    · rw [decide_eq_true (by omega : 0 ≤ rd l (i : Int))]
      by_cases c2 : rd l (i : Int) ≥ n
      · rw [decide_eq_false (by omega : ¬ rd l (i : Int) < n)]
        exact Ev.stop fun k => by simp only [spec_l4Within.l0]; rw [if_pos (by omega), if_pos (by omega), if_neg c1, if_pos c2]; rfl
      · rw [decide_eq_true (by omega : rd l (i : Int) < n)]
        refine Ev.step (fun k => ?_) ih
        simp only [spec_l4Within.l0]
        rw [if_pos (by omega), if_pos (by omega), if_neg c1, if_neg c2, wn i (by omega)]
theorem has_ev (l : List Int) (x : Int) (hl : l.length ≤ 4194304) : Ev (fun k => spec_l7Has.f k l x) (l.any fun y => decide (y = x)) := by
  refine down (P := fun i => Ev (fun k => spec_l7Has.l0 k l x (i : Int)) ((l.drop i).any fun y => decide (y = x))) (n := l.length) ?_ ?_ 0 (Nat.zero_le _)
  · rw [List.drop_length]
    exact Ev.stop fun k => by simp only [spec_l7Has.l0]; rw [if_neg (by omega)]; rfl
  · intro i hi ih
    rw [dropi l i hi, List.any_cons]
    by_cases c1 : rd l (i : Int) = x
    · rw [decide_eq_true c1]
      exact Ev.stop fun k => by simp only [spec_l7Has.l0]; rw [if_pos (by omega), if_pos (by omega), if_pos c1]; rfl
    · rw [decide_eq_false c1]
      refine Ev.step (fun k => ?_) ih
      simp only [spec_l7Has.l0]
      rw [if_pos (by omega), if_pos (by omega), if_neg c1, wn i (by omega)]
def numsOk (l : List Int) : Bool := l.all fun x => decide (0 ≤ x) && decide (x < 2147483647)
theorem rowOk_ev (l : List Int) (h0 : 0 < l.length) (hl : l.length ≤ 4096) : Ev (fun k => spec_l5RowOk.f k l) (numsOk l) := by
  refine down (P := fun i => Ev (fun k => spec_l5RowOk.l0 k l (i : Int)) (numsOk (l.drop i))) (n := l.length) ?_ ?_ 0 (Nat.zero_le _)
  · rw [List.drop_length]
    exact Ev.stop fun k => by simp only [spec_l5RowOk.l0]; rw [if_neg (by omega), if_pos (by omega), decide_eq_true (by omega)]; rfl
  · intro i hi ih
    unfold numsOk at ih ⊢
    rw [dropi l i hi, List.all_cons]
    by_cases c1 : rd l (i : Int) < 0
    · rw [decide_eq_false (by omega : ¬ 0 ≤ rd l (i : Int))]
      exact Ev.stop fun k => by simp only [spec_l5RowOk.l0]; rw [if_pos (by omega), if_pos (by omega), if_pos c1]; rfl
    · rw [decide_eq_true (by omega : 0 ≤ rd l (i : Int))]
      by_cases c2 : rd l (i : Int) ≥ 2147483647
      · rw [decide_eq_false (by omega : ¬ rd l (i : Int) < 2147483647)]
        exact Ev.stop fun k => by simp only [spec_l5RowOk.l0]; rw [if_pos (by omega), if_pos (by omega), if_neg c1, if_pos c2]; rfl
      · rw [decide_eq_true (by omega : rd l (i : Int) < 2147483647)]
        refine Ev.step (fun k => ?_) ih
        simp only [spec_l5RowOk.l0]
        rw [if_pos (by omega), if_pos (by omega), if_neg c1, if_neg c2, wn i (by omega)]
/-- The product of a kernel's loops, 0 where it may not be. -/
def prodF (acc : Int) : List Int → Int
  | [] => acc
  | d :: r => if d < 1 then 0 else if d > 65536 then 0 else if acc * d > 65536 then 0 else prodF (acc * d) r
theorem mulb {a d : Int} (h1 : 1 ≤ a) (h2 : a ≤ 65536) (h3 : 1 ≤ d) (h4 : d ≤ 65536) : 1 ≤ a * d ∧ a * d ≤ 4294967296 := by
  have u := Int.mul_le_mul h1 h3 (by omega) (by omega)
  have v := Int.mul_le_mul h2 h4 (by omega) (by omega)
  omega
theorem prod_loop (l : List Int) (hl : l.length ≤ 1048576) : ∀ i, i ≤ l.length → ∀ acc : Int, 1 ≤ acc → acc ≤ 65536 → Ev (fun k => spec_l11Product.l0 k l acc (i : Int)) (prodF acc (l.drop i)) := by
  refine down (P := fun i => ∀ acc : Int, 1 ≤ acc → acc ≤ 65536 → Ev (fun k => spec_l11Product.l0 k l acc (i : Int)) (prodF acc (l.drop i))) ?_ ?_
  · intro acc _ _
    rw [List.drop_length]
    exact Ev.stop fun k => by simp only [spec_l11Product.l0]; rw [if_neg (by omega)]; rfl
  · intro i hi ih acc h1 h2
    rw [dropi l i hi, prodF]
    have yes : Ev (fun k => spec_l11Product.j1 k l acc (i : Int) true) 0 := Ev.stop fun k => by simp only [spec_l11Product.j1, if_true]
    by_cases c1 : rd l (i : Int) < 1
    · rw [if_pos c1]
      refine Ev.step (fun k => ?_) yes
      simp only [spec_l11Product.l0]; rw [if_pos (by omega), if_pos (by omega), if_pos c1]
    · rw [if_neg c1]
      by_cases c2 : rd l (i : Int) > 65536
      · rw [if_pos c2]
        refine Ev.step (fun k => ?_) yes
        simp only [spec_l11Product.l0]; rw [if_pos (by omega), if_pos (by omega), if_neg c1, if_pos c2]
      · rw [if_neg c2]
        have hm := mulb h1 h2 (show 1 ≤ rd l (i : Int) by omega) (by omega)
        have e : wrap64 (acc * rd l (i : Int)) = acc * rd l (i : Int) := w64 (by omega) (by omega)
        refine Ev.step (f := fun k => spec_l11Product.j1 k l acc (i : Int) (decide (acc * rd l (i : Int) > 65536))) (fun k => ?_) ?_
        · simp only [spec_l11Product.l0]; rw [if_pos (by omega), if_pos (by omega), if_neg c1, if_neg c2, e]
        · by_cases c3 : acc * rd l (i : Int) > 65536
          · rw [if_pos c3, decide_eq_true c3]; exact yes
          · rw [if_neg c3, decide_eq_false c3]
            refine Ev.step (fun k => ?_) (ih _ hm.1 (by omega))
            simp only [spec_l11Product.j1]
            rw [if_neg (by decide), if_pos (by omega), if_pos (by omega), e, wn i (by omega)]
theorem prod_ev (l : List Int) (hl : l.length ≤ 1048576) : Ev (fun k => spec_l11Product.f k l) (prodF 1 l) := prod_loop l hl 0 (Nat.zero_le _) 1 (by omega) (by omega)
theorem prodF_range : ∀ (l : List Int) (acc : Int), 1 ≤ acc → acc ≤ 65536 → 0 ≤ prodF acc l ∧ prodF acc l ≤ 65536
  | [], acc, h1, h2 => by unfold prodF; omega
  | d :: r, acc, h1, h2 => by
    unfold prodF
    by_cases c1 : d < 1
    · rw [if_pos c1]; omega
    · rw [if_neg c1]
      by_cases c2 : d > 65536
      · rw [if_pos c2]; omega
      · rw [if_neg c2]
        by_cases c3 : acc * d > 65536
        · rw [if_pos c3]; omega
        · rw [if_neg c3]
          have hm := mulb h1 h2 (show 1 ≤ d by omega) (by omega)
          exact prodF_range r (acc * d) hm.1 (by omega)
/-- Where the product is not 0 every loop is from 1 to 65536. -/
theorem prodF_dims : ∀ (l : List Int) (acc : Int), 1 ≤ acc → acc ≤ 65536 → prodF acc l ≠ 0 → ∀ d ∈ l, 1 ≤ d ∧ d ≤ 65536
  | [], _, _, _ => by simp
  | d :: r, acc, h1, h2 => by
    unfold prodF
    by_cases c1 : d < 1
    · rw [if_pos c1]; simp
    · rw [if_neg c1]
      by_cases c2 : d > 65536
      · rw [if_pos c2]; simp
      · rw [if_neg c2]
        by_cases c3 : acc * d > 65536
        · rw [if_pos c3]; simp
        · rw [if_neg c3]
          intro hne x hx
          have hm := mulb h1 h2 (show 1 ≤ d by omega) (by omega)
          rcases List.mem_cons.1 hx with rfl | hx
          · omega
          · exact prodF_dims r (acc * d) hm.1 (by omega) hne x hx
def workR (n : Nat) (p : Int) : Int × Bool := if p = 0 then (0, false) else (p, decide ((n : Int) ≤ 12))
theorem work_loop (l : List Int) (hl : l.length ≤ 1048576) : ∀ i, i ≤ l.length → ∀ acc : Int, 1 ≤ acc → acc ≤ 65536 → Ev (fun k => impl_work.l0 k l acc l (l.length : Int) (i : Int)) (workR l.length (prodF acc (l.drop i))) := by
  refine down (P := fun i => ∀ acc : Int, 1 ≤ acc → acc ≤ 65536 → Ev (fun k => impl_work.l0 k l acc l (l.length : Int) (i : Int)) (workR l.length (prodF acc (l.drop i)))) ?_ ?_
  · intro acc h1 _
    rw [List.drop_length, prodF, workR, if_neg (by omega)]
    exact Ev.stop fun k => by simp only [impl_work.l0]; rw [if_neg (by omega)]
  · intro i hi ih acc h1 h2
    rw [dropi l i hi, prodF]
    have yes : Ev (fun k => impl_work.j1 k l acc (rd l (i : Int)) l (l.length : Int) (i : Int) true) (workR l.length 0) := Ev.stop fun k => by simp only [impl_work.j1, if_true]; rfl
    by_cases c1 : rd l (i : Int) < 1
    · rw [if_pos c1]
      refine Ev.step (fun k => ?_) yes
      simp only [impl_work.l0]; rw [if_pos (by omega), if_pos (by omega), if_pos (by omega), if_pos c1]
    · rw [if_neg c1]
      refine Ev.step (f := fun k => impl_work.j1 k l acc (rd l (i : Int)) l (l.length : Int) (i : Int) (decide (rd l (i : Int) > 65536))) (fun k => ?_) ?_
      · simp only [impl_work.l0]; rw [if_pos (by omega), if_pos (by omega), if_pos (by omega), if_neg c1]
      · by_cases c2 : rd l (i : Int) > 65536
        · rw [if_pos c2, decide_eq_true c2]; exact yes
        · rw [if_neg c2, decide_eq_false c2]
          have hm := mulb h1 h2 (show 1 ≤ rd l (i : Int) by omega) (by omega)
          have e : wrap64 (acc * rd l (i : Int)) = acc * rd l (i : Int) := w64 (by omega) (by omega)
          by_cases c3 : acc * rd l (i : Int) > 65536
          · rw [if_pos c3]
            exact Ev.stop fun k => by simp only [impl_work.j1]; rw [if_neg (by decide), e, if_pos c3]; rfl
          · rw [if_neg c3]
            refine Ev.step (fun k => ?_) (ih _ hm.1 (by omega))
            simp only [impl_work.j1]
            rw [if_neg (by decide), e, if_neg c3, wn i (by omega)]
theorem work_ev (l : List Int) (hl : l.length ≤ 1048576) : Ev (fun k => impl_work.f k l) (workR l.length (prodF 1 l)) := work_loop l hl 0 (Nat.zero_le _) 1 (by omega) (by omega)

end Go.Proofs.Ytmcboiffbcnalaa.Pure
