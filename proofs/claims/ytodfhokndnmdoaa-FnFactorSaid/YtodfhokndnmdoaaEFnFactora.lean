/- The functions at the leaves of StepOpt, the given one's and the model's, each beside the plain function that both compute. -/
import Derived.Test.YtodfhokndnmdoaaPFnFactorx3
import Derived.Test.YtodfhokndnmdoaaPFnFactorx10
namespace Go.Proofs.Ytodfhokndnmdoaa.Pure
open Go.RowKit Go.Proofs.Ytodfhokndnmdoaa.PFnFactor Go.Proofs.YtodfhokndnmdoaaW.PrintWords Go.Proofs.YtodfhokndnmdoaaW.PrintLast Go.Proofs.YtodfhokndnmdoaaW.PrintMore
set_option linter.unusedSimpArgs false
set_option linter.unusedVariables false

theorem w64 {x : Int} (h1 : -9223372036854775808 ≤ x) (h2 : x ≤ 9223372036854775807) : wrap64 x = x := by
  unfold wrap64; omega
theorem down {P : Nat → Prop} {n : Nat} (hend : P n) (hstep : ∀ i, i < n → P (i + 1) → P i) : ∀ i, i ≤ n → P i := by
  intro i hi
  obtain ⟨d, rfl⟩ : ∃ d, n = i + d := ⟨n - i, by omega⟩
  clear hi
  induction d generalizing i with
  | zero => exact hend
  | succ d ih => exact hstep i (by omega) (ih (i + 1) (by rw [show i + 1 + d = i + (d + 1) by omega]; exact hend) (fun j hj => hstep j (by omega)))
theorem wn (i : Nat) (h : i ≤ 4611686018427387904) : wrap64 ((i : Int) + 1) = ((i + 1 : Nat) : Int) := by
  rw [w64 (by omega) (by omega)]; omega
theorem getc {α : Type} (z : α) (l : List α) (i : Nat) (h : i < l.length) : l.getD (i : Int).toNat z = l[i] := by
  simp [List.getD_eq_getElem?_getD, List.getElem?_eq_getElem h]
theorem rd_lt (l : List Int) (i : Nat) (h : i < l.length) : rd l (i : Int) = l[i] := getc 0 l i h
theorem dropi (l : List Int) (i : Nat) (h : i < l.length) : l.drop i = rd l (i : Int) :: l.drop (i + 1) := by
  rw [rd_lt l i h]; exact List.drop_eq_getElem_cons h
theorem rd_mem (l : List Int) (i : Nat) (h : i < l.length) : rd l (i : Int) ∈ l := by
  rw [rd_lt l i h]; exact List.getElem_mem h
/-- A step that ends here. -/
theorem Ev.stop {α : Type} {g : Nat → Option α} {r : α} (h : ∀ k, g (k + 1) = some r) : Ev g r := Ev.step (f := fun _ => some r) h (Ev.now r)
def inR (lo hi x : Int) : Bool := decide (lo ≤ x) && decide (x ≤ hi)
theorem inR_iff {lo hi x : Int} : inR lo hi x = true ↔ lo ≤ x ∧ x ≤ hi := by unfold inR; simp
def allIn (lo hi : Int) (l : List Int) : Bool := l.all (inR lo hi)
theorem l5In_val (x lo hi : Int) : spec_l5In.f x lo hi = some (inR lo hi x) := by
  unfold spec_l5In.f inR
  by_cases c : lo ≤ x
  · rw [if_pos (by omega), decide_eq_true c, Bool.true_and]
  · rw [if_neg (by omega), decide_eq_false c, Bool.false_and]
theorem within_val (x lo hi : Int) : impl_within.f x lo hi = some (inR lo hi x) := by
  unfold impl_within.f inR
  by_cases c : lo ≤ x
  · rw [if_pos (by omega), decide_eq_true c, Bool.true_and]
  · rw [if_neg (by omega), decide_eq_false c, Bool.false_and]
theorem allWithin_ev (l : List Int) (lo hi : Int) (hl : l.length ≤ 1048576) : Ev (fun k => impl_allWithin.f k l lo hi) (allIn lo hi l) := by
  refine down (P := fun i => Ev (fun k => impl_allWithin.l0 k lo hi l (l.length : Int) (i : Int)) (allIn lo hi (l.drop i))) (n := l.length) ?_ ?_ 0 (Nat.zero_le _)
  · rw [List.drop_length]
    exact Ev.stop fun k => by simp only [impl_allWithin.l0]; rw [if_neg (by omega)]; rfl
  · intro i hi2 ih
    unfold allIn at ih ⊢
    rw [dropi l i hi2, List.all_cons]
    cases c : inR lo hi (rd l (i : Int)) with
    | false =>
      exact Ev.stop fun k => by simp only [impl_allWithin.l0, within_val, c, Option.bind_some]; rw [if_pos (by omega), if_pos (by omega), if_pos (by omega), if_neg (by decide)]; rfl
    | true =>
      rw [Bool.true_and]
      refine Ev.step (fun k => ?_) ih
      simp only [impl_allWithin.l0, within_val, c, Option.bind_some]
      rw [if_pos (by omega), if_pos (by omega), if_pos (by omega), if_pos trivial, wn i (by omega)]
/-! ### the rules -/
theorem rule_same (a b c d e f g h i j k : Int) : spec_RuleOk.f a b c d e f g h i j k = impl_RuleOk.f a b c d e f g h i j k := rfl
theorem rate_same (a b c d e : Int) : spec_Rate.f a b c d e = impl_Rate.f a b c d e := rfl
theorem near_same (a b : Int) : spec_Near.f a b = impl_Near.f a b := rfl
theorem round_some (a l q : Int) : ∃ v, impl_near.f a l q = some v := by
  unfold impl_near.f
  split
  · exact ⟨_, rfl⟩
  · split
    · split
      · exact ⟨_, rfl⟩
      · exact ⟨_, rfl⟩
    · exact ⟨_, rfl⟩
theorem near_some (l a : Int) : ∃ v, impl_Near.f l a = some v := by
  unfold impl_Near.f
  by_cases c1 : a < 1
  · exact ⟨0, by rw [if_pos c1]⟩
  rw [if_neg c1]
  by_cases c2 : a > 4611686018427387904
  · exact ⟨0, by rw [if_pos c2]⟩
  rw [if_neg c2, if_neg (by omega)]
  split
  · obtain ⟨v, hv⟩ := round_some (wrap64 ((wrap64 (Int.tdiv l a)) - 1)) (wrap64 ((Int.tmod l a) + a)) a
    exact ⟨v, by rw [hv]; rfl⟩
  · obtain ⟨v, hv⟩ := round_some (wrap64 (Int.tdiv l a)) (Int.tmod l a) a
    exact ⟨v, by rw [hv]; rfl⟩
def nearV (l a : Int) : Int := (impl_Near.f l a).getD 0
theorem near_val (l a : Int) : impl_Near.f l a = some (nearV l a) := by
  obtain ⟨v, hv⟩ := near_some l a
  unfold nearV
  rw [hv]; rfl
theorem near_valS (l a : Int) : spec_Near.f l a = some (nearV l a) := near_val l a
/-- The nearest whole number is not further from nought than what is parted. -/
theorem near_le {l a : Int} {B : Int} (h0 : -B ≤ l) (h1 : l ≤ B) (hB : B ≤ 4611686018427387904) (hB0 : 0 ≤ B) : -B ≤ nearV l a ∧ nearV l a ≤ B := by
  have hv := near_val l a
  generalize nearV l a = v at hv
  unfold impl_Near.f at hv
  by_cases c1 : a < 1
  · rw [if_pos c1] at hv; injection hv with hv; omega
  rw [if_neg c1] at hv
  by_cases c2 : a > 4611686018427387904
  · rw [if_pos c2] at hv; injection hv with hv; omega
  rw [if_neg c2, if_neg (by omega)] at hv
  have hd : a * Int.tdiv l a + Int.tmod l a = l := Int.mul_tdiv_add_tmod l a
  generalize hD : Int.tdiv l a = D at hv hd
  generalize hR : Int.tmod l a = R at hv hd
  have hDb : -B ≤ D ∧ D ≤ B := by
    subst hD
    constructor
    · by_cases hl : 0 ≤ l
      · have := Int.tdiv_nonneg hl (by omega : 0 ≤ a); omega
      · have h2 : Int.tdiv (-l) a ≤ -l := Int.tdiv_le_self (b := a) (by omega)
        rw [Int.neg_tdiv] at h2; omega
    · by_cases hl : 0 ≤ l
      · have h2 : Int.tdiv l a ≤ l := Int.tdiv_le_self (b := a) hl
        omega
      · have := Int.tdiv_nonneg (a := -l) (by omega) (by omega : 0 ≤ a)
        rw [Int.neg_tdiv] at this; omega
  have hRs : R = l - a * D := by omega
  have hR1 : -a < R := by
    subst hR
    by_cases hl : 0 ≤ l
    · have := Int.tmod_nonneg (a := l) a hl; omega
    · have := Int.tmod_lt_of_pos (-l) (by omega : 0 < a)
      rw [Int.neg_tmod] at this; omega
  have hR2 : R < a := by subst hR; exact Int.tmod_lt_of_pos l (by omega)
  have hA : ∀ x r q v : Int, impl_near.f x r q = some v → -4611686018427387904 ≤ q - r → q - r ≤ 4611686018427387904 → -9223372036854775807 ≤ x → x < 9223372036854775807 → (v = x ∨ (v = x + 1 ∧ q - r ≤ r)) := by
    intro x r q v h a1 a2 a3 a4
    unfold impl_near.f at h
    rw [w64 (x := q - r) (by omega) (by omega), w64 (x := x + 1) (by omega) (by omega)] at h
    split at h
    · injection h with h; right; omega
    · split at h
      · split at h
        · injection h with h; right; omega
        · injection h with h; left; omega
      · injection h with h; left; omega
  have bind_id : ∀ (o : Option Int), (o.bind fun q => some q) = o := by intro o; cases o <;> rfl
  split at hv
  · rename_i hneg
    rw [bind_id, w64 (x := D) (by omega) (by omega), w64 (x := D - 1) (by omega) (by omega), w64 (x := R + a) (by omega) (by omega)] at hv
    have hlneg : l < 0 := by
      apply Classical.byContradiction
      intro hc
      have := Int.tmod_nonneg (a := l) a (by omega)
      omega
    have hD0 : D ≤ 0 := by
      subst hD
      have := Int.tdiv_nonneg (a := -l) (by omega) (by omega : 0 ≤ a)
      rw [Int.neg_tdiv] at this; omega
    have hDl : l ≤ D - 1 := by
      by_cases hD1 : D = 0
      · omega
      · have : a * D ≤ 1 * D := Int.mul_le_mul_of_nonpos_right (by omega) hD0
        omega
    rcases hA _ _ _ _ hv (by omega) (by omega) (by omega) (by omega) with e | ⟨e, _⟩ <;> omega
  · rename_i hneg
    rw [bind_id, w64 (x := D) (by omega) (by omega)] at hv
    rcases hA _ _ _ _ hv (by omega) (by omega) (by omega) (by omega) with e | ⟨e, hq⟩
    · omega
    · subst e
      have : 1 ≤ R := by omega
      by_cases hl : 0 ≤ l
      · have hD0 : 0 ≤ D := by subst hD; exact Int.tdiv_nonneg hl (by omega)
        have : 1 * D ≤ a * D := Int.mul_le_mul_of_nonneg_right (by omega) hD0
        omega
      · have hneg2 : R ≤ 0 := by
          have := Int.tmod_nonneg (a := -l) a (by omega)
          rw [Int.neg_tmod] at this; omega
        omega
end Go.Proofs.Ytodfhokndnmdoaa.Pure
