/- The functions at the leaves of LmOk, the given one's and the model's, each beside the plain function that both compute. -/
import Derived.Test.YtdlhmhgpafegpaaPFnExactWeightsx0
import Derived.Test.YtdlhmhgpafegpaaPFnExactWeightsx2
import Derived.Test.YtdlhmhgpafegpaaPFnExactWeightsx3
import Derived.Test.YtdlhmhgpafegpaaPFnExactWeightsx4
import Derived.Test.YtdlhmhgpafegpaaPFnExactWeightsx5
import Derived.Test.YtdlhmhgpafegpaaEFnExactWeightss
namespace Go.Proofs.Ytdlhmhgpafegpaa.Pure
open Go.RowKit Go.Proofs.Ytdlhmhgpafegpaa.PFnExactWeights Go.Proofs.YtdlhmhgpafegpaaW.PrintWords Go.Proofs.YtdlhmhgpafegpaaW.PrintLast Go.Proofs.YtdlhmhgpafegpaaW.PrintMore Go.Proofs.Ytdlhmhgpafegpaa.SortRows
set_option linter.unusedSimpArgs false
set_option linter.unusedVariables false

theorem w64 {x : Int} (h1 : -9223372036854775808 ≤ x) (h2 : x ≤ 9223372036854775807) : wrap64 x = x := by
  unfold wrap64; omega
theorem down {P : Nat → Prop} {n : Nat} (hend : P n) (hstep : ∀ i, i < n → P (i + 1) → P i) : ∀ i, i ≤ n → P i := by
  intro i hi
  obtain ⟨d, rfl⟩ : ∃ d, n = i + d := ⟨n - i, by omega⟩
  clear hi
  induction d generalizing i with
  | zero => exact hend
  | succ d ih => exact hstep i (by omega) (ih (i + 1) (by rw [show i + 1 + d = i + (d + 1) by omega]; exact hend) (fun j hj => hstep j (by omega)))
theorem wn (i : Nat) (h : i ≤ 4611686018427387904) : wrap64 ((i : Int) + 1) = ((i + 1 : Nat) : Int) := by
  rw [w64 (by omega) (by omega)]; omega
theorem getc {α : Type} (z : α) (l : List α) (i : Nat) (h : i < l.length) : l.getD (i : Int).toNat z = l[i] := by
  simp [List.getD_eq_getElem?_getD, List.getElem?_eq_getElem h]
theorem rd_lt (l : List Int) (i : Nat) (h : i < l.length) : rd l (i : Int) = l[i] := getc 0 l i h
theorem dropi (l : List Int) (i : Nat) (h : i < l.length) : l.drop i = rd l (i : Int) :: l.drop (i + 1) := by
  rw [rd_lt l i h]; exact List.drop_eq_getElem_cons h
theorem drop57 (l : List S57) (i : Nat) (h : i < l.length) : l.drop i = rd_T57 l (i : Int) :: l.drop (i + 1) := by
  rw [show rd_T57 l (i : Int) = l[i] from getc z57 l i h]; exact List.drop_eq_getElem_cons h
theorem drop71 (l : List S71) (i : Nat) (h : i < l.length) : l.drop i = rd_T71 l (i : Int) :: l.drop (i + 1) := by
  rw [show rd_T71 l (i : Int) = l[i] from getc z71 l i h]; exact List.drop_eq_getElem_cons h
theorem mem_drop {α : Type} {l : List α} {x : α} {r : List α} {i : Nat} (h : l.drop i = x :: r) : x ∈ l := List.mem_of_mem_drop (by rw [h]; simp)
/-- A step that ends here. -/
theorem Ev.stop {α : Type} {g : Nat → Option α} {r : α} (h : ∀ k, g (k + 1) = some r) : Ev g r := Ev.step (f := fun _ => some r) h (Ev.now r)
def inR (lo hi x : Int) : Bool := decide (lo ≤ x) && decide (x ≤ hi)
def allIn (lo hi : Int) (l : List Int) : Bool := l.all (inR lo hi)
theorem l5In_val (x lo hi : Int) : spec_l5In.f x lo hi = some (inR lo hi x) := by
  unfold spec_l5In.f inR
  by_cases c : lo ≤ x
  · rw [if_pos (by omega), decide_eq_true c, Bool.true_and]
  · rw [if_neg (by omega), decide_eq_false c, Bool.false_and]
theorem within_val (x lo hi : Int) : impl_within.f x lo hi = some (inR lo hi x) := by
  unfold impl_within.f inR
  by_cases c : lo ≤ x
  · rw [if_pos (by omega), decide_eq_true c, Bool.true_and]
  · rw [if_neg (by omega), decide_eq_false c, Bool.false_and]
theorem allWithin_ev (l : List Int) (lo hi : Int) (hl : l.length ≤ 1048576) : Ev (fun k => impl_allWithin.f k l lo hi) (allIn lo hi l) := by
  refine down (P := fun i => Ev (fun k => impl_allWithin.l0 k lo hi l (l.length : Int) (i : Int)) (allIn lo hi (l.drop i))) (n := l.length) ?_ ?_ 0 (Nat.zero_le _)
  · rw [List.drop_length]
    exact Ev.stop fun k => by simp only [impl_allWithin.l0]; rw [if_neg (by omega)]; rfl
  · intro i hi2 ih
    unfold allIn at ih ⊢
    rw [dropi l i hi2, List.all_cons]
    cases c : inR lo hi (rd l (i : Int)) with
    | false =>
      exact Ev.stop fun k => by simp only [impl_allWithin.l0, within_val, c, Option.bind_some]; rw [if_pos (by omega), if_pos (by omega), if_pos (by omega), if_neg (by decide)]; rfl
    | true =>
      rw [Bool.true_and]
      refine Ev.step (fun k => ?_) ih
      simp only [impl_allWithin.l0, within_val, c, Option.bind_some]
      rw [if_pos (by omega), if_pos (by omega), if_pos (by omega), if_pos trivial, wn i (by omega)]
theorem all_ev (l : List Int) (x : Int) (hl : l.length ≤ 1048576) : Ev (fun k => impl_all.f k l x) (l.all fun y => decide (x = y)) := by
  refine down (P := fun i => Ev (fun k => impl_all.l0 k x l (l.length : Int) (i : Int)) ((l.drop i).all fun y => decide (x = y))) (n := l.length) ?_ ?_ 0 (Nat.zero_le _)
  · rw [List.drop_length]
    exact Ev.stop fun k => by simp only [impl_all.l0]; rw [if_neg (by omega)]; rfl
  · intro i hi2 ih
    rw [dropi l i hi2, List.all_cons]
    by_cases c : x = rd l (i : Int)
    · rw [decide_eq_true c, Bool.true_and]
      refine Ev.step (fun k => ?_) ih
      simp only [impl_all.l0]
      rw [if_pos (by omega), if_pos (by omega), if_pos (by omega), if_pos c, wn i (by omega)]
    · rw [decide_eq_false c]
      exact Ev.stop fun k => by simp only [impl_all.l0]; rw [if_pos (by omega), if_pos (by omega), if_pos (by omega), if_neg c]; rfl
theorem tokens_ev (l : List Int) (size : Int) (h1 : 1 ≤ size) (h2 : size ≤ 64) (hl : l.length ≤ 1048576) : Ev (fun k => spec_l21Tokens.f k l size) (allIn 0 (size - 1) l) := by
  refine down (P := fun i => Ev (fun k => spec_l21Tokens.l0 k l size (i : Int)) (allIn 0 (size - 1) (l.drop i))) (n := l.length) ?_ ?_ 0 (Nat.zero_le _)
  · rw [List.drop_length]
    exact Ev.stop fun k => by simp only [spec_l21Tokens.l0]; rw [if_neg (by omega)]; rfl
  · intro i hi2 ih
    unfold allIn at ih ⊢
    rw [dropi l i hi2, List.all_cons]
    have e : wrap64 (size - 1) = size - 1 := w64 (by omega) (by omega)
    cases c : inR 0 (size - 1) (rd l (i : Int)) with
    | false =>
      exact Ev.stop fun k => by simp only [spec_l21Tokens.l0, l5In_val, e, c, Option.bind_some]; rw [if_pos (by omega), if_pos (by omega), if_neg (by decide)]; rfl
    | true =>
      rw [Bool.true_and]
      refine Ev.step (fun k => ?_) ih
      simp only [spec_l21Tokens.l0, l5In_val, e, c, Option.bind_some]
      rw [if_pos (by omega), if_pos (by omega), if_pos trivial, wn i (by omega)]
theorem sum_ev (l : List Int) (hl : l.length ≤ 64) (hx : allIn 0 1000 l = true) : Ev (fun k => spec_l21Sum.f k l) l.sum := by
  have hb : ∀ x ∈ l, 0 ≤ x ∧ x ≤ 1000 := fun x hx2 => by
    have := List.all_eq_true.1 hx x hx2
    unfold inR at this
    simpa using this
  suffices h : Ev (fun k => spec_l21Sum.l0 k l 0 ((0 : Nat) : Int)) ((0 : Int) + (l.drop 0).sum) by
    rw [List.drop_zero, Int.zero_add] at h; exact h
  refine down (P := fun i => ∀ a : Int, 0 ≤ a → a ≤ 1000 * i → Ev (fun k => spec_l21Sum.l0 k l a (i : Int)) (a + (l.drop i).sum)) (n := l.length) ?_ ?_ 0 (Nat.zero_le _) 0 (by omega) (by omega)
  · intro a _ _
    rw [List.drop_length]
    exact Ev.stop fun k => by simp only [spec_l21Sum.l0]; rw [if_neg (by omega)]; simp
  · intro i hi2 ih a h0 h1
    have hm := hb _ (mem_drop (dropi l i hi2))
    rw [dropi l i hi2, List.sum_cons, ← Int.add_assoc]
    refine Ev.step (fun k => ?_) (ih (a + rd l (i : Int)) (by omega) (by omega))
    simp only [spec_l21Sum.l0]
    rw [if_pos (by omega), if_pos (by omega), w64 (x := a + _) (by omega) (by omega), wn i (by omega)]
theorem sum_pos : ∀ (l : List Int), allIn 0 1000 l = true → 0 ≤ l.sum ∧ (decide (l.sum > 0) = !l.all fun y => decide (0 = y))
  | [], _ => by simp
  | x :: r, h => by
    unfold allIn at h
    rw [List.all_cons, Bool.and_eq_true] at h
    obtain ⟨h1, h2⟩ := sum_pos r h.2
    have hx : 0 ≤ x ∧ x ≤ 1000 := by have := h.1; unfold inR at this; simpa using this
    rw [List.sum_cons, List.all_cons]
    refine ⟨by omega, ?_⟩
    by_cases c : 0 = x
    · subst c
      simpa using h2
    · rw [decide_eq_true (by omega : x + r.sum > 0), decide_eq_false c]; rfl
def wtsB (l : List Int) : Bool := allIn 0 1000 l && !l.all fun y => decide (0 = y)
theorem weights_ev (l : List Int) (hl : l.length ≤ 64) : Ev (fun k => spec_l21Weights.f k l) (wtsB l) := by
  suffices H : ∀ i, i ≤ l.length → allIn 0 1000 (l.take i) = true → Ev (fun k => spec_l21Weights.l0 k l (i : Int)) (allIn 0 1000 (l.drop i) && !l.all fun y => decide (0 = y)) by
    have := H 0 (Nat.zero_le _) rfl
    rw [List.drop_zero] at this
    exact this
  refine down (P := fun i => allIn 0 1000 (l.take i) = true → Ev (fun k => spec_l21Weights.l0 k l (i : Int)) (allIn 0 1000 (l.drop i) && !l.all fun y => decide (0 = y))) ?_ ?_
  · intro h
    rw [List.take_length] at h
    rw [List.drop_length]
    have hs := sum_pos l h
    refine Ev.step (f := fun k => (spec_l21Sum.f k l).bind fun u => some (decide (u > 0))) (fun k => ?_) (Ev.bind (sum_ev l hl h) ?_)
    · simp only [spec_l21Weights.l0]; rw [if_neg (by omega)]
    · rw [hs.2]; exact Ev.now _
  · intro i hi ih h
    have hd := dropi l i hi
    have hx := rd_lt l i hi
    unfold allIn at ih h ⊢
    rw [hd, List.all_cons]
    cases c : inR 0 1000 (rd l (i : Int)) with
    | false =>
      exact Ev.stop fun k => by simp only [spec_l21Weights.l0, l5In_val, c, Option.bind_some]; rw [if_pos (by omega), if_pos (by omega), if_neg (by decide)]; rfl
    | true =>
      rw [Bool.true_and]
      refine Ev.step (fun k => ?_) (ih (by rw [List.take_succ_eq_append_getElem hi, List.all_append, h, ← hx]; simp [c]))
      simp only [spec_l21Weights.l0, l5In_val, c, Option.bind_some]
      rw [if_pos (by omega), if_pos (by omega), if_pos trivial, wn i (by omega)]
theorem same_ev (s t : List Int) (hs : s.length ≤ 1048576) : Ev (fun k => spec_l3SameInts.f k s t) (decide (s = t)) := by
  unfold spec_l3SameInts.f
  by_cases c : s.length = t.length
  · refine Ev.congr (f := fun k => spec_l3SameInts.l0 k s t ((0 : Nat) : Int)) (fun k => by rw [if_pos (by omega)]; rfl) ?_
    have H : ∀ i, i ≤ s.length → Ev (fun k => spec_l3SameInts.l0 k s t (i : Int)) (decide (s.drop i = t.drop i)) := by
      refine down (P := fun i => Ev (fun k => spec_l3SameInts.l0 k s t (i : Int)) (decide (s.drop i = t.drop i))) ?_ ?_
      · rw [List.drop_length, c, List.drop_length]
        exact Ev.stop fun k => by simp only [spec_l3SameInts.l0]; rw [if_neg (by omega)]; rfl
      · intro i hi ih
        have hi2 : i < t.length := by omega
        rw [dropi s i hi, dropi t i hi2]
        by_cases c1 : rd s (i : Int) = rd t (i : Int)
        · rw [show decide (rd s (i : Int) :: s.drop (i + 1) = rd t (i : Int) :: t.drop (i + 1)) = decide (s.drop (i + 1) = t.drop (i + 1)) by rw [c1]; simp]
          refine Ev.step (fun k => ?_) ih
          simp only [spec_l3SameInts.l0]
          rw [if_pos (by omega), if_pos (by omega), if_pos (by omega), if_pos c1, wn i (by omega)]
        · rw [decide_eq_false (by intro h; injection h with h1 _; exact c1 h1)]
          exact Ev.stop fun k => by simp only [spec_l3SameInts.l0]; rw [if_pos (by omega), if_pos (by omega), if_pos (by omega), if_neg c1]
    have := H 0 (Nat.zero_le _)
    rwa [List.drop_zero, List.drop_zero] at this
  · rw [decide_eq_false (by intro h; exact c (by rw [h]))]
    exact Ev.congr (fun k => by rw [if_neg (by omega)]) (Ev.now _)
theorem byKey_ev (s t : List Int) (hs : s.length ≤ 1048576) : Ev (fun k => impl_byKey.f k s t) (keyCmp s t) := by
  unfold impl_byKey.f
  refine Ev.congr (f := fun k => (slices_Compare_int_int.f k s t).bind fun l => (cmp_Or_int.f k [(if (s.length : Int) < (t.length : Int) then -1 else if (t.length : Int) < (s.length : Int) then 1 else 0), l]).bind fun q => some q) (fun k => by rw [cmp_val]; rfl) ?_
  refine Ev.bind (compare_ev s t (by omega)) ?_
  have or_ev : ∀ a b : Int, Ev (fun k => cmp_Or_int.f k [a, b]) (if a = 0 then b else a) := fun a b => ⟨3, fun k hk => by
    obtain ⟨m, rfl⟩ : ∃ m, k = m + 3 := ⟨k - 3, by omega⟩
    by_cases c1 : a = 0
    · subst c1
      by_cases c2 : b = 0
      · subst c2; simp [cmp_Or_int.f, cmp_Or_int.l0, rd, wrap64]
      · simp [cmp_Or_int.f, cmp_Or_int.l0, rd, wrap64, c2]
    · simp [cmp_Or_int.f, cmp_Or_int.l0, rd, wrap64, c1]⟩
  refine Ev.bind (or_ev _ _) ?_
  have e : (if (if (s.length : Int) < (t.length : Int) then (-1 : Int) else if (t.length : Int) < (s.length : Int) then 1 else 0) = 0 then lexCmp s t else (if (s.length : Int) < (t.length : Int) then -1 else if (t.length : Int) < (s.length : Int) then 1 else 0)) = keyCmp s t := by
    unfold keyCmp
    by_cases c1 : s.length < t.length
    · rw [if_pos c1, if_pos (by omega : (s.length : Int) < (t.length : Int)), if_neg (by omega)]
    · rw [if_neg c1, if_neg (by omega : ¬ (s.length : Int) < (t.length : Int))]
      by_cases c2 : t.length < s.length
      · rw [if_pos c2, if_pos (by omega : (t.length : Int) < (s.length : Int)), if_neg (by omega)]
      · rw [if_neg c2, if_neg (by omega : ¬ (t.length : Int) < (s.length : Int)), if_pos rfl]
  rw [e]
  exact Ev.now _
end Go.Proofs.Ytdlhmhgpafegpaa.Pure
