/- Slots, in order: what the two programs sort is one list, and sorted it is one list. -/
import Derived.Test.YtiabkadcgmamaaaPFnExactFillSlotsx7
namespace Go.Proofs.Ytiabkadcgmamaaa.Pure
open Go.RowKit Go.Proofs.Ytiabkadcgmamaaa.PFnExactFillSlots Go.Proofs.YtiabkadcgmamaaaW.PrintWords Go.Proofs.YtiabkadcgmamaaaW.PrintLast Go.Proofs.YtiabkadcgmamaaaW.PrintMore Go.Proofs.Ytiabkadcgmamaaa.SortSlots
set_option linter.unusedSimpArgs false
set_option linter.unusedVariables false

theorem w64 {x : Int} (h1 : -9223372036854775808 ≤ x) (h2 : x ≤ 9223372036854775807) : wrap64 x = x := by
  unfold wrap64; omega
theorem wn (i : Nat) (h : i ≤ 4611686018427387904) : wrap64 ((i : Int) + 1) = ((i + 1 : Nat) : Int) := by
  rw [w64 (by omega) (by omega)]; omega
theorem down {P : Nat → Prop} {n : Nat} (hend : P n) (hstep : ∀ i, i < n → P (i + 1) → P i) : ∀ i, i ≤ n → P i := by
  have : ∀ d i, i + d = n → P i := by
    intro d
    induction d with
    | zero => intro i h; obtain rfl : i = n := by omega
              exact hend
    | succ d ih => intro i h; exact hstep i (by omega) (ih (i + 1) (by omega))
  intro i h
  exact this (n - i) i (by omega)
theorem Ev.stop {α : Type} {g : Nat → Option α} {r : α} (h : ∀ k, g (k + 1) = some r) : Ev g r := Ev.step (f := fun _ => some r) h (Ev.now r)
/-! ### the order -/
def Lt (a b : S29) : Prop := a.f0 < b.f0 ∨ a.f0 = b.f0 ∧ a.f1 < b.f1
theorem Lt.trans {a b c : S29} (h : Lt a b) (k : Lt b c) : Lt a c := by unfold Lt at *; omega
theorem Lt.irrefl (a : S29) : ¬ Lt a a := by unfold Lt; omega
def Strict (l : List S29) : Prop := l.Pairwise Lt
theorem strict_uniq : ∀ l m : List S29, Strict l → Strict m → l.Perm m → l = m
  | [], m, _, _, h => (List.Perm.eq_nil h.symm).symm
  | a :: l, [], _, _, h => by have := h.length_eq; simp at this
  | a :: l, b :: m, hl, hm, h => by
    have h1 := List.pairwise_cons.1 hl
    have h2 := List.pairwise_cons.1 hm
    have e : a = b := by
      have ha : a ∈ b :: m := h.mem_iff.1 (List.mem_cons_self)
      have hb : b ∈ a :: l := h.mem_iff.2 (List.mem_cons_self)
      rcases List.mem_cons.1 ha with e | ha
      · exact e
      · rcases List.mem_cons.1 hb with e | hb
        · exact e.symm
        · exact absurd ((h1.1 b hb).trans (h2.1 a ha)) (Lt.irrefl a)
    subst e
    rw [strict_uniq l m h1.2 h2.2 ((List.perm_cons a).1 h)]
/-- No two have one key. -/
def Apart (l : List S29) : Prop := l.Pairwise fun a b => Lt a b ∨ Lt b a
theorem sort_perm (l : List S29) : (sortL l).Perm l := by
  have h := (sortI_perm l).2.2
  have hs := sortI_size l
  have e1 : (sortI l).extract 0 l.length = sortI l := by rw [← hs]; simp
  have e2 : (Array.range l.length).extract 0 l.length = Array.range l.length := by
    have : (Array.range l.length).size = l.length := by simp
    conv => lhs; rw [← this]
    simp
  rw [e1, e2] at h
  have h2 := h.map (slotAt l)
  refine h2.trans (List.Perm.of_eq ?_)
  apply List.ext_getElem
  · simp
  · intro i h3 h4
    simp only [List.getElem_map, Array.getElem_toList, Array.getElem_range]
    unfold slotAt
    rw [cl_id h4, List.getD_eq_getElem?_getD, List.getElem?_eq_getElem h4]
    rfl
theorem sort_strict (l : List S29) (ha : Apart l) : Strict (sortL l) := by
  have hap : Apart (sortL l) := (sort_perm l).symm.pairwise ha (fun h => h.symm)
  unfold Strict
  unfold Apart at hap
  rw [List.pairwise_iff_getElem] at hap ⊢
  intro i j hi hj hij
  have hs := sortI_size l
  have hp := hap i j hi hj hij
  rw [sortL_length] at hi hj
  have h := sortI_sorted l i j (Nat.zero_le _) hij hj
  unfold Go.Proofs.ltOf idxCmp at h
  rw [decide_eq_false_iff_not, slotCmp_neg] at h
  have e : ∀ k (hk : k < l.length), (sortL l)[k]'(by rw [sortL_length]; exact hk) = slotAt l (sortI l)[k]! := by
    intro k hk
    unfold sortL
    rw [List.getElem_map, Array.getElem_toList, getElem!_pos (sortI l) k (by omega)]
  rw [e i hi, e j hj] at hp ⊢
  rcases hp with h1 | h1
  · exact h1
  · exact absurd h1 h
theorem strict_ins {q : List S29} (hq : Strict q) (x : S29) (o : Nat) (ho : o ≤ q.length) (h1 : ∀ j (h : j < q.length), o ≤ j → Lt x q[j]) (h2 : ∀ j (h : j < q.length), j < o → Lt q[j] x) : Strict (q.take o ++ [x] ++ q.drop o) := by
  unfold Strict at *
  rw [List.append_assoc, List.pairwise_append]
  refine ⟨hq.take, ?_, ?_⟩
  · rw [List.singleton_append, List.pairwise_cons]
    refine ⟨fun y hy => ?_, hq.drop⟩
    obtain ⟨j, hj, rfl⟩ := List.getElem_of_mem hy
    rw [List.getElem_drop]
    exact h1 _ _ (by omega)
  · intro y hy z hz
    obtain ⟨j, hj, rfl⟩ := List.getElem_of_mem hy
    rw [List.length_take] at hj
    rw [List.getElem_take]
    rcases List.mem_append.1 hz with hz | hz
    · rw [List.mem_singleton.1 hz]; exact h2 j (by omega) (by omega)
    · obtain ⟨i, hi, rfl⟩ := List.getElem_of_mem hz
      rw [List.length_drop] at hi
      rw [List.getElem_drop]
      exact (h2 j (by omega) (by omega)).trans (h1 (o + i) (by omega) (by omega))
theorem perm_ins (q : List S29) (x : S29) (o : Nat) : (q.take o ++ [x] ++ q.drop o).Perm (q ++ [x]) := by
  rw [List.append_assoc, List.singleton_append]
  refine List.perm_middle.trans ?_
  rw [List.take_append_drop]
  exact (List.perm_append_comm (l₁ := q) (l₂ := [x])).symm
end Go.Proofs.Ytiabkadcgmamaaa.Pure
