/- spec.l19Sort is the order; both programs make one list ahead of it. -/
import Derived.Test.YtiabkadcgmamaaaEFnExactFillSlotsa
namespace Go.Proofs.Ytiabkadcgmamaaa.Pure
open Go.RowKit Go.Proofs.Ytiabkadcgmamaaa.PFnExactFillSlots Go.Proofs.YtiabkadcgmamaaaW.PrintWords Go.Proofs.YtiabkadcgmamaaaW.PrintLast Go.Proofs.YtiabkadcgmamaaaW.PrintMore Go.Proofs.Ytiabkadcgmamaaa.SortSlots
set_option linter.unusedSimpArgs false
set_option linter.unusedVariables false

def Gd {α : Type} (Q : α → Prop) (g : Nat → Option α) : Prop := ∃ v, Ev g v ∧ Q v
theorem Gd.step {α : Type} {Q : α → Prop} {g f : Nat → Option α} (hf : Gd Q f) (h : ∀ k, g (k + 1) = f k) : Gd Q g := by
  obtain ⟨v, a, b⟩ := hf
  exact ⟨v, Ev.step h a, b⟩
theorem rd_at (l : List S29) (i : Nat) (h : i < l.length) : rd_T29 l (i : Int) = l[i] := by
  unfold rd_T29
  rw [Int.toNat_natCast, List.getD_eq_getElem?_getD, List.getElem?_eq_getElem h]; rfl
theorem eta (x : S29) : (⟨x.f0, x.f1, x.f2, x.f3⟩ : S29) = x := rfl
theorem sort_loop (l : List S29) (hl : l.length ≤ 4096) (ha : Apart l) : ∀ i, i ≤ l.length → ∀ q : List S29, Strict q → q.Perm (l.take i) → Gd (fun r => Strict r ∧ r.Perm l) (fun k => spec_l19Sort.l0 k l q (i : Int)) := by
  refine down ?_ ?_
  · intro q hq hp
    rw [List.take_length] at hp
    exact ⟨q, Ev.stop fun k => by rw [spec_l19Sort.l0, if_neg (by omega)], hq, hp⟩
  · intro i hi ih q hq hp
    have hql : q.length = i := by rw [hp.length_eq, List.length_take]; omega
    have hap : ∀ y ∈ q, Lt y l[i] ∨ Lt l[i] y := by
      intro y hy
      obtain ⟨j, hj, rfl⟩ := List.getElem_of_mem (hp.mem_iff.1 hy)
      rw [List.length_take] at hj
      rw [List.getElem_take]
      exact List.pairwise_iff_getElem.1 ha j i (by omega) hi (by omega)
    have place : ∀ o : Nat, o ≤ q.length → (∀ j (h : j < q.length), o ≤ j → Lt l[i] q[j]) → (∀ j (h : j < q.length), j < o → Lt q[j] l[i]) → Gd (fun r => Strict r ∧ r.Perm l) (fun k => spec_l19Sort.l0 k l (q.take o ++ [l[i]] ++ q.drop o) ((i + 1 : Nat) : Int)) := by
      intro o ho h1 h2
      refine ih _ (strict_ins hq _ o ho h1 h2) ((perm_ins q _ o).trans ?_)
      rw [List.take_succ_eq_append_getElem hi]
      exact hp.append_right _
    have inner : ∀ o : Nat, o ≤ q.length → (∀ j (h : j < q.length), o ≤ j → Lt l[i] q[j]) → Gd (fun r => Strict r ∧ r.Perm l) (fun k => spec_l19Sort.l1 k l q (i : Int) (o : Int)) := by
      intro o
      induction o with
      | zero =>
        intro ho h1
        refine Gd.step (place 0 ho h1 (fun j _ hj => by omega)) (fun k => ?_)
        rw [spec_l19Sort.l1, if_neg (by omega)]
        simp only [Option.bind_some, List.nil_append, Int.toNat_natCast]
        rw [if_pos (by omega), if_pos (by omega), if_pos (by first | (simp; done) | (simp; omega)), if_pos (by omega), if_pos (by omega), rd_at l i hi, if_pos (by first | (simp; done) | (simp; omega)), if_pos (by first | (simp; done) | (simp; omega)), wn i (by omega)]
      | succ o iho =>
        intro ho h1
        have hw : wrap64 (((o + 1 : Nat) : Int) - 1) = (o : Int) := by rw [w64 (by omega) (by omega)]; omega
        have hio := hap q[o] (List.getElem_mem _)
        by_cases c : Lt l[i] q[o]
        · refine Gd.step (iho (by omega) (fun j h hj => ?_)) (fun k => ?_)
          · by_cases e : j = o
            · subst e; exact c
            · exact h1 j h (by omega)
          · rw [spec_l19Sort.l1, if_pos (by omega), hw, if_pos (by omega), if_pos (by omega), if_pos (by omega), if_pos (by omega), rd_at l i hi, rd_at q o (by omega)]
            unfold Lt at c
            by_cases c1 : q[o].f0 > l[i].f0
            · rw [if_pos c1]
            · rw [if_neg c1, if_pos (by omega), if_pos (by omega)]
        · have c' : Lt q[o] l[i] := hio.resolve_right c
          refine Gd.step (place (o + 1) ho h1 (fun j h hj => ?_)) (fun k => ?_)
          · by_cases e : j = o
            · subst e; exact c'
            · exact (List.pairwise_iff_getElem.1 hq j o h (by omega) (by omega)).trans c'
          · rw [spec_l19Sort.l1, if_pos (by omega), hw, if_pos (by omega), if_pos (by omega), if_pos (by omega), if_pos (by omega), rd_at l i hi, rd_at q o (by omega)]
            unfold Lt at c'
            simp only [Option.bind_some, List.nil_append, Int.toNat_natCast]
            rw [if_neg (by omega)]
            by_cases c1 : q[o].f0 = l[i].f0
            · rw [if_pos c1, if_neg (by omega), if_pos (by omega), if_pos (by omega), if_pos (by first | (simp; done) | (simp; omega)), if_pos (by first | (simp; done) | (simp; omega)), if_pos (by first | (simp; done) | (simp; omega)), wn i (by omega)]
            · rw [if_neg c1, if_pos (by omega), if_pos (by omega), if_pos (by first | (simp; done) | (simp; omega)), if_pos (by first | (simp; done) | (simp; omega)), if_pos (by first | (simp; done) | (simp; omega)), wn i (by omega)]
    refine Gd.step (inner q.length (Nat.le_refl _) (fun j h hj => by omega)) (fun k => ?_)
    rw [spec_l19Sort.l0, if_pos (by omega)]
theorem sort_ev (l : List S29) (hl : l.length ≤ 4096) (ha : Apart l) : Ev (fun k => spec_l19Sort.f k l) (sortL l) := by
  obtain ⟨r, h, h1, h2⟩ := sort_loop l hl ha 0 (Nat.zero_le _) [] List.Pairwise.nil (by simp)
  have e : r = sortL l := strict_uniq r _ h1 (sort_strict l ha) (h2.trans (sort_perm l).symm)
  subst e
  exact h
/-! ### what is sorted -/
def two (s m : Int) (k i : Nat) : List S29 := [⟨k + i, k, i, false⟩, ⟨s + m - 1 + s - 1 - k + i, k, i, true⟩]
def rowU (s m : Int) (k : Nat) : Nat → List S29
  | 0 => []
  | i + 1 => rowU s m k i ++ two s m k i
def allU (s m : Int) (n : Nat) : Nat → List S29
  | 0 => []
  | k + 1 => allU s m n k ++ rowU s m k n
theorem rowU_len (s m : Int) (k : Nat) : ∀ i, (rowU s m k i).length = 2 * i
  | 0 => rfl
  | i + 1 => by rw [rowU, List.length_append, rowU_len s m k i]; show 2 * i + 2 = 2 * (i + 1); omega
theorem allU_len (s m : Int) (n : Nat) (hn : n ≤ 32) : ∀ k, (allU s m n k).length ≤ 64 * k
  | 0 => by simp [allU]
  | k + 1 => by rw [allU, List.length_append, rowU_len]; have := allU_len s m n hn k; omega
def Shape (s m : Int) (k i : Nat) (x : S29) : Prop := 0 ≤ x.f1 ∧ 0 ≤ x.f2 ∧ x.f2 < m ∧ (x.f1 < k ∨ x.f1 = k ∧ x.f2 < i) ∧ (x.f3 = false ∧ x.f0 = x.f1 + x.f2 ∨ x.f3 = true ∧ x.f0 = s + m - 1 + s - 1 - x.f1 + x.f2)
theorem row_shape (s m : Int) (k : Nat) : ∀ i : Nat, (i : Int) ≤ m → ∀ x ∈ rowU s m k i, Shape s m k i x ∧ x.f1 = k
  | 0, _, x, hx => by simp [rowU] at hx
  | i + 1, hm, x, hx => by
    rw [rowU] at hx
    rcases List.mem_append.1 hx with h | h
    · obtain ⟨⟨a, b, c, d, e⟩, h2⟩ := row_shape s m k i (by omega) x h
      exact ⟨⟨a, b, c, by omega, e⟩, h2⟩
    · simp only [two, List.mem_cons, List.mem_nil_iff, or_false] at h
      unfold Shape
      rcases h with rfl | rfl
      · exact ⟨⟨by dsimp only; omega, by dsimp only; omega, by dsimp only; omega, by dsimp only; omega, Or.inl ⟨rfl, rfl⟩⟩, rfl⟩
      · exact ⟨⟨by dsimp only; omega, by dsimp only; omega, by dsimp only; omega, by dsimp only; omega, Or.inr ⟨rfl, rfl⟩⟩, rfl⟩
theorem all_shape (s m : Int) (n : Nat) (hm : (n : Int) = m) : ∀ k : Nat, ∀ x ∈ allU s m n k, Shape s m k 0 x
  | 0, x, hx => by simp [allU] at hx
  | k + 1, x, hx => by
    rw [allU] at hx
    rcases List.mem_append.1 hx with h | h
    · obtain ⟨a, b, c, d, e⟩ := all_shape s m n hm k x h
      exact ⟨a, b, c, by omega, e⟩
    · obtain ⟨⟨a, b, c, d, e⟩, h2⟩ := row_shape s m k n (by omega) x h
      exact ⟨a, b, c, by omega, e⟩
theorem key_ne (s m : Int) (a b k i k' i' : Nat) (x y : S29) (hx : Shape s m k i x) (hy : Shape s m k' i' y) (h1 : x.f1 < s) (h2 : y.f1 < s) (hd : x.f1 < y.f1 ∨ x.f1 = y.f1 ∧ x.f2 < y.f2 ∨ x.f1 = y.f1 ∧ x.f2 = y.f2 ∧ x.f3 ≠ y.f3) : Lt x y ∨ Lt y x := by
  unfold Shape Lt at *
  obtain ⟨_, _, _, _, hx⟩ := hx
  obtain ⟨_, _, _, _, hy⟩ := hy
  rcases hx with ⟨e1, g1⟩ | ⟨e1, g1⟩ <;> rcases hy with ⟨e2, g2⟩ | ⟨e2, g2⟩ <;> rw [e1, e2] at hd <;> simp at hd <;> omega
theorem row_apart (s m : Int) (k : Nat) (hk : (k : Int) < s) : ∀ i : Nat, (i : Int) ≤ m → Apart (rowU s m k i)
  | 0, _ => List.Pairwise.nil
  | i + 1, hm => by
    unfold Apart
    rw [rowU, List.pairwise_append]
    refine ⟨row_apart s m k hk i (by omega), ?_, ?_⟩
    · simp only [two, List.pairwise_cons, List.mem_singleton, forall_eq, List.Pairwise.nil, List.mem_nil_iff, false_implies, implies_true, and_true]
      unfold Lt
      dsimp only
      omega
    · intro x hx y hy
      obtain ⟨h1, h2⟩ := row_shape s m k i (by omega) x hx
      obtain ⟨h3, h4⟩ := row_shape s m k (i + 1) hm y (by rw [rowU]; exact List.mem_append_right _ hy)
      have hyi : y.f2 = i := by
        simp only [two, List.mem_cons, List.mem_nil_iff, or_false] at hy
        rcases hy with rfl | rfl <;> rfl
      refine key_ne s m 0 0 _ _ _ _ x y h1 h3 (by omega) (by omega) (Or.inr (Or.inl ⟨by omega, ?_⟩))
      obtain ⟨_, _, _, d, _⟩ := h1
      omega
theorem all_apart (s m : Int) (n : Nat) (hm : (n : Int) = m) : ∀ k : Nat, (k : Int) ≤ s → Apart (allU s m n k)
  | 0, _ => List.Pairwise.nil
  | k + 1, hk => by
    unfold Apart
    rw [allU, List.pairwise_append]
    refine ⟨all_apart s m n hm k (by omega), row_apart s m k (by omega) n (by omega), ?_⟩
    intro x hx y hy
    have h1 := all_shape s m n hm k x hx
    obtain ⟨h3, h4⟩ := row_shape s m k n (by omega) y hy
    have h5 : x.f1 < k := by obtain ⟨_, b, _, d, _⟩ := h1; omega
    exact key_ne s m 0 0 _ _ _ _ x y h1 h3 (by omega) (by omega) (Or.inl (by omega))
end Go.Proofs.Ytiabkadcgmamaaa.Pure
