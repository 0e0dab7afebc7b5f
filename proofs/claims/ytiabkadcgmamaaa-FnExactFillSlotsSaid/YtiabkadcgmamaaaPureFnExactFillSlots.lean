/- For every two numbers the law answers true: what is filled is one list, in order; what is returned is its own. -/
import Derived.Test.YtiabkadcgmamaaaPFnExactFillSlotsx7
import Derived.Test.YtiabkadcgmamaaaEFnExactFillSlotsb
namespace Go.Proofs.Ytiabkadcgmamaaa.Pure
open Go.RowKit Go.Proofs.Ytiabkadcgmamaaa.PFnExactFillSlots Go.Proofs.YtiabkadcgmamaaaW.PrintWords Go.Proofs.YtiabkadcgmamaaaW.PrintLast Go.Proofs.YtiabkadcgmamaaaW.PrintMore Go.Proofs.Ytiabkadcgmamaaa.SortSlots
set_option linter.unusedSimpArgs false
set_option linter.unusedVariables false

section
variable (s m : Int) (S n : Nat) (hS : (S : Int) = s) (hm : (n : Int) = m) (s0 : 1 ≤ s) (s1 : s ≤ 32) (m0 : 1 ≤ m) (m1 : m ≤ 32)
include hS hm s0 s1 m0 m1
theorem second (k i : Nat) (hk : k < S) (hi : i < n) : wrap64 ((wrap64 ((wrap64 ((wrap64 ((wrap64 ((wrap64 (s + m)) - 1)) + s)) - 1)) - (k : Int))) + (i : Int)) = s + m - 1 + s - 1 - k + i := by
  rw [w64 (x := s + m) (by omega) (by omega), w64 (x := s + m - 1) (by omega) (by omega), w64 (x := s + m - 1 + s) (by omega) (by omega), w64 (x := s + m - 1 + s - 1) (by omega) (by omega), w64 (x := s + m - 1 + s - 1 - (k : Int)) (by omega) (by omega), w64 (by omega) (by omega)]
theorem first_ (k i : Nat) (hk : k < S) (hi : i < n) : wrap64 ((k : Int) + (i : Int)) = k + i := w64 (by omega) (by omega)
theorem len_ok (k i : Nat) (hk : k < S) (hi : i ≤ n) : (allU s m n k ++ rowU s m k i).length ≤ 4096 := by
  rw [List.length_append, rowU_len]
  have := allU_len s m n (by omega) k
  omega
theorem spec_fill : Ev (fun k => spec_FillSlots.f k s m) (sortL (allU s m n S)) := by
  have hin : ∀ x : Int, 1 ≤ x → x ≤ 32 → spec_l19Size.f x = some true := by
    intro x h1 h2
    unfold spec_l19Size.f spec_l5In.f
    rw [if_pos (by omega), decide_eq_true (by omega)]; rfl
  unfold spec_FillSlots.f
  refine Ev.congr (fun k => by rw [Option.bind_some, hin s s0 s1, Option.bind_some, if_pos rfl, hin m m0 m1, Option.bind_some, if_pos rfl]) ?_
  refine down (P := fun k => Ev (fun f => spec_FillSlots.l0 f s m (allU s m n k) (k : Int)) (sortL (allU s m n S))) (n := S) ?_ ?_ 0 (Nat.zero_le _)
  · refine Ev.step (f := fun f => (spec_l19Sort.f f (allU s m n S)).bind fun a => some a) (fun f => by rw [spec_FillSlots.l0, if_neg (by omega)]) ?_
    exact Ev.bind (sort_ev _ (by have := allU_len s m n (by omega) S; omega) (all_apart s m n hm S (by omega))) (Ev.now _)
  · intro k hk ih
    refine Ev.step (f := fun f => spec_FillSlots.l1 f s m (allU s m n k ++ rowU s m k 0) (k : Int) ((0 : Nat) : Int)) (fun f => by rw [spec_FillSlots.l0, if_pos (by omega), rowU, List.append_nil]; rfl) ?_
    refine down (P := fun i => Ev (fun f => spec_FillSlots.l1 f s m (allU s m n k ++ rowU s m k i) (k : Int) (i : Int)) (sortL (allU s m n S))) (n := n) ?_ ?_ 0 (Nat.zero_le _)
    · exact Ev.step (fun f => by rw [spec_FillSlots.l1, if_neg (by omega), wn k (by omega)]; rfl) ih
    · intro i hi ih2
      have hl := len_ok s m S n hS hm s0 s1 m0 m1 k i hk (by omega)
      refine Ev.step (fun f => ?_) ih2
      rw [spec_FillSlots.l1, if_pos (by omega), Option.bind_some, if_pos (by simp only [List.length_cons, List.length_nil]; omega), second s m S n hS hm s0 s1 m0 m1 k i hk hi, first_ s m S n hS hm s0 s1 m0 m1 k i hk hi, wn i (by omega), List.append_assoc]
      rfl
theorem impl_fill : Ev (fun k => impl_FillSlots.f k s m) (sortL (allU s m n S)) := by
  have hin : ∀ x : Int, 1 ≤ x → x ≤ 32 → impl_within.f x 1 32 = some true := by
    intro x h1 h2
    unfold impl_within.f
    rw [if_pos (by omega), decide_eq_true (by omega)]
  unfold impl_FillSlots.f impl_stagesOk.f
  refine Ev.congr (fun k => by rw [hin s s0 s1, Option.bind_some, if_pos rfl, hin m m0 m1, Option.bind_some, Option.bind_some, if_pos rfl]) ?_
  refine down (P := fun k => Ev (fun f => impl_FillSlots.l0 f s m (allU s m n k) s (k : Int)) (sortL (allU s m n S))) (n := S) ?_ ?_ 0 (Nat.zero_le _)
  · have := allU_len s m n (by omega) S
    exact Ev.stop fun f => by rw [impl_FillSlots.l0, if_neg (by omega), if_pos (by omega)]
  · intro k hk ih
    refine Ev.step (f := fun f => impl_FillSlots.l1 f s m (allU s m n k ++ rowU s m k 0) (k : Int) s (k : Int) m ((0 : Nat) : Int)) (fun f => by rw [impl_FillSlots.l0, if_pos (by omega), rowU, List.append_nil]; rfl) ?_
    refine down (P := fun i => Ev (fun f => impl_FillSlots.l1 f s m (allU s m n k ++ rowU s m k i) (k : Int) s (k : Int) m (i : Int)) (sortL (allU s m n S))) (n := n) ?_ ?_ 0 (Nat.zero_le _)
    · exact Ev.step (fun f => by rw [impl_FillSlots.l1, if_neg (by omega), wn k (by omega)]; rfl) ih
    · intro i hi ih2
      have hl := len_ok s m S n hS hm s0 s1 m0 m1 k i hk (by omega)
      refine Ev.step (fun f => ?_) ih2
      rw [impl_FillSlots.l1, if_pos (by omega), Option.bind_some, if_pos (by simp only [List.length_cons, List.length_nil]; omega), second s m S n hS hm s0 s1 m0 m1 k i hk hi, first_ s m S n hS hm s0 s1 m0 m1 k i hk hi, wn i (by omega), List.append_assoc]
      rfl
end
theorem eq_ev (l : List S29) (hl : l.length ≤ 4096) : Ev (fun k => laws_eqSlotS.f k l l) true := by
  unfold laws_eqSlotS.f
  refine Ev.congr (fun k => by rw [if_pos rfl]) ?_
  refine down (P := fun i => Ev (fun k => laws_eqSlotS.l0 k l l (i : Int)) true) (n := l.length) ?_ ?_ 0 (Nat.zero_le _)
  · exact Ev.stop fun k => by rw [laws_eqSlotS.l0, if_neg (by omega)]
  · intro i hi ih
    refine Ev.step (fun k => ?_) ih
    rw [laws_eqSlotS.l0, if_pos (by omega), if_pos (by omega), if_pos (by omega)]
    unfold laws_eqSlot.f
    rw [if_pos rfl, if_pos rfl, if_pos rfl, if_neg (by simp), Option.bind_some, if_pos rfl, wn i (by omega)]
/-- An element, marked from k on. -/
def mkS (k : Int) : S29 := ⟨k, k + 1, k + 2, (Int.tmod (k + 3) 3 == 0)⟩
def uptoS (k : Int) : Nat → List S29
  | 0 => []
  | n + 1 => mkS k :: uptoS (k + 4) n
theorem set_at (e t : List S29) (x y : S29) : (e ++ x :: t).set e.length y = e ++ y :: t := by
  rw [List.set_append_right _ _ (Nat.le_refl _)]; simp
theorem rd_mid (e t : List S29) (x : S29) : rd_T29 (e ++ x :: t) (e.length : Int) = x := by
  rw [rd_at _ _ (by simp)]
  simp
theorem mark_loop : ∀ (t e : List S29), (e ++ t).length ≤ 4096 → Ev (fun k => laws_markSlotS.l0 k (e ++ t) (1 + 4 * e.length) (e.length : Int)) (1 + 4 * ((e ++ t).length : Int), e ++ uptoS (1 + 4 * e.length) t.length)
  | [], e, hl => Ev.stop fun k => by rw [laws_markSlotS.l0, if_neg (by simp)]; simp [uptoS]
  | x :: t, e, hl => by
    have hl2 := hl
    rw [List.length_append, List.length_cons] at hl2
    have ih := mark_loop t (e ++ [mkS (1 + 4 * e.length)]) (by simp; omega)
    refine Ev.step (f := fun k => laws_markSlotS.l0 k ((e ++ [mkS (1 + 4 * e.length)]) ++ t) (1 + 4 * ((e ++ [mkS (1 + 4 * e.length)]).length : Int)) ((e ++ [mkS (1 + 4 * e.length)]).length : Int)) (fun k => ?_) ?_
    · rw [laws_markSlotS.l0, if_pos (by rw [List.length_append, List.length_cons]; omega), if_pos (by omega)]
      simp only [Option.bind_some, Int.toNat_natCast, set_at, rd_mid]
      rw [w64 (x := 1 + 4 * (e.length : Int) + 1) (by omega) (by omega), w64 (x := 1 + 4 * (e.length : Int) + 1 + 1) (by omega) (by omega), w64 (x := 1 + 4 * (e.length : Int) + 1 + 1 + 1) (by omega) (by omega), w64 (x := 1 + 4 * (e.length : Int) + 1 + 1 + 1 + 1) (by omega) (by omega), wn e.length (by omega)]
      have e1 : (⟨1 + 4 * (e.length : Int), 1 + 4 * (e.length : Int) + 1, 1 + 4 * (e.length : Int) + 1 + 1, (Int.tmod (1 + 4 * (e.length : Int) + 1 + 1 + 1) 3 == 0)⟩ : S29) = mkS (1 + 4 * e.length) := by
        unfold mkS
        rw [show (1 + 4 * (e.length : Int) + 1 + 1 : Int) = 1 + 4 * e.length + 2 by omega, show (1 + 4 * (e.length : Int) + 2 + 1 : Int) = 1 + 4 * e.length + 3 by omega]
      rw [e1, List.append_assoc, List.singleton_append, List.length_append, List.length_singleton, show (1 + 4 * (e.length : Int) + 1 + 1 + 1 + 1 : Int) = 1 + 4 * ((e.length + 1 : Nat) : Int) by omega]
    · rw [show (1 + 4 * ((e ++ x :: t).length : Int), e ++ uptoS (1 + 4 * e.length) (x :: t).length) = (1 + 4 * (((e ++ [mkS (1 + 4 * e.length)]) ++ t).length : Int), (e ++ [mkS (1 + 4 * e.length)]) ++ uptoS (1 + 4 * ((e ++ [mkS (1 + 4 * e.length)]).length : Int)) t.length) from ?_]
      · exact ih
      · refine Prod.ext (by simp) ?_
        show e ++ uptoS (1 + 4 * e.length) (x :: t).length = (e ++ [mkS (1 + 4 * e.length)]) ++ uptoS (1 + 4 * ((e ++ [mkS (1 + 4 * e.length)]).length : Int)) t.length
        rw [List.length_cons, uptoS, List.append_assoc, List.singleton_append, List.length_append, List.length_singleton, show (1 + 4 * (e.length : Int) + 4 : Int) = 1 + 4 * ((e.length + 1 : Nat) : Int) by omega]
theorem held_loop : ∀ (n : Nat) (e : List S29), e.length + n ≤ 4096 → Ev (fun k => laws_heldSlotS.l0 k (e ++ uptoS (1 + 4 * e.length) n) (1 + 4 * e.length) (e.length : Int)) (1 + 4 * ((e.length + n : Nat) : Int))
  | 0, e, hl => Ev.stop fun k => by rw [laws_heldSlotS.l0, if_neg (by simp [uptoS])]; simp
  | n + 1, e, hl => by
    have ih := held_loop n (e ++ [mkS (1 + 4 * e.length)]) (by simp; omega)
    rw [List.length_append, List.length_singleton, show (1 + 4 * ((e.length + 1 : Nat) : Int) : Int) = 1 + 4 * e.length + 4 by omega, List.append_assoc, List.singleton_append, show e.length + 1 + n = e.length + (n + 1) by omega] at ih
    refine Ev.step (fun k => ?_) ih
    rw [uptoS, laws_heldSlotS.l0, if_pos (by rw [List.length_append, List.length_cons]; omega), if_pos (by omega)]
    simp only [rd_mid]
    rw [w64 (x := 1 + 4 * (e.length : Int) + 1) (by omega) (by omega), w64 (x := 1 + 4 * (e.length : Int) + 1 + 1) (by omega) (by omega), w64 (x := 1 + 4 * (e.length : Int) + 1 + 1 + 1) (by omega) (by omega), w64 (x := 1 + 4 * (e.length : Int) + 1 + 1 + 1 + 1) (by omega) (by omega), wn e.length (by omega)]
    rw [if_pos (show (mkS (1 + 4 * (e.length : Int))).f0 = 1 + 4 * (e.length : Int) from rfl), if_pos (show (mkS (1 + 4 * (e.length : Int))).f1 = 1 + 4 * (e.length : Int) + 1 from rfl), if_pos (by show (1 + 4 * (e.length : Int) + 2 : Int) = _; omega), if_neg (by
      unfold mkS
      dsimp only
      rw [show (1 + 4 * (e.length : Int) + 1 + 1 + 1 : Int) = 1 + 4 * e.length + 3 by omega]
      simp)]
    congr 1
theorem FnExactFillSlots : laws_FnExactFillSlots.Pure := by
  intro s m _ _
  have main : ∀ r : List S29, r.length ≤ 4096 → Ev (fun k => spec_FillSlots.f k s m) r → Ev (fun k => impl_FillSlots.f k s m) r → ∃ k, laws_FnExactFillSlots.f k s m = some true := by
    intro r hr e1 e2
    unfold laws_FnExactFillSlots.f
    have hm : Ev (fun k => laws_markSlotS.f k r 1) (1 + 4 * (r.length : Int), uptoS 1 r.length) := by
      have := mark_loop r [] (by simpa using hr)
      simpa [laws_markSlotS.f] using this
    have hh : Ev (fun k => laws_heldSlotS.f k (uptoS 1 r.length) 1) (1 + 4 * (r.length : Int)) := by
      have := held_loop r.length [] (by simpa using hr)
      simpa [laws_heldSlotS.f] using this
    refine Ev.rounds (g := fun k => _) (Ev.bind e1 (Ev.bind e2 (Ev.bind (eq_ev r hr) ?_)))
    refine Ev.congr (fun k => by rw [if_pos rfl]) (Ev.bind hm (Ev.bind hh ?_))
    refine Ev.congr (fun k => by rw [if_neg (by omega), if_pos rfl]) (Ev.bind e2 (Ev.bind (eq_ev r hr) ?_))
    refine Ev.congr (fun k => by rw [if_pos rfl]) (Ev.bind hh ?_)
    exact Ev.congr (fun k => by rw [if_neg (by omega), if_pos rfl]) (Ev.now true)
  by_cases c : (1 ≤ s ∧ s ≤ 32) ∧ 1 ≤ m ∧ m ≤ 32
  · obtain ⟨⟨s0, s1⟩, m0, m1⟩ := c
    have hS : ((s.toNat : Nat) : Int) = s := Int.toNat_of_nonneg (by omega)
    have hn : ((m.toNat : Nat) : Int) = m := Int.toNat_of_nonneg (by omega)
    refine main (sortL (allU s m m.toNat s.toNat)) ?_ (spec_fill s m s.toNat m.toNat hS hn s0 s1 m0 m1) (impl_fill s m s.toNat m.toNat hS hn s0 s1 m0 m1)
    rw [sortL_length]
    have := allU_len s m m.toNat (by omega) s.toNat
    omega
  · have hin : ∀ x : Int, spec_l19Size.f x = some (decide (1 ≤ x ∧ x ≤ 32)) ∧ impl_within.f x 1 32 = some (decide (1 ≤ x ∧ x ≤ 32)) := by
      intro x
      unfold spec_l19Size.f spec_l5In.f impl_within.f
      by_cases h : x ≥ 1
      · rw [if_pos h]
        constructor
        · simp; omega
        · simp; omega
      · rw [if_neg h]
        constructor
        · simp; omega
        · simp; omega
    refine main [] (by simp) ?_ ?_
    · refine Ev.congr (f := fun _ => some []) (fun k => ?_) (Ev.now _)
      unfold spec_FillSlots.f
      rw [Option.bind_some, (hin s).1, Option.bind_some]
      by_cases h : 1 ≤ s ∧ s ≤ 32
      · rw [if_pos (decide_eq_true h), (hin m).1, Option.bind_some, if_neg (by simp; omega)]
      · rw [if_neg (by simpa using h)]
    · refine Ev.congr (f := fun _ => some []) (fun k => ?_) (Ev.now _)
      unfold impl_FillSlots.f impl_stagesOk.f
      rw [(hin s).2, Option.bind_some]
      by_cases h : 1 ≤ s ∧ s ≤ 32
      · rw [if_pos (decide_eq_true h), (hin m).2, Option.bind_some, Option.bind_some, if_neg (by simp; omega)]
      · rw [if_neg (by simpa using h), Option.bind_some, if_neg (by decide)]
end Go.Proofs.Ytiabkadcgmamaaa.Pure
