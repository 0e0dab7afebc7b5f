/- For every model of the rows and every history the law answers true: the given Weights and the model's are one function; what it returns is its own. -/
import Derived.Test.YtdlhmhgpafegpaaPFnExactWeightsx9
import Derived.Test.YtdlhmhgpafegpaaEFnExactWeightsf
namespace Go.Proofs.Ytdlhmhgpafegpaa.Pure
open Go.RowKit Go.Proofs.Ytdlhmhgpafegpaa.PFnExactWeights Go.Proofs.YtdlhmhgpafegpaaW.PrintWords Go.Proofs.YtdlhmhgpafegpaaW.PrintLast Go.Proofs.YtdlhmhgpafegpaaW.PrintMore
set_option linter.unusedSimpArgs false

/-- Numbers in order, from a on. -/
def upto (a : Int) : Nat → List Int
  | 0 => []
  | n + 1 => a :: upto (a + 1) n
theorem upto_len (a : Int) : ∀ n, (upto a n).length = n
  | 0 => rfl
  | n + 1 => by rw [upto, List.length_cons, upto_len (a + 1) n]
theorem mark_loop (k0 : Int) (h0 : 0 ≤ k0) (h1 : k0 ≤ 4611686018427387904) : ∀ (t e : List Int), (e ++ t).length ≤ 1048576 → Ev (fun k => laws_markIntS.l0 k (e ++ t) (k0 + e.length) (e.length : Int)) (k0 + e.length + t.length, e ++ upto (k0 + e.length) t.length)
  | [], e, hl => by
    refine Ev.stop fun k => ?_
    simp only [laws_markIntS.l0, List.append_nil, List.length_nil, upto]
    rw [if_neg (by omega)]
    simp
  | x :: t, e, hl => by
    rw [List.length_append, List.length_cons] at hl
    have ih := mark_loop k0 h0 h1 t (e ++ [k0 + e.length]) (by simp; omega)
    refine Ev.step (fun k => ?_) (f := fun k => laws_markIntS.l0 k ((e ++ [k0 + e.length]) ++ t) (k0 + (e ++ [k0 + e.length]).length) ((e ++ [k0 + e.length]).length : Int)) ?_
    · simp only [laws_markIntS.l0]
      rw [if_pos (by rw [List.length_append, List.length_cons]; omega), if_pos (by omega), w64 (x := k0 + e.length + 1) (by omega) (by omega), w64 (x := (e.length : Int) + 1) (by omega) (by omega)]
      rw [show (e ++ x :: t).set (e.length : Int).toNat (k0 + e.length) = (e ++ [k0 + e.length]) ++ t by rw [Int.toNat_natCast, List.set_append_right _ _ (Nat.le_refl _)]; simp]
      rw [List.length_append, List.length_singleton]
      congr 1 <;> omega
    · rw [show (k0 + e.length + ((x :: t).length : Int), e ++ upto (k0 + e.length) (x :: t).length) = (k0 + ((e ++ [k0 + e.length]).length : Int) + (t.length : Int), (e ++ [k0 + e.length]) ++ upto (k0 + ((e ++ [k0 + e.length]).length : Int)) t.length) from ?_]
      · exact ih
      · rw [List.length_append, List.length_singleton, List.length_cons, upto, List.append_assoc, List.singleton_append]
        refine Prod.ext (by simp; omega) ?_
        show e ++ _ = e ++ _
        rw [show k0 + (e.length : Int) + 1 = k0 + ((e.length + 1 : Nat) : Int) by omega]
theorem mark_ev (k0 : Int) (h0 : 0 ≤ k0) (h1 : k0 ≤ 4611686018427387904) (l : List Int) (hl : l.length ≤ 1048576) : Ev (fun k => laws_markIntS.f k l k0) (k0 + l.length, upto k0 l.length) := by
  have := mark_loop k0 h0 h1 l [] (by simpa using hl)
  simpa [laws_markIntS.f] using this
theorem held_loop (k0 : Int) (h0 : 0 ≤ k0) (h1 : k0 ≤ 4611686018427387904) (l : List Int) (n : Nat) (he : l = upto k0 n) (hl : n ≤ 1048576) : ∀ i, i ≤ l.length → Ev (fun k => laws_heldIntS.l0 k l (k0 + (i : Int)) (i : Int)) (k0 + (l.length : Int)) := by
  have hn : l.length = n := by rw [he, upto_len]
  have hg : ∀ (n : Nat) (a : Int) (i : Nat), (hi : i < (upto a n).length) → (upto a n)[i] = a + i := by
    intro n
    induction n with
    | zero => intro a i hi; simp [upto] at hi
    | succ n ih =>
      intro a i hi
      cases i with
      | zero => simp [upto]
      | succ i =>
        have : i < (upto (a + 1) n).length := by rw [upto_len] at hi ⊢; omega
        simp only [upto, List.getElem_cons_succ]
        rw [ih (a + 1) i this]; omega
  refine down (P := fun i => Ev (fun k => laws_heldIntS.l0 k l (k0 + (i : Int)) (i : Int)) (k0 + (l.length : Int))) ?_ ?_
  · refine Ev.stop fun k => ?_
    simp only [laws_heldIntS.l0]
    rw [if_neg (by omega)]
  · intro i hi ih
    refine Ev.step (fun k => ?_) ih
    simp only [laws_heldIntS.l0]
    have e : rd l (i : Int) = k0 + i := by
      rw [rd_lt l i hi]
      subst he
      exact hg n k0 i hi
    rw [if_pos (by omega), if_pos (by omega), if_pos e, wn i (by omega), w64 (x := k0 + (i : Int) + 1) (by omega) (by omega)]
    congr 1
    omega
theorem held_ev (k0 : Int) (h0 : 0 ≤ k0) (h1 : k0 ≤ 4611686018427387904) (n : Nat) (hl : n ≤ 1048576) : Ev (fun k => laws_heldIntS.f k (upto k0 n) k0) (k0 + n) := by
  have := held_loop k0 h0 h1 (upto k0 n) n rfl hl 0 (Nat.zero_le _)
  rw [upto_len] at this
  simpa [laws_heldIntS.f] using this
theorem cntR_le : ∀ l : List S57, (∀ x ∈ l, SR2 x) → Marks.cntR l ≤ 2097152 * l.length
  | [], _ => by simp [Marks.cntR]
  | x :: t, h => by
    have a := cntR_le t (fun y hy => h y (List.mem_cons_of_mem _ hy))
    have b := h x List.mem_cons_self
    unfold SR2 L20 at b
    rw [Marks.cntR, List.length_cons]
    omega
theorem FnExactWeights : laws_FnExactWeights.Pure := by
  rintro ⟨size, l⟩ q ⟨_, h1, h2⟩ ⟨hq, _⟩
  have hw : ∀ y ∈ l, WR y := fun y hy => by
    obtain ⟨⟨a1, _⟩, ⟨a2, _⟩⟩ := h2 y hy
    unfold maxLen at a1 a2
    exact ⟨by omega, by omega⟩
  unfold maxLen at h1 hq
  unfold laws_FnExactWeights.f
  by_cases c0 : (q.length : Int) > 1048576
  · exact ⟨0, by rw [if_pos c0]⟩
  obtain ⟨t, ht, _, hb⟩ := szLm size l 1048576 (by omega) hw (by omega) (by omega)
  refine Ev.rounds (g := fun k => _) (Ev.congr (fun k => by rw [if_neg c0]) (Ev.bind ht ?_))
  by_cases c : t < 0
  · exact Ev.congr (fun k => by rw [if_pos c]) (Ev.now true)
  · refine Ev.congr (fun k => by rw [if_neg c]) ?_
    obtain ⟨b1, b2⟩ := hb (by omega)
    have T := toLm size l b1 b2
    have m1 : (l.map cRow).length ≤ 1048576 := by rw [List.length_map]; exact b1
    have m2 : ∀ x ∈ l.map cRow, SR2 x := fun x hx => by
      obtain ⟨y, hy, rfl⟩ := List.mem_map.1 hx
      exact b2 y hy
    have hq2 : q.length ≤ 1048576 := by omega
    have Q := toInt q hq2
    obtain ⟨v, S, I, hv⟩ := weights_both size (l.map cRow) q m1 m2 hq2
    have eV := eqInt v hv
    have hc := cntR_le (l.map cRow) m2
    have hc0 := Marks.cntR_nonneg (l.map cRow)
    have hM : laws_markLm.f size (l.map cRow) 1 = some (1 + Marks.cntR (l.map cRow)) := by
      unfold laws_markLm.f Marks.markF
      rw [if_pos (by omega)]
    refine Ev.bind T (Ev.bind Q (Ev.bind S (Ev.bind T (Ev.bind Q (Ev.bind I (Ev.bind eV ?_))))))
    refine Ev.congr (fun k => by rw [if_pos rfl]) (Ev.bind T (Ev.bind (eqLm size (l.map cRow) m1 m2) ?_))
    refine Ev.congr (fun k => by rw [if_pos rfl]) (Ev.bind Q (Ev.bind (eqInt q hq2) ?_))
    refine Ev.congr (fun k => by rw [if_pos rfl, hM, Option.bind_some]) (Ev.bind (mark_ev _ (by omega) (by omega) q hq2) ?_)
    refine Ev.congr (fun k => by rw [if_neg (by omega)]) (Ev.bind eV ?_)
    refine Ev.congr (fun k => by rw [if_pos rfl]) (Ev.bind (mark_ev 1 (by omega) (by omega) v hv) ?_)
    have hH := held_ev 1 (by omega) (by omega) v.length hv
    refine Ev.bind hH ?_
    refine Ev.congr (fun k => by rw [if_neg (by omega), if_pos rfl]) (Ev.bind T (Ev.bind Q (Ev.bind I (Ev.bind eV ?_))))
    refine Ev.congr (fun k => by rw [if_pos rfl]) (Ev.bind hH ?_)
    exact Ev.congr (fun k => by rw [if_neg (by omega), if_pos rfl]) (Ev.now true)

end Go.Proofs.Ytdlhmhgpafegpaa.Pure
