/- Lists of lives compared, marked, and looked at again. -/
import Derived.Test.YtmcboiffbcnalaaPFnExactLivesx22
import Derived.Test.YtmcboiffbcnalaaPFnExactLivesx23
import Derived.Test.YtmcboiffbcnalaaPFnExactLivesx24
import Derived.Test.YtmcboiffbcnalaaEFnExactLivesa
namespace Go.Proofs.Ytmcboiffbcnalaa.Pure
open Go.RowKit Go.Proofs.Ytmcboiffbcnalaa.PFnExactLives Go.Proofs.YtmcboiffbcnalaaW.PrintWords Go.Proofs.YtmcboiffbcnalaaW.PrintLast Go.Proofs.YtmcboiffbcnalaaW.PrintMore
set_option linter.unusedVariables false
theorem eqLives (l : List S52) (hl : l.length ≤ 1048576) : Ev (fun k => laws_eqLifeS.f k l l) true := by
  unfold laws_eqLifeS.f
  refine Ev.congr (f := fun k => laws_eqLifeS.l0 k l l 0) (fun k => by rw [if_pos rfl]) ?_
  refine down (P := fun i => Ev (fun k => laws_eqLifeS.l0 k l l (i : Int)) true) (n := l.length) ?_ ?_ 0 (Nat.zero_le _)
  · exact Ev.stop fun k => by simp only [laws_eqLifeS.l0]; rw [if_neg (by omega)]
  · intro i hi ih
    have e : ∀ x : S52, laws_eqLife.f x.f0 x.f1 x.f2 x.f3 x.f0 x.f1 x.f2 x.f3 = some true := fun x => by unfold laws_eqLife.f; rw [if_pos rfl, if_pos rfl, if_pos rfl, if_pos rfl]
    refine Ev.step (fun k => ?_) ih
    simp only [laws_eqLifeS.l0, e]
    rw [if_pos (by omega), if_pos (by omega), if_pos (by omega), wn i (by omega)]; rfl
def mk4 (a : Int) : S52 := ⟨a, a + 1, a + 2, a + 3⟩
theorem rd52_set (z : List S52) (i : Nat) (hi : i < z.length) (x : S52) (j : Nat) (hj : j < z.length) : rd_T52 (z.set i x) (j : Int) = if i = j then x else rd_T52 z (j : Int) := by
  rw [show rd_T52 (z.set i x) (j : Int) = (z.set i x)[j]'(by rw [List.length_set]; exact hj) from getc z52 _ j (by rw [List.length_set]; exact hj), List.getElem_set]
  split
  · rfl
  · exact (getc z52 z j hj).symm
theorem mark_loop (n : Nat) (hn : n ≤ 1048576) : ∀ i, i ≤ n → ∀ (z : List S52) (A : Int), z.length = n → 0 ≤ A → A ≤ 4 * (i : Int) + 1 →
    ∃ z', Ev (fun k => laws_markLifeS.l0 k z A (i : Int)) (A + 4 * ((n : Int) - i), z') ∧ z'.length = n ∧ (∀ j, j < i → rd_T52 z' (j : Int) = rd_T52 z (j : Int)) ∧ (∀ j : Nat, i ≤ j → j < n → rd_T52 z' (j : Int) = mk4 (A + 4 * ((j : Int) - i))) := by
  refine down (P := fun i => ∀ (z : List S52) (A : Int), z.length = n → 0 ≤ A → A ≤ 4 * (i : Int) + 1 →
    ∃ z', Ev (fun k => laws_markLifeS.l0 k z A (i : Int)) (A + 4 * ((n : Int) - i), z') ∧ z'.length = n ∧ (∀ j, j < i → rd_T52 z' (j : Int) = rd_T52 z (j : Int)) ∧ (∀ j : Nat, i ≤ j → j < n → rd_T52 z' (j : Int) = mk4 (A + 4 * ((j : Int) - i)))) ?_ ?_
  · intro z A hz h0 h1
    refine ⟨z, Ev.stop fun k => ?_, hz, fun _ _ => rfl, fun j h1 h2 => by omega⟩
    simp only [laws_markLifeS.l0]
    rw [if_neg (by omega), Int.sub_self, Int.mul_zero, Int.add_zero]
  · intro i hi ih z A hz h0 h1
    obtain ⟨z', h, hl, hb, ha⟩ := ih (z.set i (mk4 A)) (A + 4) (by rw [List.length_set]; exact hz) (by omega) (by omega)
    refine ⟨z', ?_, hl, fun j hj => ?_, fun j h1 h2 => ?_⟩
    · rw [show A + 4 * ((n : Int) - (i : Nat)) = A + 4 + 4 * ((n : Int) - ((i + 1 : Nat) : Int)) by omega]
      refine Ev.step (fun k => ?_) h
      have hs : ∀ x, rd_T52 (z.set i x) (i : Int) = x := fun x => by rw [rd52_set z i (by omega) x i (by omega), if_pos rfl]
      simp only [laws_markLifeS.l0, Option.bind_some, Int.toNat_natCast, List.set_set, hs]
      rw [if_pos (by omega), if_pos (by omega)]
      rw [w64 (x := A + 1) (by omega) (by omega), w64 (x := A + 1 + 1) (by omega) (by omega), w64 (x := A + 1 + 1 + 1) (by omega) (by omega), w64 (x := A + 1 + 1 + 1 + 1) (by omega) (by omega), wn i (by omega)]
      congr 1
      · congr 1
        unfold mk4
        congr 1 <;> omega
      · omega
    · rw [hb j (by omega), rd52_set z i (by omega) _ j (by omega), if_neg (by omega)]
    · rcases Nat.eq_or_lt_of_le h1 with e | e
      · subst e
        rw [hb i (by omega), rd52_set z i (by omega) _ i (by omega), if_pos rfl, Int.sub_self, Int.mul_zero, Int.add_zero]
      · rw [ha j e h2]; congr 1; omega
theorem held_loop (z : List S52) (hz : z.length ≤ 1048576) (h : ∀ j : Nat, j < z.length → rd_T52 z (j : Int) = mk4 (1 + 4 * (j : Int))) : ∀ i, i ≤ z.length → Ev (fun k => laws_heldLifeS.l0 k z (1 + 4 * (i : Int)) (i : Int)) (1 + 4 * (z.length : Int)) := by
  refine down (P := fun i => Ev (fun k => laws_heldLifeS.l0 k z (1 + 4 * (i : Int)) (i : Int)) (1 + 4 * (z.length : Int))) ?_ ?_
  · exact Ev.stop fun k => by simp only [laws_heldLifeS.l0]; rw [if_neg (by omega)]
  · intro i hi ih
    refine Ev.step (fun k => ?_) ih
    simp only [laws_heldLifeS.l0, h i hi]
    unfold mk4
    rw [w64 (x := 1 + 4 * (i : Int) + 1) (by omega) (by omega), w64 (x := 1 + 4 * (i : Int) + 1 + 1) (by omega) (by omega), w64 (x := 1 + 4 * (i : Int) + 1 + 1 + 1) (by omega) (by omega), w64 (x := 1 + 4 * (i : Int) + 1 + 1 + 1 + 1) (by omega) (by omega)]
    rw [if_pos (by omega), if_pos (by omega), if_pos rfl, if_pos rfl, if_pos (by show (1 + 4 * (i : Int) + 2) = _; omega), if_pos (by show (1 + 4 * (i : Int) + 3) = _; omega), wn i (by omega)]
    congr 1 <;> omega
theorem mark_held (l : List S52) (hl : l.length ≤ 1048576) : ∃ z, Ev (fun k => laws_markLifeS.f k l 1) (1 + 4 * (l.length : Int), z) ∧ Ev (fun k => laws_heldLifeS.f k z 1) (1 + 4 * (l.length : Int)) := by
  obtain ⟨z, h, e, _, ha⟩ := mark_loop l.length hl 0 (Nat.zero_le _) l 1 rfl (by omega) (by omega)
  refine ⟨z, ?_, ?_⟩
  · have : (1 : Int) + 4 * ((l.length : Int) - (0 : Nat)) = 1 + 4 * (l.length : Int) := by omega
    rw [this] at h; exact h
  · have := held_loop z (by omega) (fun j hj => by rw [ha j (Nat.zero_le _) (by omega)]; congr 1 <;> omega) 0 (Nat.zero_le _)
    rw [e] at this; exact this
end Go.Proofs.Ytmcboiffbcnalaa.Pure
