/- For every Lm the law answers true: the given LmOk and the model's are one function, and the copies are as they were. -/
import Derived.Test.YtdlhmhgpafegpaaPFnExactLmOkx8
import Derived.Test.YtdlhmhgpafegpaaEFnExactLmOkd
namespace Go.Proofs.Ytdlhmhgpafegpaa.Pure
open Go.RowKit Go.Proofs.Ytdlhmhgpafegpaa.PFnExactLmOk Go.Proofs.YtdlhmhgpafegpaaW.PrintWords Go.Proofs.YtdlhmhgpafegpaaW.PrintLast Go.Proofs.YtdlhmhgpafegpaaW.PrintMore

theorem FnExactLmOk : laws_FnExactLmOk.Pure := by
  intro a ha
  obtain ⟨_, h1, h2⟩ := ha
  obtain ⟨size, l⟩ := a
  simp only at h1 h2 ⊢
  have hw : ∀ y ∈ l, WR y := fun y hy => by
    obtain ⟨⟨a1, _⟩, ⟨a2, _⟩⟩ := h2 y hy
    unfold maxLen at a1 a2
    exact ⟨by omega, by omega⟩
  unfold maxLen at h1
  obtain ⟨t, ht, _, hb⟩ := szLm size l 1048576 (by omega) hw (by omega) (by omega)
  unfold laws_FnExactLmOk.f
  refine Ev.rounds (g := fun k => _) (Ev.bind ht ?_)
  by_cases c : t < 0
  · exact Ev.congr (fun k => by rw [if_pos c]) (Ev.now true)
  · refine Ev.congr (fun k => by rw [if_neg c]) ?_
    obtain ⟨b1, b2⟩ := hb (by omega)
    have T := toLm size l b1 b2
    have m1 : (l.map cRow).length ≤ 1048576 := by rw [List.length_map]; exact b1
    have m2 : ∀ x ∈ l.map cRow, SR2 x := fun x hx => by
      obtain ⟨y, hy, rfl⟩ := List.mem_map.1 hx
      exact b2 y hy
    obtain ⟨v, S, I⟩ := lm_both size (l.map cRow) m1 m2
    refine Ev.bind T (Ev.bind S (Ev.bind T (Ev.bind I ?_)))
    refine Ev.congr (fun k => by rw [if_neg (by simp)]) ?_
    exact Ev.bind T (Ev.bind (eqLm size (l.map cRow) m1 m2) (Ev.now true))

end Go.Proofs.Ytdlhmhgpafegpaa.Pure
