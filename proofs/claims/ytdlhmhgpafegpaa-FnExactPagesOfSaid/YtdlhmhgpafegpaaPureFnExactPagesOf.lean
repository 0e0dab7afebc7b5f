/- For every house and number of tokens the law answers true: the given PagesOf and the model's are one function, and the copies are as they were. -/
import Derived.Test.YtdlhmhgpafegpaaPFnExactPagesOfx9
import Derived.Test.YtdlhmhgpafegpaaEFnExactPagesOfd
namespace Go.Proofs.Ytdlhmhgpafegpaa.Pure
open Go.RowKit Go.Proofs.Ytdlhmhgpafegpaa.PFnExactPagesOf Go.Proofs.YtdlhmhgpafegpaaW.PrintWords Go.Proofs.YtdlhmhgpafegpaaW.PrintLast Go.Proofs.YtdlhmhgpafegpaaW.PrintMore
set_option linter.unusedSimpArgs false

theorem choice_both (a b c : Int) : spec_ChoiceOk.f a b c = some (inR 1 2 a && (inR 0 64 b && inR 1 65536 c)) ∧ impl_ChoiceOk.f a b c = some (inR 1 2 a && (inR 0 64 b && inR 1 65536 c)) := by
  unfold spec_ChoiceOk.f impl_ChoiceOk.f
  simp only [l5In_val, within_val, Option.bind_some]
  cases inR 1 2 a <;> cases inR 0 64 b <;> cases inR 1 65536 c <;> exact ⟨rfl, rfl⟩
theorem house_both (size : Int) (l : List S57) (c1 c2 c3 p s m : Int) (hl : l.length ≤ 1048576) (hx : SmallR l) :
    ∃ v, Ev (fun k => spec_HouseOk.f k size l c1 c2 c3 p s m) (v && ((inR 1 2 c1 && (inR 0 64 c2 && inR 1 65536 c3)) && (inR 1 1000 p && (inR 1 100 s && inR 1 100 m)))) ∧ Ev (fun k => impl_HouseOk.f k size l c1 c2 c3 p s m) (v && ((inR 1 2 c1 && (inR 0 64 c2 && inR 1 65536 c3)) && (inR 1 1000 p && (inR 1 100 s && inR 1 100 m)))) := by
  obtain ⟨v, S, I⟩ := lm_both size l hl hx
  refine ⟨v, ?_, ?_⟩
  · unfold spec_HouseOk.f
    refine Ev.bind S (Ev.congr (fun k => ?_) (Ev.now _))
    simp only [(choice_both c1 c2 c3).1, l5In_val, Option.bind_some]
    generalize (inR 1 2 c1 && (inR 0 64 c2 && inR 1 65536 c3)) = w
    cases v <;> cases w <;> cases inR 1 1000 p <;> cases inR 1 100 s <;> cases inR 1 100 m <;> rfl
  · unfold impl_HouseOk.f
    refine Ev.bind I (Ev.congr (fun k => ?_) (Ev.now _))
    simp only [(choice_both c1 c2 c3).2, within_val, Option.bind_some]
    generalize (inR 1 2 c1 && (inR 0 64 c2 && inR 1 65536 c3)) = w
    cases v <;> cases w <;> cases inR 1 1000 p <;> cases inR 1 100 s <;> cases inR 1 100 m <;> rfl
theorem pages_both (size : Int) (l : List S57) (c1 c2 c3 p s m n : Int) (hl : l.length ≤ 1048576) (hx : SmallR l) :
    ∃ v, Ev (fun k => spec_PagesOf.f k size l c1 c2 c3 p s m n) v ∧ Ev (fun k => impl_PagesOf.f k size l c1 c2 c3 p s m n) v := by
  obtain ⟨v, S, I⟩ := house_both size l c1 c2 c3 p s m hl hx
  unfold spec_PagesOf.f impl_PagesOf.f
  generalize hv : (v && ((inR 1 2 c1 && (inR 0 64 c2 && inR 1 65536 c3)) && (inR 1 1000 p && (inR 1 100 s && inR 1 100 m)))) = u at S I
  cases u with
  | false => exact ⟨0, Ev.bind S (Ev.congr (fun k => by rw [if_neg (by decide)]) (Ev.now _)), Ev.bind I (Ev.congr (fun k => by rw [if_neg (by decide)]) (Ev.now _))⟩
  | true =>
    have hs : 1 ≤ s := by
      simp only [Bool.and_eq_true] at hv
      have := hv.2.2.2.1
      unfold inR at this
      simp at this
      omega
    cases c : inR 0 1000 n with
    | false => exact ⟨0, Ev.bind S (Ev.congr (fun k => by rw [if_pos rfl, l5In_val, c]; rfl) (Ev.now _)), Ev.bind I (Ev.congr (fun k => by rw [if_pos rfl, within_val, c]; rfl) (Ev.now _))⟩
    | true =>
      refine ⟨wrap64 (Int.tdiv (wrap64 ((wrap64 (n + s)) - 1)) s), Ev.bind S (Ev.congr (fun k => ?_) (Ev.now _)), Ev.bind I (Ev.congr (fun k => ?_) (Ev.now _))⟩
      · rw [if_pos rfl, l5In_val, c, Option.bind_some, if_pos rfl]
        unfold spec_l22Pages.f
        rw [if_neg (by omega)]
        rfl
      · rw [if_pos rfl, within_val, c, Option.bind_some, if_pos rfl, if_neg (by omega)]
theorem FnExactPagesOf : laws_FnExactPagesOf.Pure := by
  intro a n ha _
  obtain ⟨⟨_, h1, h2⟩, _, _, _, _⟩ := ha
  obtain ⟨⟨size, l⟩, ⟨c1, c2, c3⟩, p, s, m⟩ := a
  simp only at h1 h2 ⊢
  have hw : ∀ y ∈ l, WR y := fun y hy => by
    obtain ⟨⟨a1, _⟩, ⟨a2, _⟩⟩ := h2 y hy
    unfold maxLen at a1 a2
    exact ⟨by omega, by omega⟩
  unfold maxLen at h1
  obtain ⟨t, ht, _, hb⟩ : Sz (fun k => laws_szHouse.f k size l c1 c2 c3 p s m 1048576) _ := by
    unfold laws_szHouse.f
    exact Sz.last (szLm size l 1048576 (by omega) hw (by omega) (by omega))
  unfold laws_FnExactPagesOf.f
  refine Ev.rounds (g := fun k => _) (Ev.bind ht ?_)
  by_cases c : t < 0
  · exact Ev.congr (fun k => by rw [if_pos c]) (Ev.now true)
  · refine Ev.congr (fun k => by rw [if_neg c]) ?_
    obtain ⟨b1, b2⟩ := hb (by omega)
    have T : Ev (fun k => laws_toHouse.f k size l c1 c2 c3 p s m) (size, l.map cRow, c1, c2, c3, p, s, m) := by
      unfold laws_toHouse.f
      exact Ev.bind (toLm size l b1 b2) (Ev.now _)
    have m1 : (l.map cRow).length ≤ 1048576 := by rw [List.length_map]; exact b1
    have m2 : ∀ x ∈ l.map cRow, SR2 x := fun x hx => by
      obtain ⟨y, hy, rfl⟩ := List.mem_map.1 hx
      exact b2 y hy
    obtain ⟨v, S, I⟩ := pages_both size (l.map cRow) c1 c2 c3 p s m n m1 m2
    have E : Ev (fun k => laws_eqHouse.f k size (l.map cRow) c1 c2 c3 p s m size (l.map cRow) c1 c2 c3 p s m) true := by
      unfold laws_eqHouse.f laws_eqChoice.f
      refine Ev.bind (eqLm size (l.map cRow) m1 m2) (Ev.congr (fun k => ?_) (Ev.now true))
      simp
    refine Ev.bind T (Ev.bind S (Ev.bind T (Ev.bind I ?_)))
    refine Ev.congr (fun k => by rw [if_pos rfl]) ?_
    exact Ev.bind T (Ev.bind E (Ev.now true))

end Go.Proofs.Ytdlhmhgpafegpaa.Pure
