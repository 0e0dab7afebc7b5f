/- For every plan the law answers true: the given PlanOk and the model's are one function, and the copies are as they were. -/
import Derived.Test.YtmcboiffbcnalaaPFnExactPlanOkx29
import Derived.Test.YtmcboiffbcnalaaEFnExactPlanOkh
import Derived.Test.YtmcboiffbcnalaaEFnExactPlanOkl
namespace Go.Proofs.Ytmcboiffbcnalaa.Pure
open Go.RowKit Go.Proofs.Ytmcboiffbcnalaa.PFnExactPlanOk Go.Proofs.YtmcboiffbcnalaaW.PrintWords Go.Proofs.YtmcboiffbcnalaaW.PrintLast Go.Proofs.YtmcboiffbcnalaaW.PrintMore

theorem FnExactPlanOk : laws_FnExactPlanOk.Pure := by
  intro a ha
  obtain ⟨hx, ⟨h6, _⟩, _⟩ := ha
  obtain ⟨x, offs, ar⟩ := a
  simp only at hx h6 ⊢
  obtain ⟨⟨h1, _⟩, ⟨h2, _⟩, ⟨h3, h3'⟩, ⟨h4, h4'⟩, ⟨h5, _⟩⟩ := hx
  have hf : ∀ y ∈ x.f2, y.f1.length ≤ 9223372036854775807 := fun y hy => by
    have := (h3' y hy).2.1
    unfold maxLen at this; omega
  have hk : ∀ y ∈ x.f3, WK y := fun y hy => by
    obtain ⟨⟨a1, _⟩, ⟨a2, a2'⟩, ⟨_, _, ⟨a3, _⟩⟩, _, ⟨a4, _⟩⟩ := h4' y hy
    unfold maxLen at a1 a2 a3 a4
    refine ⟨by omega, by omega, fun z hz => ?_, by omega, by omega⟩
    have := (a2' z hz).2.2.1
    unfold maxLen at this; omega
  unfold maxLen at h1 h2 h3 h4 h5 h6
  obtain ⟨t, ht, _, hb⟩ : Sz (fun k => laws_szPlan.f k x.f0 x.f1 x.f2 x.f3 x.f4 offs ar 1048576) _ := by
    unfold laws_szPlan.f
    exact Sz.next (szNest x.f0 x.f1 x.f2 x.f3 x.f4 1048576 (by omega) (by omega) (by omega) hf (by omega) hk (by omega) (by omega) (by omega)) (fun t h0 ha => Sz.last (szInt offs t (by omega) h0 ha))
  unfold laws_FnExactPlanOk.f
  refine Ev.rounds (g := fun k => _) (Ev.bind ht ?_)
  by_cases c : t < 0
  · exact Ev.congr (fun k => by rw [if_pos c]) (Ev.now true)
  · refine Ev.congr (fun k => by rw [if_neg c]) ?_
    obtain ⟨⟨b1, b2, ⟨b3, b3'⟩, ⟨b4, b4'⟩, b5⟩, b6⟩ := hb (by omega)
    have T : Ev (fun k => laws_toPlan.f k x.f0 x.f1 x.f2 x.f3 x.f4 offs ar) (x.f0, x.f1, x.f2.map c125, x.f3.map c132, x.f4, offs, ar) := by
      unfold laws_toPlan.f
      exact Ev.bind (toNest x.f0 x.f1 x.f2 x.f3 x.f4 ⟨b1, b2, ⟨b3, b3'⟩, ⟨b4, b4'⟩, b5⟩) (Ev.bind (toInt offs b6) (Ev.now _))
    have l2 : (x.f2.map c125).length ≤ 1048576 := by rw [List.length_map]; exact b3
    have l3 : (x.f3.map c132).length ≤ 1048576 := by rw [List.length_map]; exact b4
    have s2 : ∀ y ∈ x.f3.map c132, SK2 y := fun y hy => by
      obtain ⟨z, hz, rfl⟩ := List.mem_map.1 hy
      obtain ⟨q1, ⟨q2, q3⟩, q4, q5⟩ := b4' z hz
      refine ⟨q1, ⟨?_, fun u hu => ?_⟩, q4, ?_⟩
      · show L20 (z.f1.map c129).length
        rw [List.length_map]; exact q2
      · obtain ⟨v, hv, rfl⟩ := List.mem_map.1 hu
        exact q3 v hv
      · show L20 (z.f4.map c204).length
        rw [List.length_map]; exact q5
    have sk : ∀ y ∈ x.f3.map c132, SmallK y := fun y hy => ⟨(s2 y hy).1, (s2 y hy).2.1.1, (s2 y hy).2.2.2⟩
    have f2 : ∀ y ∈ x.f2.map c125, L20 y.f1.length := fun y hy => by
      obtain ⟨z, hz, rfl⟩ := List.mem_map.1 hy
      exact b3' z hz
    obtain ⟨v, S, I⟩ := plan_both x.f0 x.f1 (x.f2.map c125) (x.f3.map c132) x.f4 offs ar b1 l3 sk b2 l2 b5
    have E : Ev (fun k => laws_eqPlan.f k x.f0 x.f1 (x.f2.map c125) (x.f3.map c132) x.f4 offs ar x.f0 x.f1 (x.f2.map c125) (x.f3.map c132) x.f4 offs ar) true := by
      unfold laws_eqPlan.f
      refine Ev.bind (eqNest x.f0 x.f1 (x.f2.map c125) (x.f3.map c132) x.f4 ⟨b1, b2, ⟨l2, f2⟩, ⟨l3, s2⟩, b5⟩) (Ev.congr (fun k => by rw [if_pos rfl]) ?_)
      refine Ev.bind (eqInt offs b6) (Ev.congr (fun k => by rw [if_pos rfl]) ?_)
      exact Ev.congr (fun k => by rw [if_pos rfl]) (Ev.now true)
    refine Ev.bind T (Ev.bind S (Ev.bind T (Ev.bind I ?_)))
    refine Ev.congr (fun k => by rw [if_neg (by simp)]) ?_
    refine Ev.bind T ?_
    exact Ev.bind E (Ev.now true)

end Go.Proofs.Ytmcboiffbcnalaa.Pure
