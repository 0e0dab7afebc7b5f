/- For every nest the law answers true: the lives that the given Lives tells are the model's, the copies are as they were, and what is marked is held. -/
import Derived.Test.YtmcboiffbcnalaaPFnExactLivesx24
import Derived.Test.YtmcboiffbcnalaaEFnExactLivesh
import Derived.Test.YtmcboiffbcnalaaEFnExactLivesj
import Derived.Test.YtmcboiffbcnalaaEFnExactLivesn
namespace Go.Proofs.Ytmcboiffbcnalaa.Pure
open Go.RowKit Go.Proofs.Ytmcboiffbcnalaa.PFnExactLives Go.Proofs.YtmcboiffbcnalaaW.PrintWords Go.Proofs.YtmcboiffbcnalaaW.PrintLast Go.Proofs.YtmcboiffbcnalaaW.PrintMore

theorem lives_both (ss ins : List Int) (fx : List S71) (ks : List S79) (outs : List Int) (hs : ss.length ≤ 1048576) (hk : ks.length ≤ 1048576) (hK : ∀ x ∈ ks, SmallK x) (hi : ins.length ≤ 1048576) (hf : fx.length ≤ 1048576) (ho : outs.length ≤ 1048576) :
    ∃ v : List S52, v.length ≤ 1048576 ∧ Ev (fun k => spec_Lives.f k ss ins fx ks outs) v ∧ Ev (fun k => impl_Lives.f k ss ins fx ks outs) v := by
  cases hn : nestB ss ins fx ks outs with
  | true =>
    refine ⟨livesV ss ins fx ks outs, Nat.le_trans (livesD_len _ _ _) hs, specLives_ev ss ins fx ks outs hs hk hK hi hf ho hn, ?_⟩
    have I := implNest_ev ss ins fx ks outs hs ho hk hK
    rw [hn] at I
    unfold impl_Lives.f
    exact Ev.bind I (Ev.congr (fun k => by rw [if_pos rfl]) (Ev.bind (implLives_ev ss ins fx ks outs hk hK ho hn) (Ev.now _)))
  | false =>
    have I := implNest_ev ss ins fx ks outs hs ho hk hK
    have S := specNest_ev ss ins fx ks outs hs hi hf ho hk hK
    rw [hn] at I S
    refine ⟨[], Nat.zero_le _, ?_, ?_⟩
    · unfold spec_Lives.f
      exact Ev.bind (Ev.now ([] : List S52)) (Ev.bind S (Ev.congr (fun k => by rw [if_neg (by decide)]) (Ev.now _)))
    · unfold impl_Lives.f
      exact Ev.bind I (Ev.congr (fun k => by rw [if_neg (by decide)]) (Ev.now _))
theorem FnExactLives : laws_FnExactLives.Pure := by
  intro x hx
  obtain ⟨⟨h1, _⟩, ⟨h2, _⟩, ⟨h3, h3'⟩, ⟨h4, h4'⟩, ⟨h5, _⟩⟩ := hx
  have hf : ∀ y ∈ x.f2, y.f1.length ≤ 9223372036854775807 := fun y hy => by
    have := (h3' y hy).2.1
    unfold maxLen at this; omega
  have hk : ∀ y ∈ x.f3, WK y := fun y hy => by
    obtain ⟨⟨a1, _⟩, ⟨a2, a2'⟩, ⟨_, _, ⟨a3, _⟩⟩, _, ⟨a4, _⟩⟩ := h4' y hy
    unfold maxLen at a1 a2 a3 a4
    refine ⟨by omega, by omega, fun z hz => ?_, by omega, by omega⟩
    have := (a2' z hz).2.2.1
    unfold maxLen at this; omega
  unfold maxLen at h1 h2 h3 h4 h5
  obtain ⟨t, ht, _, hb⟩ := szNest x.f0 x.f1 x.f2 x.f3 x.f4 1048576 (by omega) (by omega) (by omega) hf (by omega) hk (by omega) (by omega) (by omega)
  unfold laws_FnExactLives.f
  refine Ev.rounds (g := fun k => _) (Ev.bind ht ?_)
  by_cases c : t < 0
  · exact Ev.congr (fun k => by rw [if_pos c]) (Ev.now true)
  · refine Ev.congr (fun k => by rw [if_neg c]) ?_
    obtain ⟨b1, b2, ⟨b3, b3'⟩, ⟨b4, b4'⟩, b5⟩ := hb (by omega)
    have T := toNest x.f0 x.f1 x.f2 x.f3 x.f4 ⟨b1, b2, ⟨b3, b3'⟩, ⟨b4, b4'⟩, b5⟩
    have l2 : (x.f2.map c125).length ≤ 1048576 := by rw [List.length_map]; exact b3
    have l3 : (x.f3.map c132).length ≤ 1048576 := by rw [List.length_map]; exact b4
    have s2 : ∀ y ∈ x.f3.map c132, SK2 y := fun y hy => by
      obtain ⟨z, hz, rfl⟩ := List.mem_map.1 hy
      obtain ⟨q1, ⟨q2, q3⟩, q4, q5⟩ := b4' z hz
      refine ⟨q1, ⟨?_, fun u hu => ?_⟩, q4, ?_⟩
      · show L20 (z.f1.map c129).length
        rw [List.length_map]; exact q2
      · obtain ⟨v, hv, rfl⟩ := List.mem_map.1 hu
        exact q3 v hv
      · show L20 (z.f4.map c204).length
        rw [List.length_map]; exact q5
    have sk : ∀ y ∈ x.f3.map c132, SmallK y := fun y hy => ⟨(s2 y hy).1, (s2 y hy).2.1.1, (s2 y hy).2.2.2⟩
    have f2 : ∀ y ∈ x.f2.map c125, L20 y.f1.length := fun y hy => by
      obtain ⟨z, hz, rfl⟩ := List.mem_map.1 hy
      exact b3' z hz
    obtain ⟨v, hv, S, I⟩ := lives_both x.f0 x.f1 (x.f2.map c125) (x.f3.map c132) x.f4 b1 l3 sk b2 l2 b5
    have E := eqNest x.f0 x.f1 (x.f2.map c125) (x.f3.map c132) x.f4 ⟨b1, b2, ⟨l2, f2⟩, ⟨l3, s2⟩, b5⟩
    have Q := eqLives v hv
    obtain ⟨z, M, H⟩ := mark_held v hv
    -- the marks' number
    have cF : ∀ l : List S71, l.length ≤ 1048576 → (∀ y ∈ l, L20 y.f1.length) → 0 ≤ Marks.cntF l ∧ Marks.cntF l ≤ 1048577 * (l.length : Int) := fun l => by
      induction l with
      | nil => intro _ _; exact ⟨Int.le_refl _, Int.le_refl _⟩
      | cons y r ih =>
        intro h g
        have := ih (by simp at h; omega) (fun z hz => g z (by simp [hz]))
        have hy := g y (by simp)
        unfold L20 at hy
        rw [Marks.cntF, List.length_cons]; omega
    have cA : ∀ l : List S76, l.length ≤ 1048576 → (∀ y ∈ l, L20 y.f2.length) → 0 ≤ Marks.cntA l ∧ Marks.cntA l ≤ 1048578 * (l.length : Int) := fun l => by
      induction l with
      | nil => intro _ _; exact ⟨Int.le_refl _, Int.le_refl _⟩
      | cons y r ih =>
        intro h g
        have := ih (by simp at h; omega) (fun z hz => g z (by simp [hz]))
        have hy := g y (by simp)
        unfold L20 at hy
        rw [Marks.cntA, List.length_cons]; omega
    have cK : ∀ l : List S79, l.length ≤ 1048576 → (∀ y ∈ l, SK2 y) → 0 ≤ Marks.cntK l ∧ Marks.cntK l ≤ 1099520016384 * (l.length : Int) := fun l => by
      induction l with
      | nil => intro _ _; exact ⟨Int.le_refl _, Int.le_refl _⟩
      | cons y r ih =>
        intro h g
        have := ih (by simp at h; omega) (fun z hz => g z (by simp [hz]))
        obtain ⟨q1, ⟨q2, q3⟩, q4, q5⟩ := g y (by simp)
        have := cA y.f1 q2 q3
        unfold L20 at q1 q2 q4 q5
        rw [Marks.cntK, List.length_cons]; omega
    have N1 := cF _ l2 f2
    have N2 := cK _ l3 s2
    have N : ∃ r, 0 ≤ r ∧ laws_markNest.f x.f0 x.f1 (x.f2.map c125) (x.f3.map c132) x.f4 1 = some r := by
      unfold L20 at b1 b2 b5
      refine ⟨_, ?_, by unfold laws_markNest.f Marks.markF; exact if_pos ⟨by omega, by omega⟩⟩
      omega
    obtain ⟨r, hr, hN⟩ := N
    refine Ev.bind T (Ev.bind S (Ev.bind T (Ev.bind I (Ev.bind Q ?_))))
    refine Ev.congr (fun k => by rw [if_pos rfl]) (Ev.bind T (Ev.bind E ?_))
    refine Ev.congr (fun k => by rw [if_pos rfl]) ?_
    show Ev (fun k => (laws_markNest.f x.f0 x.f1 (x.f2.map c125) (x.f3.map c132) x.f4 1).bind _) true
    rw [hN]
    refine Ev.congr (fun k => by rw [Option.bind_some, if_neg (by omega)]) (Ev.bind Q ?_)
    refine Ev.step (f := fun k => (laws_markLifeS.f k v 1).bind fun q => ((laws_heldLifeS.f k q.2 1).bind fun E => (if E < 0 then (some false) else (if E = q.1 then ((laws_toNest.f k x.f0 x.f1 x.f2 x.f3 x.f4).bind fun l => ((impl_Lives.f k l.1 l.2.1 l.2.2.1 l.2.2.2.1 l.2.2.2.2).bind fun J => ((laws_eqLifeS.f k J v).bind fun L => (if L = true then ((laws_heldLifeS.f k q.2 1).bind fun I => (if I < 0 then (some false) else (if I = q.1 then (some true) else (some false)))) else (some false))))) else (some false))))) (fun k => by simp only [laws_FnExactLives.j0]; rw [if_neg (by decide)]) ?_
    refine Ev.bind M (Ev.bind H ?_)
    refine Ev.congr (fun k => by rw [if_neg (by omega), if_pos rfl]) (Ev.bind T (Ev.bind I (Ev.bind Q ?_)))
    refine Ev.congr (fun k => by rw [if_pos rfl]) (Ev.bind H ?_)
    exact Ev.congr (fun k => by rw [if_neg (by omega), if_pos rfl]) (Ev.now true)
end Go.Proofs.Ytmcboiffbcnalaa.Pure
