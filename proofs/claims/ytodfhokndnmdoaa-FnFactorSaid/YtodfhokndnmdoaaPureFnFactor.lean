/- For every code the law answers true: a step with a factor, of gradients that many times as great, moves what a step with the factor 1 moves. -/
import Derived.Test.YtodfhokndnmdoaaPFnFactorx16
import Derived.Test.YtodfhokndnmdoaaEFnFactorf
namespace Go.Proofs.Ytodfhokndnmdoaa.Pure
open Go.RowKit Go.Proofs.Ytodfhokndnmdoaa.PFnFactor Go.Proofs.YtodfhokndnmdoaaW.PrintWords Go.Proofs.YtodfhokndnmdoaaW.PrintLast Go.Proofs.YtodfhokndnmdoaaW.PrintMore
set_option linter.unusedSimpArgs false
set_option linter.unusedVariables false

theorem same_ev (l : List Int) (hl : l.length ≤ 1048576) : Ev (fun k => laws_sameInts.f k l l) true := by
  unfold laws_sameInts.f
  refine Ev.congr (fun k => by rw [if_pos rfl]) ?_
  refine down (P := fun i => Ev (fun k => laws_sameInts.l0 k l l (i : Int)) true) (n := l.length) ?_ ?_ 0 (Nat.zero_le _)
  · exact Ev.stop fun k => by simp only [laws_sameInts.l0]; rw [if_neg (by omega)]
  · intro i hi ih
    refine Ev.step (fun k => ?_) ih
    simp only [laws_sameInts.l0]
    rw [if_pos (by omega), if_pos (by omega), if_pos (by omega), if_pos trivial, wn i (by omega)]
theorem at_some (c : List Int) (hb : ∀ x ∈ c, 0 ≤ x ∧ x ≤ 255) (i : Nat) (hi : i ≤ 64) : ∃ a, laws_at.f c (i : Int) = some a ∧ 0 ≤ a ∧ a ≤ 255 := by
  unfold laws_at.f
  by_cases h : (i : Int) < (c.length : Int)
  · rw [if_pos h, if_pos (by omega)]
    have := hb _ (rd_mem c i (by omega))
    exact ⟨_, rfl, by rw [w64 (by omega) (by omega)]; exact this.1, by rw [w64 (by omega) (by omega)]; exact this.2⟩
  · rw [if_neg h, w64 (by omega) (by omega)]
    refine ⟨_, rfl, Int.tmod_nonneg _ (by omega), ?_⟩
    have := Int.tmod_lt_of_pos ((i : Int) * 37) (show (0 : Int) < 251 by decide)
    omega
section
variable (P F S : List Int) (kd s1 s2 s3 s4 keep keep2 low decay most grow cnt fac good : Int)
theorem fin_ev (g : List Int) (hgr : g.length ≤ 1048576) (hr : ∀ x ∈ g, -128 ≤ x ∧ x ≤ 127) :
    Gd (fun b => b = true) (fun k => (impl_StepOpt.f k kd s1 s2 s3 s4 keep keep2 low decay most grow P F S cnt fac good (g.map fun x => wrap64 (x * fac))).bind fun b0 => ((spec_StepOpt.f k kd s1 s2 s3 s4 keep keep2 low decay most grow P F S cnt fac good (g.map fun x => wrap64 (x * fac))).bind fun i0 => (if (b0.2.2.2.2.2.2 != i0.2.2.2.2.2.2) = true then (some false) else (if b0.2.2.2.2.2.2 = true then ((impl_StepOpt.f k kd s1 s2 s3 s4 keep keep2 low decay most grow P F S cnt 1 good g).bind fun d0 => ((laws_sameInts.f k b0.1 d0.1).bind fun m0 => (if m0 = true then ((laws_sameInts.f k b0.2.1 d0.2.1).bind fun n0 => (if n0 = true then ((laws_sameInts.f k b0.2.2.1 d0.2.2.1).bind fun o0 => (some o0)) else (some false))) else (some false)))) else (some ((b0.1.length : Int) == 0)))))) := by
  obtain ⟨v, eS, eI, l1, l2, l3⟩ := step_both kd s1 s2 s3 s4 keep keep2 low decay most grow P F S cnt fac good (g.map fun x => wrap64 (x * fac)) (by simpa using hgr)
  refine Gd.bind (P := fun a => a = v) ⟨v, eI, rfl⟩ fun a ha => ?_
  subst ha
  refine Gd.bind (P := fun b => b = a) ⟨a, eS, rfl⟩ fun b hb => ?_
  subst hb
  refine Gd.ite (fun h => absurd h (by simp)) (fun _ => ?_)
  rcases fac_step P F S kd s1 s2 s3 s4 keep keep2 low decay most grow cnt fac good g hgr hr with hf | ⟨v', w, ev, ew, t, e1, e2, e3⟩
  · have := Ev.uniq eI hf
    subst this
    exact Gd.ite (fun h => by simp [failV] at h) (fun _ => Gd.now _ (by simp [failV]))
  · have := Ev.uniq eI ev
    subst this
    refine Gd.ite (fun _ => ?_) (fun h => absurd t h)
    refine Gd.bind (P := fun d => d = w) ⟨w, ew, rfl⟩ fun d hd => ?_
    subst hd
    rw [← e1, ← e2, ← e3]
    refine Gd.bind (P := fun m => m = true) ⟨_, same_ev _ (by omega), rfl⟩ fun m hm => Gd.ite (fun _ => ?_) (fun h => absurd hm h)
    refine Gd.bind (P := fun m => m = true) ⟨_, same_ev _ (by omega), rfl⟩ fun m hm => Gd.ite (fun _ => ?_) (fun h => absurd hm h)
    exact Gd.bind (P := fun m => m = true) ⟨_, same_ev _ (by omega), rfl⟩ fun m hm => Gd.now _ hm
theorem loop_ev (c : List Int) (hb : ∀ x ∈ c, 0 ≤ x ∧ x ≤ 255) (hP : P.length ≤ 16) : ∀ (n : Nat) (g : List Int), g.length + n = P.length → (∀ x ∈ g, -128 ≤ x ∧ x ≤ 127) →
    Gd (fun b => b = true) (fun k => laws_FnFactor.l0 k c fac g (g.map fun x => wrap64 (x * fac)) (g.length : Int) kd s1 s2 s3 s4 keep keep2 low decay most grow P F S cnt fac good) := by
  intro n
  induction n with
  | zero =>
    intro g hn hr
    refine Gd.step (fin_ev P F S kd s1 s2 s3 s4 keep keep2 low decay most grow cnt fac good g (by omega) hr) (fun k => ?_)
    rw [laws_FnFactor.l0, if_neg (by omega)]
  | succ n ih =>
    intro g hn hr
    obtain ⟨a, ea, a0, a1⟩ := at_some c hb g.length (by omega)
    have w1 : wrap64 (a - 128) = a - 128 := w64 (by omega) (by omega)
    refine Gd.step (ih (g ++ [wrap64 (a - 128)]) (by simp; omega) (fun x hx => ?_)) (fun k => ?_)
    · rcases List.mem_append.1 hx with h | h
      · exact hr x h
      · rw [List.mem_singleton.1 h, w1]; omega
    · rw [laws_FnFactor.l0, if_pos (by omega), ea, Option.bind_some, if_pos (by omega), if_pos (by rw [List.length_map]; omega), wn g.length (by omega)]
      simp
end
theorem FnFactor : laws_FnFactor.Pure := by
  intro c d hc _ wc hd _ wd
  have hd2 : ∀ x ∈ d, 0 ≤ x ∧ x ≤ 255 := by
    intro x hx
    have := wd x hx
    simp [Lit.wf, IntKind.min, IntKind.max, IntKind.bits, IntKind.signed] at this
    omega
  have : Gd (fun b => b = true) (fun k => laws_FnFactor.f k c d) := by
    unfold laws_FnFactor.f laws_big.f
    simp only [Option.bind_some]
    refine Gd.ite (fun _ => Gd.now _ rfl) (fun h1 => ?_)
    refine Gd.ite (fun _ => Gd.now _ rfl) (fun h2 => ?_)
    have hl : c.length ≤ 1048576 := by simp at h1; omega
    refine Gd.bind (draw_ev c hl) fun q hq => ?_
    refine Gd.bind (P := fun z => z = true) ⟨_, okI [] [] [] 0 2 0, by decide⟩ fun z hz => Gd.ite (fun _ => ?_) (fun h => absurd hz h)
    exact loop_ev _ _ _ _ _ _ _ _ _ _ _ _ _ _ _ _ _ d hd2 hq _ [] (Nat.zero_add _) (fun x hx => by cases hx)
  obtain ⟨b, hb, rfl⟩ := this
  exact Ev.rounds hb
end Go.Proofs.Ytodfhokndnmdoaa.Pure
