/- NestOk as a whole: the model's and the given one. -/
import Derived.Test.YtmcboiffbcnalaaPFnExactLivesx16
import Derived.Test.YtmcboiffbcnalaaEFnExactLivese
namespace Go.Proofs.Ytmcboiffbcnalaa.Pure
open Go.RowKit Go.Proofs.Ytmcboiffbcnalaa.PFnExactLives Go.Proofs.YtmcboiffbcnalaaW.PrintWords Go.Proofs.YtmcboiffbcnalaaW.PrintLast Go.Proofs.YtmcboiffbcnalaaW.PrintMore
open impl_Nest_given (insL fixL numsB given_f)
set_option linter.unusedSimpArgs false
set_option linter.unusedVariables false
def SmallK (x : S79) : Prop := x.f0.length ≤ 1048576 ∧ x.f1.length ≤ 1048576 ∧ x.f4.length ≤ 1048576
theorem rd132_mem {ks : List S79} {Q : S79 → Prop} (h : ∀ x ∈ ks, Q x) (i : Nat) (hi : i < ks.length) : Q (rd_T79 ks (i : Int)) := by
  rw [show rd_T79 ks (i : Int) = ks[i] from getc z79 ks i hi]; exact h _ (List.getElem_mem hi)
theorem sizes_le {ss : List Int} (h : sizeOk ss = true) : ∀ s ∈ ss, s ≤ 4096 := by
  unfold sizeOk at h
  rw [List.all_eq_true] at h
  intro s hs
  have := h s hs
  simp only [Bool.and_eq_true, decide_eq_true_eq] at this
  exact this.2
section
variable (ss ins : List Int) (fx : List S71) (ks : List S79) (outs : List Int)
theorem impl_l2 (hs : ∀ s ∈ ss, s ≤ 4096) (hk : ks.length ≤ 1048576) (hK : ∀ x ∈ ks, SmallK x) (g : List Bool) (hg : g.length = ss.length) :
    ∀ i, i ≤ ks.length → ∀ acc : Int, 0 ≤ acc → acc ≤ 65536 * (i : Int) → Ev (fun k => impl_NestOk.l2 k g acc ks (ks.length : Int) (i : Int) ss ins fx ks outs) (kersB ss (rdOf false g) (ks.drop i) acc) := by
  refine down (P := fun i => ∀ acc : Int, 0 ≤ acc → acc ≤ 65536 * (i : Int) → Ev (fun k => impl_NestOk.l2 k g acc ks (ks.length : Int) (i : Int) ss ins fx ks outs) (kersB ss (rdOf false g) (ks.drop i) acc)) ?_ ?_
  · intro acc _ _
    rw [List.drop_length, kersB]
    exact Ev.stop fun k => by simp only [impl_NestOk.l2]; rw [if_neg (by omega)]
  · intro i hi ih acc h0 h1
    rw [drop132 ks i hi, kersB]
    have hx := rd132_mem hK i hi
    generalize hxx : rd_T79 ks (i : Int) = x at hx
    obtain ⟨s1, s2, s3⟩ := hx
    have hp := prodF_range x.f0 1 (by omega) (by omega)
    refine Ev.step (f := fun k => (impl_Nest_kernelOk.f k ss ins fx ks outs x.f0 x.f1 x.f2.f0 x.f2.f1 x.f2.f2 x.f3 x.f4 g).bind fun bt => (if bt.2 = true then (impl_NestOk.l2 k g (wrap64 (acc + bt.1)) ks (ks.length : Int) (wrap64 ((i : Int) + 1)) ss ins fx ks outs) else (some false))) (fun k => ?_) ?_
    · simp only [impl_NestOk.l2, hxx]; rw [if_pos (by omega), if_pos (by omega), if_pos (by omega)]
    · refine Ev.bind (implK_ev ss ins fx ks outs x.f0 x.f1 x.f2.f0 x.f2.f1 x.f2.f2 x.f3 x.f4 g hs s1 s2 s3 hg) ?_
      cases kerB ss x.f0 x.f1 x.f2.f0 x.f2.f1 x.f2.f2 x.f4 with
      | false => exact Ev.now _
      | true =>
        cases rdOf false g x.f2.f0 with
        | true => exact Ev.now _
        | false =>
          refine Ev.congr (fun k => ?_) (ih (acc + prodF 1 x.f0) (by omega) (by omega))
          show (if (true : Bool) = true then _ else _) = _
          rw [if_pos rfl]
          show impl_NestOk.l2 k g (wrap64 (acc + prodF 1 x.f0)) ks (ks.length : Int) (wrap64 ((i : Int) + 1)) ss ins fx ks outs = _
          rw [w64 (by omega) (by omega), wn i (by omega)]
theorem insL_length : ∀ (l : List Int) (o o2 : List Bool), insL l o = some o2 → o2.length = o.length
  | [], o, o2, h => by rw [insL] at h; cases h; rfl
  | b :: r, o, o2, h => by
    rw [insL] at h
    split at h
    · have := insL_length r _ _ h; rwa [List.length_set] at this
    · cases h
theorem fixL_length (ss : List Int) : ∀ (l : List S71) (o o2 : List Bool), fixL ss l o = some o2 → o2.length = o.length
  | [], o, o2, h => by rw [fixL] at h; cases h; rfl
  | f :: r, o, o2, h => by
    rw [fixL] at h
    split at h
    · split at h
      · split at h
        · have := fixL_length ss r _ _ h; rwa [List.length_set] at this
        · cases h
      · cases h
    · cases h
theorem given_length (h : (given_f ss ins fx).2 = true) : (given_f ss ins fx).1.length = ss.length := by
  unfold given_f at h ⊢
  cases h1 : insL ins (List.replicate ss.length false) with
  | none => rw [h1] at h; cases h
  | some o =>
    rw [h1] at h
    simp only at h ⊢
    cases h2 : fixL ss fx o with
    | none => rw [h2] at h; cases h
    | some o2 =>
      simp only
      rw [fixL_length ss fx o o2 h2, insL_length ins _ o h1]; simp
theorem impl_tail (hs : ∀ s ∈ ss, s ≤ 4096) (hl : ss.length ≤ 1048576) (hk : ks.length ≤ 1048576) (hK : ∀ x ∈ ks, SmallK x) :
    Ev (fun k => (impl_Nest_given.f ss ins fx ks outs).bind fun bt321 => (if bt321.2 = true then (impl_NestOk.l2 k bt321.1 0 ks (ks.length : Int) 0 ss ins fx ks outs) else (some false))) (tailI ss ins fx ks) := by
  unfold impl_Nest_given.f tailI
  rw [if_pos (by omega)]
  refine Ev.bind (Ev.now (given_f ss ins fx)) ?_
  cases h : (given_f ss ins fx).2 with
  | false => exact Ev.now _
  | true =>
    simp only [if_true]
    exact impl_l2 ss ins fx ks outs hs hk hK _ (given_length ss ins fx h) 0 (Nat.zero_le _) 0 (by omega) (by omega)
theorem impl_l1 (hs : ∀ s ∈ ss, s ≤ 4096) (hl : ss.length ≤ 1048576) (ho : outs.length ≤ 1048576) (hk : ks.length ≤ 1048576) (hK : ∀ x ∈ ks, SmallK x) :
    ∀ i, i ≤ outs.length → Ev (fun k => impl_NestOk.l1 k outs (outs.length : Int) (i : Int) ss ins fx ks outs) (inAll ss.length (outs.drop i) && tailI ss ins fx ks) := by
  refine down (P := fun i => Ev (fun k => impl_NestOk.l1 k outs (outs.length : Int) (i : Int) ss ins fx ks outs) (inAll ss.length (outs.drop i) && tailI ss ins fx ks)) ?_ ?_
  · rw [List.drop_length, show inAll ss.length [] = true from rfl, Bool.true_and]
    refine Ev.step (fun k => ?_) (impl_tail ss ins fx ks outs hs hl hk hK)
    simp only [impl_NestOk.l1]; rw [if_neg (by omega)]
  · intro i hi ih
    unfold inAll at ih ⊢
    rw [dropi outs i hi, List.all_cons]
    by_cases c1 : rd outs (i : Int) < 0
    · rw [decide_eq_false (by omega : ¬ 0 ≤ rd outs (i : Int))]
      exact Ev.stop fun k => by simp only [impl_NestOk.l1]; rw [if_pos (by omega), if_pos (by omega), if_pos (by omega), if_pos c1]; rfl
    · rw [decide_eq_true (by omega : 0 ≤ rd outs (i : Int))]
      by_cases c2 : rd outs (i : Int) ≥ (ss.length : Int)
      · rw [decide_eq_false (by omega : ¬ rd outs (i : Int) < (ss.length : Int))]
        exact Ev.stop fun k => by simp only [impl_NestOk.l1]; rw [if_pos (by omega), if_pos (by omega), if_pos (by omega), if_neg c1, if_pos c2]; rfl
      · rw [decide_eq_true (by omega : rd outs (i : Int) < (ss.length : Int))]
        refine Ev.step (fun k => ?_) ih
        simp only [impl_NestOk.l1]
        rw [if_pos (by omega), if_pos (by omega), if_pos (by omega), if_neg c1, if_neg c2, wn i (by omega)]
theorem impl_l0 (hl : ss.length ≤ 1048576) (X : Bool) : ∀ i, i ≤ ss.length → (sizeOk (ss.drop i) = true → Ev (fun k => impl_NestOk.l1 k outs (outs.length : Int) 0 ss ins fx ks outs) X) → Ev (fun k => impl_NestOk.l0 k ss (ss.length : Int) (i : Int) ss ins fx ks outs) (sizeOk (ss.drop i) && X) := by
  refine down (P := fun i => (sizeOk (ss.drop i) = true → Ev (fun k => impl_NestOk.l1 k outs (outs.length : Int) 0 ss ins fx ks outs) X) → Ev (fun k => impl_NestOk.l0 k ss (ss.length : Int) (i : Int) ss ins fx ks outs) (sizeOk (ss.drop i) && X)) ?_ ?_
  · intro hX
    rw [List.drop_length] at hX ⊢
    refine Ev.step (fun k => ?_) (hX rfl)
    simp only [impl_NestOk.l0]; rw [if_neg (by omega)]
  · intro i hi ih hX
    unfold sizeOk at ih hX ⊢
    rw [dropi ss i hi, List.all_cons] at hX ⊢
    by_cases c1 : rd ss (i : Int) < 0
    · rw [decide_eq_false (by omega : ¬ 0 ≤ rd ss (i : Int))]
      exact Ev.stop fun k => by simp only [impl_NestOk.l0]; rw [if_pos (by omega), if_pos (by omega), if_pos (by omega), if_pos c1]; rfl
    · rw [decide_eq_true (by omega : 0 ≤ rd ss (i : Int))] at hX ⊢
      by_cases c2 : rd ss (i : Int) > 4096
      · rw [decide_eq_false (by omega : ¬ rd ss (i : Int) ≤ 4096)]
        exact Ev.stop fun k => by simp only [impl_NestOk.l0]; rw [if_pos (by omega), if_pos (by omega), if_pos (by omega), if_neg c1, if_pos c2]; rfl
      · rw [decide_eq_true (by omega : rd ss (i : Int) ≤ 4096)] at hX ⊢
        refine Ev.step (fun k => ?_) (ih hX)
        simp only [impl_NestOk.l0]
        rw [if_pos (by omega), if_pos (by omega), if_pos (by omega), if_neg c1, if_neg c2, wn i (by omega)]
def nestB : Bool := lensOk ss ins ks outs && (sizeOk ss && (inAll ss.length outs && tailI ss ins fx ks))
theorem implNest_ev (hl : ss.length ≤ 1048576) (ho : outs.length ≤ 1048576) (hk : ks.length ≤ 1048576) (hK : ∀ x ∈ ks, SmallK x) : Ev (fun k => impl_NestOk.f k ss ins fx ks outs) (nestB ss ins fx ks outs) := by
  have no : Ev (fun k => impl_NestOk.j0 k true ss ins fx ks outs) false := Ev.stop fun k => by simp only [impl_NestOk.j0, if_true]
  unfold nestB lensOk
  by_cases c1 : ss.length ≤ 200
  · rw [decide_eq_true c1]
    by_cases c2 : ins.length ≤ 40
    · rw [decide_eq_true c2]
      by_cases c3 : outs.length ≤ 40
      · rw [decide_eq_true c3]
        refine Ev.congr (f := fun k => impl_NestOk.j0 k (decide ((ks.length : Int) > 400)) ss ins fx ks outs) (fun k => ?_) ?_
        · unfold impl_NestOk.f; rw [if_neg (by omega), if_neg (by omega), if_neg (by omega)]
        · by_cases c4 : ks.length ≤ 400
          · rw [decide_eq_true c4, decide_eq_false (by omega)]
            refine Ev.step (fun k => ?_) (impl_l0 ss ins fx ks outs hl _ 0 (Nat.zero_le _) (fun hS => impl_l1 ss ins fx ks outs (sizes_le hS) hl ho hk hK 0 (Nat.zero_le _)))
            simp only [impl_NestOk.j0]; rw [if_neg (by decide)]; rfl
          · rw [decide_eq_false c4, decide_eq_true (by omega)]; exact no
      · rw [decide_eq_false c3]
        refine Ev.congr (fun k => ?_) no
        unfold impl_NestOk.f; rw [if_neg (by omega), if_neg (by omega), if_pos (by omega)]
    · rw [decide_eq_false c2]
      refine Ev.congr (fun k => ?_) no
      unfold impl_NestOk.f; rw [if_neg (by omega), if_pos (by omega)]
  · rw [decide_eq_false c1]
    refine Ev.congr (fun k => ?_) no
    unfold impl_NestOk.f; rw [if_pos (by omega)]
end

end Go.Proofs.Ytmcboiffbcnalaa.Pure
