/- What is given: the model's list and the given function's row of Booleans say the same. -/
import Derived.Test.YtmcboiffbcnalaaPFnExactLivesx11
import Derived.Test.YtmcboiffbcnalaaEFnExactLivesd
namespace Go.Proofs.Ytmcboiffbcnalaa.Pure
open Go.RowKit Go.Proofs.Ytmcboiffbcnalaa.PFnExactLives Go.Proofs.YtmcboiffbcnalaaW.PrintWords Go.Proofs.YtmcboiffbcnalaaW.PrintLast Go.Proofs.YtmcboiffbcnalaaW.PrintMore
open impl_Nest_given (insL fixL numsB given_f)
set_option linter.unusedSimpArgs false
set_option linter.unusedVariables false
theorem drop125 (l : List S71) (i : Nat) (h : i < l.length) : l.drop i = rd_T71 l (i : Int) :: l.drop (i + 1) := by
  rw [show rd_T71 l (i : Int) = l[i] from getc z71 l i h]; exact List.drop_eq_getElem_cons h
theorem drop132 (l : List S79) (i : Nat) (h : i < l.length) : l.drop i = rd_T79 l (i : Int) :: l.drop (i + 1) := by
  rw [show rd_T79 l (i : Int) = l[i] from getc z79 l i h]; exact List.drop_eq_getElem_cons h
def hasF (gv : List Int) (b : Int) : Bool := gv.any fun y => decide (y = b)
def Rel (n : Nat) (gv : List Int) (o : List Bool) : Prop := o.length = n ∧ ∀ b : Int, 0 ≤ b → b < n → rdOf false o b = hasF gv b
theorem hasF_append (gv : List Int) (x b : Int) : hasF (gv ++ [x]) b = (hasF gv b || decide (x = b)) := by simp [hasF]
theorem rdOf_set (o : List Bool) (x b : Int) (hx : 0 ≤ x) (hx2 : x < o.length) (hb : 0 ≤ b) : rdOf false (o.set x.toNat true) b = (rdOf false o b || decide (x = b)) := by
  unfold rdOf
  by_cases c : x = b
  · subst c
    rw [decide_eq_true rfl, Bool.or_true]
    simp [List.getD, List.getElem?_set, show x.toNat < o.length by omega]
  · rw [decide_eq_false c, Bool.or_false]
    simp [List.getD, List.getElem?_set, show x.toNat ≠ b.toNat by omega]
theorem Rel.put {n : Nat} {gv : List Int} {o : List Bool} (h : Rel n gv o) {x : Int} (h0 : 0 ≤ x) (h1 : x < n) : Rel n (gv ++ [x]) (o.set x.toNat true) := by
  refine ⟨by rw [List.length_set]; exact h.1, fun b hb hb2 => ?_⟩
  rw [rdOf_set o x b h0 (by rw [h.1]; exact h1) hb, hasF_append, h.2 b hb hb2]
theorem Rel.nil (n : Nat) : Rel n [] (List.replicate n false) := by
  refine ⟨by simp, fun b hb hb2 => ?_⟩
  unfold rdOf hasF
  simp [List.getD, List.getElem?_replicate, show b.toNat < n by omega]
theorem Rel.take {n : Nat} {gv : List Int} {o : List Bool} (h : Rel n gv o) {x : Int} (h0 : 0 ≤ x) (h1 : x < n) : impl_Nest_given.takeB o x = !(hasF gv x) := by
  unfold impl_Nest_given.takeB
  rw [decide_eq_true h0, decide_eq_true (by rw [h.1]; exact h1), h.2 x h0 h1]; rfl
theorem take_out {o : List Bool} {x : Int} (h : ¬ (0 ≤ x ∧ x < o.length)) : impl_Nest_given.takeB o x = false := by
  unfold impl_Nest_given.takeB
  by_cases c : 0 ≤ x
  · rw [decide_eq_true c, decide_eq_false (fun h2 => h ⟨c, h2⟩)]; rfl
  · rw [decide_eq_false c]; rfl
def insS : List Int → List Int → Option (List Int)
  | [], gv => some gv
  | x :: r, gv => if hasF gv x = true then none else insS r (gv ++ [x])
def fixS (ss : List Int) : List S71 → List Int → Option (List Int)
  | [], gv => some gv
  | f :: r, gv => if (decide (0 ≤ f.f0) && (decide (f.f0 < ss.length) && (!(hasF gv f.f0) && (decide ((f.f1.length : Int) = rd ss f.f0) && numsOk f.f1)))) = true then fixS ss r (gv ++ [f.f0]) else none
theorem ins_rel {n : Nat} : ∀ (ins gv : List Int) (o : List Bool), Rel n gv o → (∀ x ∈ ins, 0 ≤ x ∧ x < n) → (insS ins gv = none ∧ insL ins o = none) ∨ ∃ gv' o', insS ins gv = some gv' ∧ insL ins o = some o' ∧ Rel n gv' o'
  | [], gv, o, h, _ => .inr ⟨gv, o, rfl, rfl, h⟩
  | x :: r, gv, o, h, hx => by
    obtain ⟨h0, h1⟩ := hx x (by simp)
    rw [insS, insL, h.take h0 h1]
    cases c : hasF gv x with
    | true => left; simp
    | false =>
      rw [if_neg (by decide), if_pos (by decide)]
      exact ins_rel r _ _ (h.put h0 h1) (fun y hy => hx y (by simp [hy]))
theorem fix_rel {n : Nat} (ss : List Int) (hn : ss.length = n) : ∀ (fx : List S71) (gv : List Int) (o : List Bool), Rel n gv o → (fixS ss fx gv = none ∧ fixL ss fx o = none) ∨ ∃ gv' o', fixS ss fx gv = some gv' ∧ fixL ss fx o = some o' ∧ Rel n gv' o'
  | [], gv, o, h => .inr ⟨gv, o, rfl, rfl, h⟩
  | f :: r, gv, o, h => by
    rw [fixS, fixL]
    by_cases c : 0 ≤ f.f0 ∧ f.f0 < (ss.length : Int)
    · obtain ⟨h0, h1⟩ := c
      have h1' : f.f0 < (n : Int) := by omega
      rw [h.take h0 h1', decide_eq_true h0, decide_eq_true h1]
      have e : numsB f.f1 = numsOk f.f1 := rfl
      rw [e]
      cases hasF gv f.f0 with
      | true => left; simp
      | false =>
        by_cases c2 : (f.f1.length : Int) = rd ss f.f0
        · rw [decide_eq_true c2, if_pos (show (!false) = true from rfl), if_pos c2]
          cases numsOk f.f1 with
          | true => rw [if_pos (by rfl), if_pos rfl]; exact fix_rel ss hn r _ _ (h.put h0 h1')
          | false => left; simp
        · rw [decide_eq_false c2, if_pos (show (!false) = true from rfl), if_neg c2]; left; simp
    · rw [take_out (o := o) (x := f.f0) (by rw [h.1]; omega)]
      left
      refine ⟨?_, by simp⟩
      rw [if_neg]
      intro hh
      simp only [Bool.and_eq_true, decide_eq_true_eq] at hh
      exact c ⟨hh.1, hh.2.1⟩
theorem insL_range : ∀ (ins : List Int) (o : List Bool), insL ins o ≠ none → ∀ x ∈ ins, 0 ≤ x ∧ x < (o.length : Int)
  | [], _, _ => by simp
  | b :: r, o, h => by
    intro x hx
    rw [insL] at h
    by_cases c : impl_Nest_given.takeB o b = true
    · rw [if_pos c] at h
      rcases List.mem_cons.1 hx with rfl | hx
      · refine Classical.byContradiction fun hh => ?_
        rw [take_out hh] at c; cases c
      · have := insL_range r _ h x hx
        rwa [List.length_set] at this
    · rw [if_neg c] at h; exact absurd rfl h
def kersB (ss : List Int) (has : Int → Bool) : List S79 → Int → Bool
  | [], acc => decide (acc ≤ 1000000)
  | x :: r, acc => if (kerB ss x.f0 x.f1 x.f2.f0 x.f2.f1 x.f2.f2 x.f4 && !(has x.f2.f0)) = true then kersB ss has r (acc + prodF 1 x.f0) else false
theorem kerB_range {ss loops : List Int} {loads : List S76} {sb so : Int} {sc : List Int} {code : List S122} (h : kerB ss loops loads sb so sc code = true) : 0 ≤ sb ∧ sb < ss.length := by
  unfold kerB accB at h
  simp only [Bool.and_eq_true, decide_eq_true_eq] at h
  obtain ⟨_, _, _, _, ⟨h1, h2, _⟩, _⟩ := h
  exact ⟨h1, h2⟩
theorem kersB_rel {n : Nat} (ss : List Int) (hn : ss.length = n) {gv : List Int} {o : List Bool} (h : Rel n gv o) : ∀ (ks : List S79) (acc : Int), kersB ss (hasF gv) ks acc = kersB ss (rdOf false o) ks acc
  | [], _ => rfl
  | x :: r, acc => by
    rw [kersB, kersB]
    cases c : kerB ss x.f0 x.f1 x.f2.f0 x.f2.f1 x.f2.f2 x.f4 with
    | false => rfl
    | true =>
      have hr := kerB_range c
      rw [h.2 _ hr.1 (by omega), kersB_rel ss hn h r]
def sizeOk (l : List Int) : Bool := l.all fun x => decide (0 ≤ x) && decide (x ≤ 4096)
def inAll (n : Int) (l : List Int) : Bool := l.all fun x => decide (0 ≤ x) && decide (x < n)
def lensOk (ss ins : List Int) (ks : List S79) (outs : List Int) : Bool := decide (ss.length ≤ 200) && (decide (ins.length ≤ 40) && (decide (outs.length ≤ 40) && decide (ks.length ≤ 400)))
def tailS (ss ins : List Int) (fx : List S71) (ks : List S79) : Bool :=
  match insS ins [] with
  | none => false
  | some gv => match fixS ss fx gv with
    | none => false
    | some gv => kersB ss (hasF gv) ks 0
def tailI (ss ins : List Int) (fx : List S71) (ks : List S79) : Bool :=
  if (given_f ss ins fx).2 = true then kersB ss (rdOf false (given_f ss ins fx).1) ks 0 else false
theorem tail_eq (ss ins : List Int) (fx : List S71) (ks : List S79) : (inAll ss.length ins && tailS ss ins fx ks) = tailI ss ins fx ks := by
  unfold tailI tailS given_f
  by_cases c : ∀ x ∈ ins, 0 ≤ x ∧ x < (ss.length : Int)
  · rw [show inAll ss.length ins = true by
      unfold inAll; rw [List.all_eq_true]; intro x hx; rw [decide_eq_true (c x hx).1, decide_eq_true (c x hx).2]; rfl, Bool.true_and]
    rcases ins_rel ins [] _ (Rel.nil ss.length) c with ⟨h1, h2⟩ | ⟨gv, o, h1, h2, hr⟩
    · rw [h1, h2]; rfl
    · rw [h1, h2]
      simp only
      rcases fix_rel ss rfl fx gv o hr with ⟨h3, h4⟩ | ⟨gv', o', h3, h4, hr'⟩
      · rw [h3, h4]; rfl
      · rw [h3, h4]
        simp only [if_true]
        exact kersB_rel ss rfl hr' ks 0
  · rw [show inAll ss.length ins = false by
      refine Bool.eq_false_iff.mpr fun h => c ?_
      unfold inAll at h
      rw [List.all_eq_true] at h
      intro x hx
      have := h x hx
      simp only [Bool.and_eq_true, decide_eq_true_eq] at this
      exact this, Bool.false_and]
    cases h : insL ins (List.replicate ss.length false) with
    | none => rfl
    | some o =>
      refine absurd ?_ c
      have := insL_range ins (List.replicate ss.length false) (by rw [h]; simp)
      simpa using this

end Go.Proofs.Ytmcboiffbcnalaa.Pure
