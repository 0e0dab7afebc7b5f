/- LmOk: the model's function and the given one compute the same. -/
import Derived.Test.YtdlhmhgpafegpaaEFnExactWeightsa
import Derived.Test.YtdlhmhgpafegpaaPFnExactWeightsx0
import Derived.Test.YtdlhmhgpafegpaaPFnExactWeightsx2
import Derived.Test.YtdlhmhgpafegpaaPFnExactWeightsx3
import Derived.Test.YtdlhmhgpafegpaaPFnExactWeightsx5
import Derived.Test.YtdlhmhgpafegpaaPFnExactWeightsx7
import Derived.Test.YtdlhmhgpafegpaaEFnExactWeightss
namespace Go.Proofs.Ytdlhmhgpafegpaa.Pure
open Go.RowKit Go.Proofs.Ytdlhmhgpafegpaa.PFnExactWeights Go.Proofs.YtdlhmhgpafegpaaW.PrintWords Go.Proofs.YtdlhmhgpafegpaaW.PrintLast Go.Proofs.YtdlhmhgpafegpaaW.PrintMore Go.Proofs.Ytdlhmhgpafegpaa.SortRows
set_option linter.unusedSimpArgs false
set_option linter.unusedVariables false
def rowB (size : Int) (r : S57) : Bool := decide (r.f0.length ≤ 4) && (allIn 0 (size - 1) r.f0 && (decide ((r.f1.length : Int) = size) && wtsB r.f1))
/-- The model's way: each row against the elder ones; is one of them without a key? -/
def spV (size : Int) : List S57 → List S57 → Bool → Bool
  | _, [], f => f
  | e, r :: t, f => rowB size r && ((e.all fun x => !decide (x.f0 = r.f0)) && spV size (e ++ [r]) t (f || decide (r.f0.length = 0)))
/-- The given way: in order, each row against the one ahead. -/
def adjB : Option S57 → S57 → Bool
  | none, _ => true
  | some q, r => !decide (keyCmp q.f0 r.f0 = 0)
def imV (size : Int) : Option S57 → List S57 → Bool
  | _, [] => true
  | p, r :: t => rowB size r && (adjB p r && imV size (some r) t)
theorem imV_cons (size : Int) (p : Option S57) (r : S57) (t : List S57) : imV size p (r :: t) = (rowB size r && (adjB p r && imV size (some r) t)) := by
  cases p <;> rfl
theorem imV_nil (size : Int) (p : Option S57) : imV size p [] = true := by cases p <;> rfl
def headV : List S57 → Bool
  | [] => false
  | r :: _ => decide (r.f0.length = 0)
def SmallR (l : List S57) : Prop := ∀ x ∈ l, x.f0.length ≤ 1048576 ∧ x.f1.length ≤ 1048576
section
variable (l : List S57) (size : Int) (hs1 : 1 ≤ size) (hs2 : size ≤ 64) (hl : l.length ≤ 1048576) (hx : SmallR l)
include hl hx
theorem spec_inner (f : Bool) (i : Nat) (hi : i < l.length) (key u : List Int) (R : Bool) (h : Ev (fun k => spec_LmOk.l0 k (f || decide (key.length = 0)) ((i + 1 : Nat) : Int) size l) R) :
    ∀ j, j ≤ i → Ev (fun k => spec_LmOk.l1 k f (i : Int) (j : Int) size l key u) ((((l.take i).drop j).all fun x => !decide (x.f0 = key)) && R) := by
  refine down (P := fun j => Ev (fun k => spec_LmOk.l1 k f (i : Int) (j : Int) size l key u) ((((l.take i).drop j).all fun x => !decide (x.f0 = key)) && R)) ?_ ?_
  · rw [List.drop_eq_nil_of_le (by simp; omega)]
    refine Ev.step (fun k => ?_) h
    simp only [spec_LmOk.l1]
    rw [if_neg (by omega), wn i (by omega)]
    cases f with
    | true => rw [if_pos rfl]; rfl
    | false => rw [if_neg (by decide), Bool.false_or, show ((key.length : Int) == 0) = decide (key.length = 0) by rw [Bool.eq_iff_iff]; simp]
  · intro j hj ih
    have hj2 : j < l.length := by omega
    have e : rd_T57 l (j : Int) = l[j] := getc z57 l j hj2
    rw [show (l.take i).drop j = l[j] :: (l.take i).drop (j + 1) by rw [List.drop_eq_getElem_cons (by simp; omega)]; simp, List.all_cons]
    refine Ev.step (f := fun k => (spec_l3SameInts.f k (l[j].f0) key).bind fun z => if z = true then some false else spec_LmOk.l1 k f (i : Int) ((j + 1 : Nat) : Int) size l key u) (fun k => ?_) ?_
    · simp only [spec_LmOk.l1, e]
      rw [if_pos (by omega), if_pos (by omega), if_pos (by omega), wn j (by omega)]
    · refine Ev.bind (same_ev _ key (hx _ (List.getElem_mem hj2)).1) ?_
      cases c : decide (l[j].f0 = key) with
      | true => exact Ev.congr (fun k => by rw [if_pos rfl] <;> rfl) (Ev.now _)
      | false => exact Ev.congr (fun k => by rw [if_neg (by decide)] <;> rfl) ih
include hs1 hs2
theorem spec_loop : ∀ i, i ≤ l.length → ∀ f, Ev (fun k => spec_LmOk.l0 k f (i : Int) size l) (spV size (l.take i) (l.drop i) f) := by
  refine down (P := fun i => ∀ f, Ev (fun k => spec_LmOk.l0 k f (i : Int) size l) (spV size (l.take i) (l.drop i) f)) ?_ ?_
  · intro f
    rw [List.drop_length]
    exact Ev.stop fun k => by simp only [spec_LmOk.l0]; rw [if_neg (by omega)]; rfl
  · intro i hi ih f
    have e : rd_T57 l (i : Int) = l[i] := getc z57 l i hi
    obtain ⟨hk, hw⟩ := hx _ (List.getElem_mem hi)
    rw [List.drop_eq_getElem_cons hi, spV, rowB]
    have ih2 := ih (f || decide (l[i].f0.length = 0))
    rw [List.take_succ_eq_append_getElem hi] at ih2
    have inner := spec_inner l size hl hx f i hi l[i].f0 l[i].f1 _ ih2 0 (Nat.zero_le _)
    rw [List.drop_zero] at inner
    generalize hr : l[i] = r at e hk hw inner ⊢
    generalize (((l.take i).all fun x => !decide (x.f0 = r.f0)) && spV size (l.take i ++ [r]) (l.drop (i + 1)) (f || decide (r.f0.length = 0))) = R at inner ⊢
    by_cases c1 : r.f0.length ≤ 4
    · rw [decide_eq_true c1, Bool.true_and]
      refine Ev.step (f := fun k => (spec_l21Tokens.f k r.f0 size).bind fun u => (if u = true then (if ((r.f1).length : Int) = size then ((spec_l21Weights.f k r.f1).bind fun x => (if x = true then (spec_LmOk.l1 k f (i : Int) 0 size l r.f0 r.f1) else (some false))) else (some false)) else (some false))) (fun k => ?_) ?_
      · simp only [spec_LmOk.l0, e]; rw [if_pos (by omega), if_pos (by omega), if_neg (by omega)]
      · refine Ev.bind (tokens_ev r.f0 size hs1 hs2 hk) ?_
        cases c2 : allIn 0 (size - 1) r.f0 with
        | false => exact Ev.congr (fun k => by rw [if_neg (by decide)] <;> rfl) (Ev.now _)
        | true =>
          refine Ev.congr (fun k => by rw [if_pos rfl]) ?_
          by_cases c3 : (r.f1.length : Int) = size
          · refine Ev.congr (fun k => by rw [if_pos c3]) ?_
            rw [decide_eq_true c3]
            refine Ev.bind (weights_ev r.f1 (by omega)) ?_
            cases c4 : wtsB r.f1 with
            | false => exact Ev.congr (fun k => by rw [if_neg (by decide)] <;> rfl) (Ev.now _)
            | true => exact Ev.congr (fun k => by rw [if_pos rfl] <;> rfl) inner
          · rw [decide_eq_false c3]
            exact Ev.congr (fun k => by rw [if_neg c3] <;> rfl) (Ev.now _)
    · rw [decide_eq_false c1]
      exact Ev.stop fun k => by simp only [spec_LmOk.l0, e]; rw [if_pos (by omega), if_pos (by omega), if_pos (by omega)]; rfl
end
theorem prev_some (s : List S57) (i : Nat) (h : i < s.length) : s[i + 1 - 1]? = some s[i] := by
  rw [Nat.add_sub_cancel, List.getElem?_eq_getElem h]
def prevO (s : List S57) (i : Nat) : Option S57 := if i = 0 then none else s[i - 1]?
theorem impl_loop (s : List S57) (size : Int) (u : List S57) (hs1 : 1 ≤ size) (hs2 : size ≤ 64) (hl : s.length ≤ 1048576) (hx : SmallR s) :
    ∀ i, i ≤ s.length → Ev (fun k => impl_LmOk.l0 k s s (s.length : Int) (i : Int) size u) (imV size (prevO s i) (s.drop i) && headV s) := by
  refine down (P := fun i => Ev (fun k => impl_LmOk.l0 k s s (s.length : Int) (i : Int) size u) (imV size (prevO s i) (s.drop i) && headV s)) ?_ ?_
  · rw [List.drop_length, imV_nil, Bool.true_and]
    refine Ev.stop fun k => ?_
    simp only [impl_LmOk.l0]
    rw [if_neg (by omega)]
    cases s with
    | nil => rfl
    | cons r t =>
      rw [if_pos (by simp only [List.length_cons]; omega), if_pos (by simp only [List.length_cons]; omega), headV, show rd_T57 (r :: t) 0 = r from rfl, show ((r.f0.length : Int) == 0) = decide (r.f0.length = 0) by rw [Bool.eq_iff_iff]; simp]
  · intro i hi ih
    have e : rd_T57 s (i : Int) = s[i] := getc z57 s i hi
    obtain ⟨hk, hw⟩ := hx _ (List.getElem_mem hi)
    rw [List.drop_eq_getElem_cons hi, imV_cons, rowB]
    have ep : prevO s (i + 1) = some s[i] := by unfold prevO; rw [if_neg (by omega)]; exact prev_some s i hi
    rw [ep] at ih
    -- the test against the row ahead
    have tail : Ev (fun k => if (i : Int) > 0 then (if 0 ≤ (wrap64 ((i : Int) - 1)) then (if (wrap64 ((i : Int) - 1)) < (s.length : Int) then ((impl_byKey.f k ((rd_T57 s (wrap64 ((i : Int) - 1))).f0) (s[i].f0)).bind fun D => (if D = 0 then (some false) else (impl_LmOk.l0 k s s (s.length : Int) ((i + 1 : Nat) : Int) size u))) else (none)) else (none)) else (impl_LmOk.l0 k s s (s.length : Int) ((i + 1 : Nat) : Int) size u)) ((adjB (prevO s i) s[i] && imV size (some s[i]) (s.drop (i + 1))) && headV s) := by
      cases i with
      | zero => exact Ev.congr (fun k => by rw [if_neg (by omega)]) (by simpa [prevO, adjB] using ih)
      | succ j =>
        have hj : j < s.length := by omega
        have ew : wrap64 (((j + 1 : Nat) : Int) - 1) = (j : Int) := by rw [w64 (by omega) (by omega)]; omega
        have ej : rd_T57 s (j : Int) = s[j] := getc z57 s j hj
        have epj : prevO s (j + 1) = some s[j] := by unfold prevO; rw [if_neg (by omega)]; exact prev_some s j hj
        rw [epj]
        refine Ev.congr (f := fun k => (impl_byKey.f k s[j].f0 s[j + 1].f0).bind fun D => (if D = 0 then (some false) else (impl_LmOk.l0 k s s (s.length : Int) ((j + 1 + 1 : Nat) : Int) size u))) (fun k => by rw [if_pos (by omega), ew, if_pos (by omega), if_pos (by omega), ej]) ?_
        refine Ev.bind (byKey_ev _ _ (hx _ (List.getElem_mem hj)).1) ?_
        by_cases c : keyCmp s[j].f0 s[j + 1].f0 = 0
        · exact Ev.congr (fun k => by rw [if_pos c]) (by simp only [adjB, c, decide_true, Bool.not_true, Bool.false_and]; exact Ev.now _)
        · exact Ev.congr (fun k => by rw [if_neg c]) (by simpa only [adjB, decide_eq_false c, Bool.not_false, Bool.true_and] using ih)
    generalize hr : s[i] = r at e hk hw tail ⊢
    generalize (adjB (prevO s i) r && imV size (some r) (s.drop (i + 1))) = R at tail ⊢
    by_cases c1 : r.f0.length ≤ 4
    · rw [decide_eq_true c1, Bool.true_and]
      refine Ev.step (f := fun k => (impl_allWithin.f k r.f0 0 (wrap64 (size - 1))).bind fun z => (if z = true then (if ((r.f1).length : Int) = size then ((impl_allWithin.f k r.f1 0 1000).bind fun A => (if A = true then ((impl_all.f k r.f1 0).bind fun B => (if B = true then (some false) else (if (i : Int) > 0 then (if 0 ≤ (wrap64 ((i : Int) - 1)) then (if (wrap64 ((i : Int) - 1)) < (s.length : Int) then ((impl_byKey.f k ((rd_T57 s (wrap64 ((i : Int) - 1))).f0) (r.f0)).bind fun D => (if D = 0 then (some false) else (impl_LmOk.l0 k s s (s.length : Int) ((i + 1 : Nat) : Int) size u))) else (none)) else (none)) else (impl_LmOk.l0 k s s (s.length : Int) ((i + 1 : Nat) : Int) size u)))) else (some false))) else (some false)) else (some false))) (fun k => ?_) ?_
      · simp only [impl_LmOk.l0, e]
        rw [if_pos (by omega), if_pos (by omega), if_pos (by omega), if_neg (by omega), wn i (by omega)]
      · rw [w64 (x := size - 1) (by omega) (by omega)]
        refine Ev.bind (allWithin_ev r.f0 0 (size - 1) hk) ?_
        cases c2 : allIn 0 (size - 1) r.f0 with
        | false => exact Ev.congr (fun k => by rw [if_neg (by decide)] <;> rfl) (Ev.now _)
        | true =>
          refine Ev.congr (fun k => by rw [if_pos rfl]) ?_
          by_cases c3 : (r.f1.length : Int) = size
          · refine Ev.congr (fun k => by rw [if_pos c3]) ?_
            rw [decide_eq_true c3]
            refine Ev.bind (allWithin_ev r.f1 0 1000 (by omega)) ?_
            unfold wtsB
            cases c4 : allIn 0 1000 r.f1 with
            | false => exact Ev.congr (fun k => by rw [if_neg (by decide)] <;> rfl) (Ev.now _)
            | true =>
              refine Ev.congr (fun k => by rw [if_pos rfl]) ?_
              refine Ev.bind (all_ev r.f1 0 (by omega)) ?_
              cases c5 : r.f1.all fun y => decide (0 = y) with
              | true => exact Ev.congr (fun k => by rw [if_pos rfl] <;> rfl) (Ev.now _)
              | false => exact Ev.congr (fun k => by rw [if_neg (by decide)] <;> rfl) tail
          · rw [decide_eq_false c3]
            exact Ev.congr (fun k => by rw [if_neg c3] <;> rfl) (Ev.now _)
    · rw [decide_eq_false c1]
      exact Ev.stop fun k => by simp only [impl_LmOk.l0, e]; rw [if_pos (by omega), if_pos (by omega), if_pos (by omega), if_pos (by omega)]; rfl
end Go.Proofs.Ytdlhmhgpafegpaa.Pure
