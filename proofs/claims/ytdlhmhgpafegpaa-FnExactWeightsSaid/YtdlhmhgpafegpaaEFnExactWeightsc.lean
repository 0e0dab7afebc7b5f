/- The rows in order: each row alike no row ahead just when no two rows are alike; one without a key stands first. -/
import Derived.Test.YtdlhmhgpafegpaaEFnExactWeightsb
import Derived.Test.YtdlhmhgpafegpaaPFnExactWeightsx0
import Derived.Test.YtdlhmhgpafegpaaEFnExactWeightss
namespace Go.Proofs.Ytdlhmhgpafegpaa.Pure
open Go.RowKit Go.Proofs.Ytdlhmhgpafegpaa.PFnExactWeights Go.Proofs.YtdlhmhgpafegpaaW.PrintWords Go.Proofs.YtdlhmhgpafegpaaW.PrintLast Go.Proofs.YtdlhmhgpafegpaaW.PrintMore Go.Proofs.Ytdlhmhgpafegpaa.SortRows
set_option linter.unusedSimpArgs false
set_option linter.unusedVariables false
theorem lexCmp_zero : ∀ a b, a.length = b.length → (lexCmp a b = 0 ↔ a = b)
  | [], [], _ => by simp [lexCmp]
  | [], _ :: _, h => by simp at h
  | _ :: _, [], h => by simp at h
  | a :: x, b :: y, h => by
    rw [lexCmp]
    have ih := lexCmp_zero x y (by simpa using h)
    by_cases c1 : a < b
    · rw [if_pos c1]
      constructor
      · intro h; omega
      · intro h; injection h with h1 _; omega
    · rw [if_neg c1]
      by_cases c2 : b < a
      · rw [if_pos c2]
        constructor
        · intro h; omega
        · intro h; injection h with h1 _; omega
      · rw [if_neg c2, ih]
        constructor
        · intro h; rw [h, show a = b by omega]
        · intro h; injection h
theorem keyCmp_zero (a b : List Int) : keyCmp a b = 0 ↔ a = b := by
  unfold keyCmp
  by_cases c1 : a.length < b.length
  · rw [if_pos c1]
    constructor
    · intro h; omega
    · intro h; rw [h] at c1; omega
  · rw [if_neg c1]
    by_cases c2 : b.length < a.length
    · rw [if_pos c2]
      constructor
      · intro h; omega
      · intro h; rw [h] at c2; omega
    · rw [if_neg c2]
      exact lexCmp_zero a b (by omega)
theorem lexCmp_tri : ∀ a b, lexCmp a b < 0 ∨ lexCmp a b = 0 ∨ lexCmp b a < 0
  | [], [] => by simp [lexCmp]
  | [], _ :: _ => by simp [lexCmp]
  | _ :: _, [] => by simp [lexCmp]
  | a :: x, b :: y => by
    have ih := lexCmp_tri x y
    rw [lexCmp, lexCmp]
    by_cases c1 : a < b
    · rw [if_pos c1]; omega
    · rw [if_neg c1]
      by_cases c2 : b < a
      · rw [if_pos c2, if_pos c2]; omega
      · rw [if_neg c2, if_neg c2, if_neg c1]; exact ih
theorem keyCmp_tri (a b : List Int) : keyCmp a b < 0 ∨ keyCmp a b = 0 ∨ keyCmp b a < 0 := by
  unfold keyCmp
  by_cases c1 : a.length < b.length
  · rw [if_pos c1]; omega
  · by_cases c2 : b.length < a.length
    · rw [if_neg c1, if_pos c2, if_pos c2]; omega
    · rw [if_neg c1, if_neg c2, if_neg c2, if_neg c1]; exact lexCmp_tri a b
theorem spV_iff (size : Int) : ∀ (t e : List S57) (f : Bool), spV size e t f = true ↔ ((∀ r ∈ t, rowB size r = true) ∧ (∀ r ∈ t, ∀ x ∈ e, x.f0 ≠ r.f0) ∧ (t.map S57.f0).Nodup) ∧ (f = true ∨ ∃ r ∈ t, r.f0.length = 0)
  | [], e, f => by simp [spV]
  | r :: t, e, f => by
    rw [spV, Bool.and_eq_true, Bool.and_eq_true, spV_iff size t]
    simp only [List.not_mem_nil, or_false, List.all_eq_true, Bool.not_eq_true', decide_eq_false_iff_not, List.mem_append, List.mem_singleton, Bool.or_eq_true, decide_eq_true_eq, List.mem_cons, forall_eq_or_imp, exists_eq_or_imp, List.map_cons, List.nodup_cons, List.mem_map, not_exists, not_and]
    constructor
    · rintro ⟨h1, h2, ⟨h3, h4, h5⟩, h6⟩
      refine ⟨⟨⟨h1, h3⟩, ⟨h2, fun y hy x hx => h4 y hy x (.inl hx)⟩, fun y hy he => h4 y hy r (.inr rfl) he.symm, h5⟩, ?_⟩
      rcases h6 with (h6 | h6) | h6
      · exact .inl h6
      · exact .inr (.inl h6)
      · exact .inr (.inr h6)
    · rintro ⟨⟨⟨h1, h3⟩, ⟨h2, h4⟩, h5, h7⟩, h6⟩
      refine ⟨h1, h2, ⟨h3, fun y hy x hx => ?_, h7⟩, ?_⟩
      · rcases hx with hx | rfl
        · exact h4 y hy x hx
        · exact fun he => h5 y hy he.symm
      · rcases h6 with h6 | h6 | h6
        · exact .inl (.inl h6)
        · exact .inl (.inr h6)
        · exact .inr h6
/-- No two neighbours alike. -/
def Apart : List S57 → Prop
  | [] => True
  | [_] => True
  | q :: r :: t => q.f0 ≠ r.f0 ∧ Apart (r :: t)
theorem imV_iff (size : Int) : ∀ (t : List S57) (p : Option S57), imV size p t = true ↔ (∀ r ∈ t, rowB size r = true) ∧ (match p with | none => Apart t | some q => Apart (q :: t))
  | [], p => by rw [imV_nil]; cases p <;> simp [Apart]
  | r :: t, p => by
    rw [imV_cons, Bool.and_eq_true, Bool.and_eq_true, imV_iff size t (some r)]
    simp only [List.mem_cons, forall_eq_or_imp]
    cases p with
    | none =>
      simp only [adjB, true_and]
      exact ⟨fun ⟨a, b, c⟩ => ⟨⟨a, b⟩, c⟩, fun ⟨⟨a, b⟩, c⟩ => ⟨a, b, c⟩⟩
    | some q =>
      simp only [adjB, Bool.not_eq_true', decide_eq_false_iff_not, keyCmp_zero, Apart]
      exact ⟨fun ⟨a, d, b, c⟩ => ⟨⟨a, b⟩, d, c⟩, fun ⟨⟨a, b⟩, d, c⟩ => ⟨a, d, b, c⟩⟩
/-- In the order of the keys. -/
def Ord (s : List S57) : Prop := s.Pairwise fun a b => ¬ keyCmp b.f0 a.f0 < 0
theorem ord_head {q : S57} {t : List S57} (h : Ord (q :: t)) : ∀ r ∈ t, ¬ keyCmp r.f0 q.f0 < 0 := (List.pairwise_cons.1 h).1
theorem apart_nodup : ∀ (s : List S57), Ord s → (Apart s ↔ (s.map S57.f0).Nodup)
  | [], _ => by simp [Apart]
  | [q], _ => by simp [Apart]
  | q :: r :: t, h => by
    have ih := apart_nodup (r :: t) (List.pairwise_cons.1 h).2
    rw [Apart, ih, List.map_cons (f := S57.f0) (a := q), List.nodup_cons]
    constructor
    · rintro ⟨h1, h2⟩
      refine ⟨fun hm => ?_, h2⟩
      obtain ⟨x, hx, he⟩ := List.mem_map.1 hm
      rcases List.mem_cons.1 hx with rfl | hx
      · exact h1 he.symm
      · -- q is not above r, r is not above x, x is q
        have a1 := ord_head h r (by simp)
        have a2 := ord_head (List.pairwise_cons.1 h).2 x hx
        rw [he] at a2
        rcases keyCmp_tri q.f0 r.f0 with c | c | c
        · exact a2 c
        · exact h1 ((keyCmp_zero _ _).1 c)
        · exact a1 c
    · rintro ⟨h1, h2⟩
      exact ⟨fun he => h1 (by rw [he]; simp), h2⟩
theorem headV_iff : ∀ (s : List S57), Ord s → (headV s = true ↔ ∃ r ∈ s, r.f0.length = 0)
  | [], _ => by simp [headV]
  | q :: t, h => by
    rw [headV, decide_eq_true_eq]
    constructor
    · intro h0; exact ⟨q, by simp, h0⟩
    · rintro ⟨r, hr, h0⟩
      rcases List.mem_cons.1 hr with rfl | hr
      · exact h0
      · have a := ord_head h r hr
        unfold keyCmp at a
        by_cases c : r.f0.length < q.f0.length
        · rw [if_pos c] at a; omega
        · omega
theorem sort_perm (l : List S57) : (sortL l).Perm l := by
  have h := (sortI_perm l).2.2
  have hs := sortI_size l
  have e1 : (sortI l).extract 0 l.length = sortI l := by rw [← hs]; simp
  have e2 : (Array.range l.length).extract 0 l.length = Array.range l.length := by
    have : (Array.range l.length).size = l.length := by simp
    conv => lhs; rw [← this]
    simp
  rw [e1, e2] at h
  have h2 := h.map (fun i => l.getD (Go.Proofs.Ytdlhmhgpafegpaa.SortRows.cl l.length i) z57)
  refine h2.trans (List.Perm.of_eq ?_)
  apply List.ext_getElem
  · simp
  · intro i h3 h4
    simp only [List.getElem_map, Array.getElem_toList, Array.getElem_range]
    rw [cl_id h4, List.getD_eq_getElem?_getD, List.getElem?_eq_getElem h4]
    rfl
theorem sort_ord (l : List S57) : Ord (sortL l) := by
  unfold Ord
  rw [List.pairwise_iff_getElem]
  intro i j hi hj hij
  have hs := sortI_size l
  rw [sortL_length] at hi hj
  have h := sortI_sorted l i j (Nat.zero_le _) hij hj
  unfold Go.Proofs.ltOf idxCmp keyAt at h
  rw [decide_eq_false_iff_not] at h
  have e : ∀ k (hk : k < l.length), (sortL l)[k]'(by rw [sortL_length]; exact hk) = l.getD (Go.Proofs.Ytdlhmhgpafegpaa.SortRows.cl l.length (sortI l)[k]!) z57 := by
    intro k hk
    unfold sortL
    rw [List.getElem_map, Array.getElem_toList, getElem!_pos (sortI l) k (by omega)]
  rw [e i hi, e j hj]
  exact h
/-- Both ways tell the same. -/
theorem lm_same (size : Int) (l : List S57) : spV size [] l false = (imV size none (sortL l) && headV (sortL l)) := by
  rw [Bool.eq_iff_iff, spV_iff, Bool.and_eq_true, imV_iff, headV_iff _ (sort_ord l), apart_nodup _ (sort_ord l)]
  have hp := sort_perm l
  have hn := (hp.map S57.f0).nodup_iff
  simp only [List.not_mem_nil, false_implies, implies_true, true_and, Bool.false_eq_true, false_or]
  constructor
  · rintro ⟨⟨h1, h2⟩, r, hr, h0⟩
    exact ⟨⟨fun r hr => h1 r (hp.mem_iff.1 hr), hn.2 h2⟩, r, hp.mem_iff.2 hr, h0⟩
  · rintro ⟨⟨h1, h2⟩, r, hr, h0⟩
    exact ⟨⟨fun r hr => h1 r (hp.mem_iff.2 hr), hn.1 h2⟩, r, hp.mem_iff.1 hr, h0⟩
end Go.Proofs.Ytdlhmhgpafegpaa.Pure
