/- Which row's weights: the longest key that ends the history, looked for one by one, and by halves in the rows in order. -/
import Derived.Test.YtdlhmhgpafegpaaEFnExactWeightsd
import Derived.Test.YtdlhmhgpafegpaaPFnExactWeightsx8
namespace Go.Proofs.Ytdlhmhgpafegpaa.Pure
open Go.RowKit Go.Proofs.Ytdlhmhgpafegpaa.PFnExactWeights Go.Proofs.YtdlhmhgpafegpaaW.PrintWords Go.Proofs.YtdlhmhgpafegpaaW.PrintLast Go.Proofs.YtdlhmhgpafegpaaW.PrintMore Go.Proofs.Ytdlhmhgpafegpaa.SortRows
set_option linter.unusedSimpArgs false
set_option linter.unusedVariables false
theorem sorted_val (l : List S57) (hl : l.length ≤ 1048576) (size : Int) : impl_sortedRows.f size l = some (sortL l) := by
  unfold impl_sortedRows.f impl_Row_51.f
  simp only [Option.bind_some, List.length_nil, Nat.zero_add, List.nil_append]
  rw [if_pos (by omega)]
  simp only [Option.bind_some]
  rw [if_pos (by omega)]
theorem lm_more (size : Int) (l : List S57) (hl : l.length ≤ 1048576) (hx : SmallR l) : ∃ v, Ev (fun k => spec_LmOk.f k size l) v ∧ Ev (fun k => impl_LmOk.f k size l) v ∧ (v = true → l.length ≤ 500 ∧ spV size [] l false = true) := by
  unfold spec_LmOk.f impl_LmOk.f
  simp only [l5In_val, within_val, Option.bind_some]
  cases c1 : inR 1 64 size with
  | false => exact ⟨false, Ev.congr (fun k => by rw [if_neg (by decide)]) (Ev.now _), Ev.congr (fun k => by rw [if_neg (by decide)]) (Ev.now _), by simp⟩
  | true =>
    by_cases c2 : l.length > 500
    · exact ⟨false, Ev.congr (fun k => by rw [if_pos rfl, if_pos (by omega)]) (Ev.now _), Ev.congr (fun k => by rw [if_pos rfl, if_pos (by omega)]) (Ev.now _), by simp⟩
    · have hsz : 1 ≤ size ∧ size ≤ 64 := by unfold inR at c1; simpa using c1
      have S := spec_loop l size hsz.1 hsz.2 hl hx 0 (Nat.zero_le _) false
      rw [List.take_zero, List.drop_zero, lm_same] at S
      have hx2 : SmallR (sortL l) := fun x h => hx x ((sort_perm l).mem_iff.1 h)
      have I := impl_loop (sortL l) size l hsz.1 hsz.2 (by rw [sortL_length]; exact hl) hx2 0 (Nat.zero_le _)
      rw [List.drop_zero] at I
      refine ⟨_, Ev.congr (fun k => by rw [if_pos rfl, if_neg (by omega)]; rfl) S, Ev.congr (fun k => ?_) I, fun h => ⟨by omega, by rw [lm_same]; exact h⟩⟩
      rw [if_pos rfl, if_neg (by omega)]
      rw [sorted_val l hl, Option.bind_some]
      rfl
/-- The key ends the history. -/
def endsB (h key : List Int) : Bool := decide (key.length ≤ h.length) && decide (h.drop (h.length - key.length) = key)
theorem ends_ev (h key : List Int) (hh : h.length ≤ 1048576) (hk : key.length ≤ 1048576) : Ev (fun k => spec_l21Ends.f k h key) (endsB h key) := by
  have e : wrap64 ((h.length : Int) - (key.length : Int)) = (h.length : Int) - key.length := w64 (by omega) (by omega)
  unfold spec_l21Ends.f endsB
  rw [e]
  by_cases c : key.length ≤ h.length
  · rw [decide_eq_true c, Bool.true_and]
    refine Ev.congr (fun k => by rw [if_pos (by omega), if_pos (by omega), if_pos (by omega), show ((h.length : Int) - (key.length : Int)).toNat = h.length - key.length by omega]) (Ev.bind (same_ev _ key ?_) (Ev.now _))
    rw [List.length_drop]; omega
  · rw [decide_eq_false c, Bool.false_and]
    exact Ev.congr (fun k => by rw [if_neg (by omega)]) (Ev.now _)
theorem ends_eq {h a b : List Int} (ha : endsB h a = true) (hb : endsB h b = true) (e : a.length = b.length) : a = b := by
  unfold endsB at ha hb
  simp only [Bool.and_eq_true, decide_eq_true_eq] at ha hb
  rw [← ha.2, ← hb.2, e]
theorem ends_drop (h : List Int) (n : Nat) (hn : n ≤ h.length) : endsB h (h.drop (h.length - n)) = true := by
  unfold endsB
  simp only [List.length_drop, Bool.and_eq_true, decide_eq_true_eq]
  exact ⟨by omega, by rw [show h.length - (h.length - (h.length - n)) = h.length - n by omega]⟩
theorem ends_nil (h key : List Int) (e : key.length = 0) : endsB h key = true := by
  obtain rfl := List.eq_nil_of_length_eq_zero e
  unfold endsB; simp
/-- The row with the longest key that ends the history. -/
def Best (h : List Int) (l : List S57) (r : S57) : Prop := r ∈ l ∧ endsB h r.f0 = true ∧ ∀ x ∈ l, endsB h x.f0 = true → x.f0.length ≤ r.f0.length
theorem inj_nodup : ∀ {l : List S57}, (l.map S57.f0).Nodup → ∀ {a b : S57}, a ∈ l → b ∈ l → a.f0 = b.f0 → a = b
  | [], _, _, _, h, _, _ => by cases h
  | x :: t, hn, a, b, ha, hb, e => by
    rw [List.map_cons, List.nodup_cons] at hn
    rcases List.mem_cons.1 ha with rfl | ha' <;> rcases List.mem_cons.1 hb with rfl | hb'
    · rfl
    · exact absurd (List.mem_map.2 ⟨b, hb', e.symm⟩) hn.1
    · exact absurd (List.mem_map.2 ⟨a, ha', e⟩) hn.1
    · exact inj_nodup hn.2 ha' hb' e
theorem best_unique {h : List Int} {l : List S57} (hn : (l.map S57.f0).Nodup) {a b : S57} (ha : Best h l a) (hb : Best h l b) : a = b := by
  have h1 := ha.2.2 b hb.1 hb.2.1
  have h2 := hb.2.2 a ha.1 ha.2.1
  exact inj_nodup hn ha.1 hb.1 (ends_eq ha.2.1 hb.2.1 (by omega))
theorem rd57 (l : List S57) (i : Nat) (h : i < l.length) : rd_T57 l (i : Int) = l[i] := getc z57 l i h
/-- How far the search has come: at the row i, with the best one of those ahead. -/
def St (h : List Int) (l : List S57) (i : Nat) (y : Int) : Prop :=
  (y = -1 ∧ ∀ j, (hj : j < l.length) → j < i → endsB h l[j].f0 = false) ∨
  ∃ b : Nat, ∃ hb : b < l.length, y = b ∧ endsB h l[b].f0 = true ∧ ∀ j, (hj : j < l.length) → j < i → endsB h l[j].f0 = true → l[j].f0.length ≤ l[b].f0.length
theorem of_ev (h : List Int) (l : List S57) (size : Int) (R : List Int) (hh : h.length ≤ 1048576) (hl : l.length ≤ 1048576) (hx : SmallR l)
    (E : ∃ x ∈ l, endsB h x.f0 = true) (H : ∀ r, Best h l r → r.f1 = R) : Ev (fun k => spec_l21Of.f k size l h) R := by
  unfold spec_l21Of.f
  have L : ∀ i, i ≤ l.length → ∀ y, St h l i y → Ev (fun k => spec_l21Of.l0 k h y (i : Int) size l) R := by
    refine down (P := fun i => ∀ y, St h l i y → Ev (fun k => spec_l21Of.l0 k h y (i : Int) size l) R) ?_ ?_
    · rintro y (⟨_, s⟩ | ⟨b, hb, rfl, s1, s2⟩)
      · obtain ⟨x, hxl, hx1⟩ := E
        obtain ⟨j, hj, rfl⟩ := List.getElem_of_mem hxl
        rw [s j hj hj] at hx1; cases hx1
      · refine Ev.stop fun k => ?_
        simp only [spec_l21Of.l0]
        rw [if_neg (by omega), if_pos (by omega), if_pos (by omega), rd57 l b hb, H l[b] ⟨List.getElem_mem hb, s1, fun x hx' hx1 => ?_⟩]
        obtain ⟨j, hj, rfl⟩ := List.getElem_of_mem hx'
        exact s2 j hj hj hx1
    · intro i hi ih y hs
      have hE := ends_ev h l[i].f0 hh (hx _ (List.getElem_mem hi)).1
      refine Ev.step (f := fun k => (spec_l21Ends.f k h l[i].f0).bind fun A => if A = true then (if y < 0 then spec_l21Of.l0 k h (i : Int) ((i + 1 : Nat) : Int) size l else (if 0 ≤ y then (if y < (l.length : Int) then (if (l[i].f0.length : Int) > ((rd_T57 l y).f0.length : Int) then spec_l21Of.l0 k h (i : Int) ((i + 1 : Nat) : Int) size l else spec_l21Of.l0 k h y ((i + 1 : Nat) : Int) size l) else none) else none)) else spec_l21Of.l0 k h y ((i + 1 : Nat) : Int) size l) (fun k => ?_) ?_
      · simp only [spec_l21Of.l0]
        rw [if_pos (by omega), if_pos (by omega), rd57 l i hi, wn i (by omega)]
      refine Ev.bind hE ?_
      cases c : endsB h l[i].f0 with
      | false =>
        refine Ev.congr (fun k => by rw [if_neg (by decide)]) (ih y ?_)
        rcases hs with ⟨e, s⟩ | ⟨b, hb, e, s1, s2⟩
        · exact .inl ⟨e, fun j hj hji => by
            rcases Nat.lt_or_eq_of_le (Nat.le_of_lt_succ hji) with q | rfl
            · exact s j hj q
            · exact c⟩
        · exact .inr ⟨b, hb, e, s1, fun j hj hji hjt => by
            rcases Nat.lt_or_eq_of_le (Nat.le_of_lt_succ hji) with q | rfl
            · exact s2 j hj q hjt
            · rw [c] at hjt; cases hjt⟩
      | true =>
        rcases hs with ⟨rfl, s⟩ | ⟨b, hb, rfl, s1, s2⟩
        · refine Ev.congr (fun k => by rw [if_pos rfl, if_pos (by omega)]) (ih _ (.inr ⟨i, hi, rfl, c, fun j hj hji hjt => ?_⟩))
          rcases Nat.lt_or_eq_of_le (Nat.le_of_lt_succ hji) with q | rfl
          · rw [s j hj q] at hjt; cases hjt
          · exact Nat.le_refl _
        · by_cases d : (l[i].f0.length : Int) > (l[b].f0.length : Int)
          · refine Ev.congr (fun k => by rw [if_pos rfl, if_neg (by omega), if_pos (by omega), if_pos (by omega), rd57 l b hb, if_pos d]) (ih _ (.inr ⟨i, hi, rfl, c, fun j hj hji hjt => ?_⟩))
            rcases Nat.lt_or_eq_of_le (Nat.le_of_lt_succ hji) with q | rfl
            · have := s2 j hj q hjt; omega
            · exact Nat.le_refl _
          · refine Ev.congr (fun k => by rw [if_pos rfl, if_neg (by omega), if_pos (by omega), if_pos (by omega), rd57 l b hb, if_neg d]) (ih _ (.inr ⟨b, hb, rfl, s1, fun j hj hji hjt => ?_⟩))
            rcases Nat.lt_or_eq_of_le (Nat.le_of_lt_succ hji) with q | rfl
            · exact s2 j hj q hjt
            · omega
  exact L 0 (Nat.zero_le _) (-1) (.inl ⟨rfl, fun j _ hj => absurd hj (Nat.not_lt_zero j)⟩)
theorem keyCmp_self (a : List Int) : keyCmp a a = 0 := (keyCmp_zero a a).2 rfl
theorem ord_get {s : List S57} (h : Ord s) {i j : Nat} (hi : i < j) (hj : j < s.length) : ¬ keyCmp s[j].f0 s[i].f0 < 0 := List.pairwise_iff_getElem.1 h i j (by omega) hj hi
theorem nodup_get {s : List S57} (hn : (s.map S57.f0).Nodup) {i j : Nat} (hi : i < s.length) (hj : j < s.length) (e : s[i].f0 = s[j].f0) : i = j := by
  have h1 : i < (s.map S57.f0).length := by rw [List.length_map]; exact hi
  have h2 : j < (s.map S57.f0).length := by rw [List.length_map]; exact hj
  have e' : (s.map S57.f0)[i] = (s.map S57.f0)[j] := by rw [List.getElem_map, List.getElem_map]; exact e
  rcases Nat.lt_trichotomy i j with q | q | q
  · exact absurd e' (List.pairwise_iff_getElem.1 hn i j h1 h2 q)
  · exact q
  · exact absurd e'.symm (List.pairwise_iff_getElem.1 hn j i h2 h1 q)
/-- Where a key stands, it stands between lo and hi. -/
def Btw (s : List S57) (key : List Int) (lo hi : Nat) : Prop := ∀ p, (hp : p < s.length) → s[p].f0 = key → lo ≤ p ∧ p ≤ hi
def Fnd (s : List S57) (key : List Int) (z : Int × Bool) : Prop := (z.2 = true → ∃ p : Nat, ∃ hp : p < s.length, z.1 = p ∧ s[p].f0 = key) ∧ (z.2 = false → ∀ x ∈ s, x.f0 ≠ key)
theorem found_loop (s : List S57) (key : List Int) (hl : s.length ≤ 1048576) (hx : SmallR s) (ho : Ord s) (hn : (s.map S57.f0).Nodup) :
    ∀ n lo hi : Nat, hi - lo ≤ n → lo ≤ s.length → hi ≤ s.length → lo ≤ hi → Btw s key lo hi → ∃ z, Ev (fun k => impl_Row_int.l0 k s key (lo : Int) (hi : Int)) z ∧ Fnd s key z := by
  intro n
  induction n with
  | zero =>
    intro lo hi h1 h2 h3 h4 hb
    obtain rfl : lo = hi := by omega
    by_cases c : lo < s.length
    · have hE := byKey_ev s[lo].f0 key (hx _ (List.getElem_mem c)).1
      refine ⟨((lo : Int), keyCmp s[lo].f0 key == 0), Ev.step (f := fun k => (impl_weigh_1.f k s[lo].f0 s[lo].f1 key).bind fun A => some ((lo : Int), A == 0)) (fun k => ?_) (Ev.bind (g := fun k => impl_weigh_1.f k s[lo].f0 s[lo].f1 key) (a := keyCmp s[lo].f0 key) (by unfold impl_weigh_1.f; exact Ev.bind hE (Ev.now _)) (Ev.now _)), ?_, ?_⟩
      · simp only [impl_Row_int.l0]
        rw [if_neg (by omega), if_pos (by omega), if_pos (by omega), rd57 s lo c]
      · intro h
        exact ⟨lo, c, rfl, (keyCmp_zero _ _).1 (by simpa using h)⟩
      · intro h x hx' e
        obtain ⟨p, hp, rfl⟩ := List.getElem_of_mem hx'
        have := hb p hp e
        obtain rfl : p = lo := by omega
        rw [e, keyCmp_self] at h
        simp at h
    · refine ⟨((lo : Int), false), Ev.stop fun k => ?_, by simp, ?_⟩
      · simp only [impl_Row_int.l0]
        rw [if_neg (by omega), if_neg (by omega)]
      · intro _ x hx' e
        obtain ⟨p, hp, rfl⟩ := List.getElem_of_mem hx'
        have := hb p hp e
        omega
  | succ n ih =>
    intro lo hi h1 h2 h3 h4 hb
    by_cases c : lo = hi
    · exact ih lo hi (by omega) h2 h3 h4 hb
    · obtain ⟨m, hm⟩ : ∃ m, m = (lo + hi) / 2 := ⟨_, rfl⟩
      have m1 : lo ≤ m := by omega
      have m2 : m < hi := by omega
      have m3 : m < s.length := by omega
      have e : wrap64 (Int.tdiv (wrap64 ((lo : Int) + (hi : Int))) 2) = (m : Int) := by
        rw [w64 (x := (lo : Int) + (hi : Int)) (by omega) (by omega), Int.tdiv_eq_ediv_of_nonneg (by omega), w64 (by omega) (by omega)]
        omega
      have hE : Ev (fun k => impl_weigh_1.f k s[m].f0 s[m].f1 key) (keyCmp s[m].f0 key) := by
        unfold impl_weigh_1.f; exact Ev.bind (byKey_ev s[m].f0 key (hx _ (List.getElem_mem m3)).1) (Ev.now _)
      have hstep : ∀ k, impl_Row_int.l0 (k + 1) s key (lo : Int) (hi : Int) = (impl_weigh_1.f k s[m].f0 s[m].f1 key).bind fun z => if z < 0 then impl_Row_int.l0 k s key ((m + 1 : Nat) : Int) (hi : Int) else impl_Row_int.l0 k s key (lo : Int) (m : Int) := by
        intro k
        simp only [impl_Row_int.l0]
        rw [e, if_pos (by omega), if_pos (by omega), if_pos (by omega), rd57 s m m3, wn m (by omega)]
      by_cases d : keyCmp s[m].f0 key < 0
      · obtain ⟨z, hz, hf⟩ := ih (m + 1) hi (by omega) (by omega) h3 (by omega) (fun p hp ep => by
          have := hb p hp ep
          refine ⟨?_, this.2⟩
          rcases Nat.lt_trichotomy m p with q | q | q
          · omega
          · subst q; rw [ep, keyCmp_self] at d; omega
          · rw [← ep] at d; exact absurd d (ord_get ho q m3))
        exact ⟨z, Ev.step hstep (Ev.bind hE (Ev.congr (fun k => by rw [if_pos d]) hz)), hf⟩
      · obtain ⟨z, hz, hf⟩ := ih lo m (by omega) h2 (by omega) m1 (fun p hp ep => by
          have := hb p hp ep
          refine ⟨this.1, ?_⟩
          by_cases q : p ≤ m
          · exact q
          · exfalso
            have o := ord_get ho (i := m) (j := p) (by omega) hp
            rw [← ep] at d
            rcases keyCmp_tri s[m].f0 s[p].f0 with t | t | t
            · exact d t
            · have := nodup_get hn m3 hp ((keyCmp_zero _ _).1 t); omega
            · exact o t)
        exact ⟨z, Ev.step hstep (Ev.bind hE (Ev.congr (fun k => by rw [if_neg d]) hz)), hf⟩
theorem found_ev (s : List S57) (key : List Int) (hl : s.length ≤ 1048576) (hx : SmallR s) (ho : Ord s) (hn : (s.map S57.f0).Nodup) : ∃ z, Ev (fun k => impl_Row_int.f k s key) z ∧ Fnd s key z := by
  unfold impl_Row_int.f
  exact found_loop s key hl hx ho hn s.length 0 s.length (by omega) (Nat.zero_le _) (Nat.le_refl _) (Nat.zero_le _) (fun p hp _ => ⟨Nat.zero_le _, by omega⟩)
theorem weigh_loop (s : List S57) (h : List Int) (R : List Int) (hl : s.length ≤ 1048576) (hx : SmallR s) (ho : Ord s) (hn : (s.map S57.f0).Nodup) (h0 : ∃ hp : 0 < s.length, s[0].f0.length = 0) (hh : h.length ≤ 1048576)
    (H : ∀ r, Best h s r → r.f1 = R) : ∀ n : Nat, n ≤ h.length → (∀ x ∈ s, endsB h x.f0 = true → x.f0.length ≤ n) → Ev (fun k => impl_weigh.l0 k s h (n : Int)) R := by
  intro n
  induction n with
  | zero =>
    intro _ hb
    obtain ⟨hp, he⟩ := h0
    refine Ev.stop fun k => ?_
    simp only [impl_weigh.l0]
    rw [if_neg (by omega), if_pos (by omega), show rd_T57 s 0 = s[0] from rd57 s 0 hp, H s[0] ⟨List.getElem_mem hp, ends_nil _ _ he, fun x hx' hx1 => by have := hb x hx' hx1; omega⟩]
  | succ n ih =>
    intro hn1 hb
    obtain ⟨z, hz, hf⟩ := found_ev s (h.drop (h.length - (n + 1))) hl hx ho hn
    have e : wrap64 ((h.length : Int) - ((n + 1 : Nat) : Int)) = ((h.length - (n + 1) : Nat) : Int) := by rw [w64 (by omega) (by omega)]; omega
    have e2 : wrap64 (((n + 1 : Nat) : Int) - 1) = (n : Int) := by rw [w64 (by omega) (by omega)]; omega
    refine Ev.step (f := fun k => (impl_Row_int.f k s (h.drop (h.length - (n + 1)))).bind fun l => (if l.2 = true then (if 0 ≤ l.1 then (if l.1 < (s.length : Int) then (some ((rd_T57 s l.1).f1)) else (none)) else (none)) else (impl_weigh.l0 k s h (n : Int)))) (fun k => ?_) (Ev.bind hz ?_)
    · simp only [impl_weigh.l0]
      rw [e, if_pos (by omega), if_pos (by omega), if_pos (by omega), e2, Int.toNat_natCast]
    · cases c : z.2 with
      | true =>
        obtain ⟨p, hp, e3, e4⟩ := hf.1 c
        refine Ev.congr (fun k => ?_) (Ev.now R)
        rw [if_pos rfl, e3, if_pos (by omega), if_pos (by omega), rd57 s p hp, H s[p] ⟨List.getElem_mem hp, by rw [e4]; exact ends_drop h (n + 1) hn1, fun x hx' hx1 => by rw [e4, List.length_drop]; have := hb x hx' hx1; omega⟩]
      | false =>
        refine Ev.congr (fun k => by rw [if_neg (by decide)]) (ih (by omega) (fun x hx' hx1 => ?_))
        have h1 := hb x hx' hx1
        by_cases q : x.f0.length = n + 1
        · exfalso
          exact hf.2 c x hx' (ends_eq hx1 (ends_drop h (n + 1) hn1) (by rw [List.length_drop]; omega))
        · omega
theorem has_best (h : List Int) : ∀ l : List S57, (∃ x ∈ l, endsB h x.f0 = true) → ∃ r, Best h l r
  | [], ⟨_, h, _⟩ => by cases h
  | x :: t, hE => by
    by_cases c : ∃ y ∈ t, endsB h y.f0 = true
    · obtain ⟨r, h1, h2, h3⟩ := has_best h t c
      by_cases d : endsB h x.f0 = true ∧ r.f0.length < x.f0.length
      · refine ⟨x, List.mem_cons_self, d.1, fun y hy hy1 => ?_⟩
        rcases List.mem_cons.1 hy with rfl | hy
        · exact Nat.le_refl _
        · have := h3 y hy hy1; omega
      · refine ⟨r, List.mem_cons_of_mem _ h1, h2, fun y hy hy1 => ?_⟩
        rcases List.mem_cons.1 hy with rfl | hy
        · exact Nat.le_of_not_lt fun q => d ⟨hy1, q⟩
        · exact h3 y hy hy1
    · obtain ⟨y, hy, hy1⟩ := hE
      rcases List.mem_cons.1 hy with rfl | hy
      · refine ⟨y, List.mem_cons_self, hy1, fun z hz hz1 => ?_⟩
        rcases List.mem_cons.1 hz with rfl | hz
        · exact Nat.le_refl _
        · exact absurd ⟨z, hz, hz1⟩ c
      · exact absurd ⟨y, hy, hy1⟩ c
theorem mn_nat (n : Nat) : mn 4 (n : Int) = ((min 4 n : Nat) : Int) := by
  unfold mn; omega
theorem weights_both (size : Int) (l : List S57) (h : List Int) (hl : l.length ≤ 1048576) (hx : SmallR l) (hh : h.length ≤ 1048576) :
    ∃ v, Ev (fun k => spec_Weights.f k size l h) v ∧ Ev (fun k => impl_Weights.f k size l h) v ∧ v.length ≤ 1048576 := by
  obtain ⟨b, S, I, hb⟩ := lm_more size l hl hx
  unfold spec_Weights.f impl_Weights.f
  cases b with
  | false => exact ⟨[], Ev.bind S (Ev.congr (fun k => by rw [if_neg (by decide)]) (Ev.now _)), Ev.bind I (Ev.congr (fun k => by rw [if_neg (by decide)]) (Ev.now _)), by simp⟩
  | true =>
    by_cases c : (h.length : Int) > 2000
    · exact ⟨[], Ev.bind S (Ev.congr (fun k => by rw [if_pos rfl, if_pos c]) (Ev.now _)), Ev.bind I (Ev.congr (fun k => by rw [if_pos rfl, if_pos c]) (Ev.now _)), by simp⟩
    · obtain ⟨h5, hv⟩ := hb rfl
      have hq := (spV_iff size l [] false).1 hv
      obtain ⟨⟨g1, _, g2⟩, g3⟩ := hq
      obtain ⟨x0, hx0, e0⟩ : ∃ r ∈ l, r.f0.length = 0 := by
        rcases g3 with q | q
        · cases q
        · exact q
      have hp := sort_perm l
      have E : ∃ x ∈ l, endsB h x.f0 = true := ⟨x0, hx0, ends_nil _ _ e0⟩
      obtain ⟨r, hr⟩ := has_best h l E
      have hr2 : Best h (sortL l) r := ⟨hp.mem_iff.2 hr.1, hr.2.1, fun x hx' hx1 => hr.2.2 x (hp.mem_iff.1 hx') hx1⟩
      have hn2 : ((sortL l).map S57.f0).Nodup := ((hp.map S57.f0).nodup_iff).2 g2
      have hx2 : SmallR (sortL l) := fun x h => hx x (hp.mem_iff.1 h)
      have hl2 : (sortL l).length ≤ 1048576 := by rw [sortL_length]; exact hl
      have hh0 : ∃ hq : 0 < (sortL l).length, (sortL l)[0].f0.length = 0 := by
        have := (headV_iff (sortL l) (sort_ord l)).2 ⟨x0, hp.mem_iff.2 hx0, e0⟩
        revert this
        cases sortL l with
        | nil => intro h; simp [headV] at h
        | cons a t => intro h; exact ⟨by simp, by simpa [headV] using h⟩
      have hf1 : r.f1.length ≤ 1048576 := (hx r hr.1).2
      refine ⟨r.f1, Ev.bind S (Ev.congr (fun k => by rw [if_pos rfl, if_neg c]) (Ev.bind (of_ev h l size r.f1 hh hl hx E (fun r' h' => by rw [best_unique g2 h' hr])) (Ev.congr (fun k => ?_) (Ev.now _)))),
        Ev.bind I (Ev.congr (fun k => by rw [if_pos rfl, if_neg c, sorted_val l hl, Option.bind_some]; unfold impl_weigh.f; rw [mn_nat]) (Ev.bind (weigh_loop (sortL l) h r.f1 hl2 hx2 (sort_ord l) hn2 hh0 hh (fun r' h' => by rw [best_unique hn2 h' hr2]) (min 4 h.length) (by omega) (fun x hx' hx1 => ?_)) (Ev.congr (fun k => ?_) (Ev.now _)))), hf1⟩
      · unfold spec_l3Ints.f
        simp only [Option.bind_some, List.length_nil, Nat.zero_add, List.nil_append]
        rw [if_pos (by omega), Option.bind_some]
      · have a1 := g1 x (hp.mem_iff.1 hx')
        have a2 : x.f0.length ≤ 4 := by
          unfold rowB at a1
          simp only [Bool.and_eq_true, decide_eq_true_eq] at a1
          exact a1.1
        have a3 : x.f0.length ≤ h.length := by
          unfold endsB at hx1
          simp only [Bool.and_eq_true, decide_eq_true_eq] at hx1
          exact hx1.1
        omega
      · unfold slices_Clone_int_int.f
        simp only [Option.bind_some, List.length_nil, Nat.zero_add, List.nil_append]
        rw [if_pos (by omega), Option.bind_some]
end Go.Proofs.Ytdlhmhgpafegpaa.Pure
