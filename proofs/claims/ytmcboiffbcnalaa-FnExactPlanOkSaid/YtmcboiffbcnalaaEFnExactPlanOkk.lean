/- Whether lives are packed well: the model's PackOk and the given one say the same. -/
import Derived.Test.YtmcboiffbcnalaaPFnExactPlanOkx11
import Derived.Test.YtmcboiffbcnalaaPFnExactPlanOkx24
import Derived.Test.YtmcboiffbcnalaaEFnExactPlanOka
namespace Go.Proofs.Ytmcboiffbcnalaa.Pure
open Go.RowKit Go.Proofs.Ytmcboiffbcnalaa.PFnExactPlanOk Go.Proofs.YtmcboiffbcnalaaW.PrintWords Go.Proofs.YtmcboiffbcnalaaW.PrintLast Go.Proofs.YtmcboiffbcnalaaW.PrintMore
set_option linter.unusedVariables false
def Says (f : Nat → Option Bool) (Q : Prop) : Prop := ∃ b, Ev f b ∧ (b = true ↔ Q)
theorem Says.step {g f : Nat → Option Bool} {Q : Prop} (h : ∀ k, g (k + 1) = f k) (s : Says f Q) : Says g Q := by
  obtain ⟨b, e, i⟩ := s; exact ⟨b, Ev.step h e, i⟩
theorem Says.congr {g f : Nat → Option Bool} {Q : Prop} (h : ∀ k, g k = f k) (s : Says f Q) : Says g Q := by
  obtain ⟨b, e, i⟩ := s; exact ⟨b, Ev.congr h e, i⟩
theorem Says.no {g : Nat → Option Bool} {Q : Prop} (h : ∀ k, g (k + 1) = some false) (q : ¬ Q) : Says g Q := ⟨false, Ev.stop h, by simp [q]⟩
theorem Says.yes {g : Nat → Option Bool} {Q : Prop} (h : ∀ k, g (k + 1) = some true) (q : Q) : Says g Q := ⟨true, Ev.stop h, by simp [q]⟩
theorem Says.imp {g : Nat → Option Bool} {Q R : Prop} (s : Says g Q) (h : Q ↔ R) : Says g R := by
  obtain ⟨b, e, i⟩ := s; exact ⟨b, e, i.trans h⟩
theorem Says.bind {α : Type} {g : Nat → Option α} {f : Nat → α → Option Bool} {v : α} {Q : Prop} (h : Ev g v) (s : Says (fun k => f k v) Q) : Says (fun k => (g k).bind (f k)) Q := by
  obtain ⟨b, e, i⟩ := s; exact ⟨b, Ev.bind h e, i⟩
theorem Says.both {f g : Nat → Option Bool} {Q : Prop} (s : Says f Q) (t : Says g Q) : ∃ b, Ev f b ∧ Ev g b := by
  obtain ⟨b, e, i⟩ := s; obtain ⟨c, e', j⟩ := t
  have : b = c := by rw [Bool.eq_iff_iff]; exact i.trans j.symm
  subst this; exact ⟨b, e, e'⟩
theorem from_here {Q : Nat → Prop} {i n : Nat} (hi : i < n) (h : Q i) : (∀ m, i + 1 ≤ m → m < n → Q m) ↔ (∀ m, i ≤ m → m < n → Q m) :=
  ⟨fun a m h1 h2 => by rcases Nat.eq_or_lt_of_le h1 with e | e; exact e ▸ h; exact a m e h2, fun a m h1 h2 => a m (by omega) h2⟩
theorem drop111 (l : List S52) (i : Nat) (h : i < l.length) : l.drop i = rd_T52 l (i : Int) :: l.drop (i + 1) := by
  rw [show rd_T52 l (i : Int) = l[i] from getc z52 l i h]; exact List.drop_eq_getElem_cons h
def lifeB (x : S52) : Bool := decide (1 ≤ x.f1) && (decide (x.f1 ≤ 4096) && (decide (0 ≤ x.f2) && (decide (x.f2 ≤ x.f3) && decide (x.f3 ≤ 400))))
theorem specOk_loop (l : List S52) (hl : l.length ≤ 1048576) : ∀ i, i ≤ l.length → Ev (fun k => spec_l12Ok.l0 k l (i : Int)) ((l.drop i).all lifeB) := by
  refine down (P := fun i => Ev (fun k => spec_l12Ok.l0 k l (i : Int)) ((l.drop i).all lifeB)) ?_ ?_
  · rw [List.drop_length]
    exact Ev.stop fun k => by simp only [spec_l12Ok.l0]; rw [if_neg (by omega)]; rfl
  · intro i hi ih
    rw [drop111 l i hi, List.all_cons]
    generalize hxx : rd_T52 l (i : Int) = x
    have J : ∀ b : Bool, b = !(lifeB x) → Ev (fun k => spec_l12Ok.j1 k l (i : Int) b) (lifeB x && (l.drop (i + 1)).all lifeB) := by
      intro b hb
      cases c : lifeB x with
      | false => rw [c] at hb; subst hb; exact Ev.stop fun k => by simp only [spec_l12Ok.j1]; rfl
      | true =>
        rw [c] at hb; subst hb
        refine Ev.step (fun k => ?_) ih
        simp only [spec_l12Ok.j1]
        rw [if_neg (by decide), wn i (by omega)]
    have B : lifeB x = (decide (1 ≤ x.f1) && (decide (x.f1 ≤ 4096) && (decide (0 ≤ x.f2) && (decide (x.f2 ≤ x.f3) && decide (x.f3 ≤ 400))))) := rfl
    by_cases c1 : x.f1 < 1
    · exact Ev.step (fun k => by simp only [spec_l12Ok.l0, hxx]; rw [if_pos (by omega), if_pos (by omega), if_pos c1]) (J true (by rw [B, decide_eq_false (by omega : ¬ 1 ≤ x.f1)]; rfl))
    by_cases c2 : x.f1 > 4096
    · exact Ev.step (fun k => by simp only [spec_l12Ok.l0, hxx]; rw [if_pos (by omega), if_pos (by omega), if_neg c1, if_pos c2]) (J true (by rw [B, decide_eq_true (by omega : 1 ≤ x.f1), decide_eq_false (by omega : ¬ x.f1 ≤ 4096)]; rfl))
    by_cases c3 : x.f2 < 0
    · exact Ev.step (fun k => by simp only [spec_l12Ok.l0, hxx]; rw [if_pos (by omega), if_pos (by omega), if_neg c1, if_neg c2, if_pos c3]) (J true (by rw [B, decide_eq_true (by omega : 1 ≤ x.f1), decide_eq_true (by omega : x.f1 ≤ 4096), decide_eq_false (by omega : ¬ 0 ≤ x.f2)]; rfl))
    by_cases c4 : x.f2 > x.f3
    · exact Ev.step (fun k => by simp only [spec_l12Ok.l0, hxx]; rw [if_pos (by omega), if_pos (by omega), if_neg c1, if_neg c2, if_neg c3, if_pos c4]) (J true (by rw [B, decide_eq_true (by omega : 1 ≤ x.f1), decide_eq_true (by omega : x.f1 ≤ 4096), decide_eq_true (by omega : 0 ≤ x.f2), decide_eq_false (by omega : ¬ x.f2 ≤ x.f3)]; rfl))
    · exact Ev.step (fun k => by simp only [spec_l12Ok.l0, hxx]; rw [if_pos (by omega), if_pos (by omega), if_neg c1, if_neg c2, if_neg c3, if_neg c4]) (J _ (by
        rw [B, decide_eq_true (by omega : 1 ≤ x.f1), decide_eq_true (by omega : x.f1 ≤ 4096), decide_eq_true (by omega : 0 ≤ x.f2), decide_eq_true (by omega : x.f2 ≤ x.f3)]
        by_cases c5 : x.f3 > 400
        · rw [decide_eq_true c5, decide_eq_false (by omega : ¬ x.f3 ≤ 400)]; rfl
        · rw [decide_eq_false c5, decide_eq_true (by omega : x.f3 ≤ 400)]; rfl))
theorem implOk_loop (L l : List S52) (hl : l.length ≤ 1048576) : ∀ i, i ≤ l.length → Ev (fun k => impl_livesOk.l0 k L l (l.length : Int) (i : Int)) ((l.drop i).all lifeB && decide ((L.length : Int) ≤ 200)) := by
  refine down (P := fun i => Ev (fun k => impl_livesOk.l0 k L l (l.length : Int) (i : Int)) ((l.drop i).all lifeB && decide ((L.length : Int) ≤ 200))) ?_ ?_
  · rw [List.drop_length]
    exact Ev.stop fun k => by simp only [impl_livesOk.l0]; rw [if_neg (by omega)]; rfl
  · intro i hi ih
    rw [drop111 l i hi, List.all_cons, Bool.and_assoc]
    generalize hxx : rd_T52 l (i : Int) = x
    have J : ∀ b : Bool, b = !(lifeB x) → Ev (fun k => impl_livesOk.j1 k L l (l.length : Int) (i : Int) b) (lifeB x && ((l.drop (i + 1)).all lifeB && decide ((L.length : Int) ≤ 200))) := by
      intro b hb
      cases c : lifeB x with
      | false => rw [c] at hb; subst hb; exact Ev.stop fun k => by simp only [impl_livesOk.j1]; rfl
      | true =>
        rw [c] at hb; subst hb
        refine Ev.step (fun k => ?_) ih
        simp only [impl_livesOk.j1]
        rw [if_neg (by decide), wn i (by omega)]
    have B : lifeB x = (decide (1 ≤ x.f1) && (decide (x.f1 ≤ 4096) && (decide (0 ≤ x.f2) && (decide (x.f2 ≤ x.f3) && decide (x.f3 ≤ 400))))) := rfl
    by_cases c1 : x.f1 < 1
    · exact Ev.step (fun k => by simp only [impl_livesOk.l0, hxx]; rw [if_pos (by omega), if_pos (by omega), if_pos (by omega), if_pos c1]) (J true (by rw [B, decide_eq_false (by omega : ¬ 1 ≤ x.f1)]; rfl))
    by_cases c2 : x.f1 > 4096
    · exact Ev.step (fun k => by simp only [impl_livesOk.l0, hxx]; rw [if_pos (by omega), if_pos (by omega), if_pos (by omega), if_neg c1, if_pos c2]) (J true (by rw [B, decide_eq_true (by omega : 1 ≤ x.f1), decide_eq_false (by omega : ¬ x.f1 ≤ 4096)]; rfl))
    by_cases c3 : x.f2 < 0
    · exact Ev.step (fun k => by simp only [impl_livesOk.l0, hxx]; rw [if_pos (by omega), if_pos (by omega), if_pos (by omega), if_neg c1, if_neg c2, if_pos c3]) (J true (by rw [B, decide_eq_true (by omega : 1 ≤ x.f1), decide_eq_true (by omega : x.f1 ≤ 4096), decide_eq_false (by omega : ¬ 0 ≤ x.f2)]; rfl))
    by_cases c4 : x.f2 > x.f3
    · exact Ev.step (fun k => by simp only [impl_livesOk.l0, hxx]; rw [if_pos (by omega), if_pos (by omega), if_pos (by omega), if_neg c1, if_neg c2, if_neg c3, if_pos c4]) (J true (by rw [B, decide_eq_true (by omega : 1 ≤ x.f1), decide_eq_true (by omega : x.f1 ≤ 4096), decide_eq_true (by omega : 0 ≤ x.f2), decide_eq_false (by omega : ¬ x.f2 ≤ x.f3)]; rfl))
    · exact Ev.step (fun k => by simp only [impl_livesOk.l0, hxx]; rw [if_pos (by omega), if_pos (by omega), if_pos (by omega), if_neg c1, if_neg c2, if_neg c3, if_neg c4]) (J _ (by
        rw [B, decide_eq_true (by omega : 1 ≤ x.f1), decide_eq_true (by omega : x.f1 ≤ 4096), decide_eq_true (by omega : 0 ≤ x.f2), decide_eq_true (by omega : x.f2 ≤ x.f3)]
        by_cases c5 : x.f3 > 400
        · rw [decide_eq_true c5, decide_eq_false (by omega : ¬ x.f3 ≤ 400)]; rfl
        · rw [decide_eq_false c5, decide_eq_true (by omega : x.f3 ≤ 400)]; rfl))
def okL (l : List S52) : Bool := l.all lifeB && decide ((l.length : Int) ≤ 200)
theorem specOk_ev (l : List S52) (hl : l.length ≤ 1048576) : Ev (fun k => spec_l12Ok.f k l) (okL l) := by
  unfold spec_l12Ok.f okL
  by_cases c : (l.length : Int) > 200
  · rw [decide_eq_false (by omega : ¬ (l.length : Int) ≤ 200), Bool.and_false]
    exact Ev.congr (fun k => by rw [if_pos c]) (Ev.now false)
  · rw [decide_eq_true (by omega : (l.length : Int) ≤ 200), Bool.and_true]
    exact Ev.congr (f := fun k => spec_l12Ok.l0 k l 0) (fun k => by rw [if_neg c]) (specOk_loop l hl 0 (Nat.zero_le _))
theorem implOk_ev (l : List S52) (hl : l.length ≤ 1048576) : Ev (fun k => impl_livesOk.f k l) (okL l) := implOk_loop l l hl 0 (Nat.zero_le _)
def meetB (a b : S52) : Bool := decide (a.f2 ≤ b.f3) && decide (b.f2 ≤ a.f3)
theorem spec_meet (a b : S52) : spec_l12Meet.f a.f0 a.f1 a.f2 a.f3 b.f0 b.f1 b.f2 b.f3 = some (meetB a b) := by
  unfold spec_l12Meet.f meetB
  by_cases c : a.f2 ≤ b.f3
  · rw [if_pos c, decide_eq_true c]; rfl
  · rw [if_neg c, decide_eq_false c]; rfl
theorem impl_meet (a b : S52) : impl_Life_meets.f a.f0 a.f1 a.f2 a.f3 b.f0 b.f1 b.f2 b.f3 = some (meetB a b) := by
  unfold impl_Life_meets.f meetB
  by_cases c : a.f2 ≤ b.f3
  · rw [if_pos c, decide_eq_true c]; rfl
  · rw [if_neg c, decide_eq_false c]; rfl
section
variable (L : List S52) (O : List Int)
def inR (i : Nat) : Prop := 0 ≤ rd O (i : Int) ∧ rd O (i : Int) ≤ 1000000
def clash (i j : Nat) : Prop := meetB (rd_T52 L (i : Int)) (rd_T52 L (j : Int)) = true ∧ rd O (i : Int) < rd O (j : Int) + (rd_T52 L (j : Int)).f1 ∧ rd O (j : Int) < rd O (i : Int) + (rd_T52 L (i : Int)).f1
theorem clash_symm {i j : Nat} : clash L O i j ↔ clash L O j i := by
  unfold clash meetB
  simp only [Bool.and_eq_true, decide_eq_true_eq]
  exact ⟨fun ⟨⟨a, b⟩, c, d⟩ => ⟨⟨b, a⟩, d, c⟩, fun ⟨⟨a, b⟩, c, d⟩ => ⟨⟨b, a⟩, d, c⟩⟩
variable (hl : L.length ≤ 1048576) (ho : O.length = L.length) (hs : ∀ i : Nat, i < L.length → 1 ≤ (rd_T52 L (i : Int)).f1 ∧ (rd_T52 L (i : Int)).f1 ≤ 4096)
include hl ho hs
theorem free_loop (hr : ∀ i, i < L.length → inR O i) (i : Nat) (hi : i < L.length) : ∀ m, m ≤ L.length → Says (fun k => spec_l12Free.l0 k L O (i : Int) (rd O (i : Int)) (m : Int)) (∀ j, m ≤ j → j < L.length → j = i ∨ ¬ clash L O i j) := by
  refine down (P := fun m => Says (fun k => spec_l12Free.l0 k L O (i : Int) (rd O (i : Int)) (m : Int)) (∀ j, m ≤ j → j < L.length → j = i ∨ ¬ clash L O i j)) ?_ ?_
  · exact Says.yes (fun k => by simp only [spec_l12Free.l0]; rw [if_neg (by omega)]) (fun j h1 h2 => by omega)
  · intro m hm ih
    obtain ⟨r1, r2⟩ := hr i hi
    obtain ⟨q1, q2⟩ := hr m hm
    obtain ⟨s1, s2⟩ := hs i hi
    obtain ⟨t1, t2⟩ := hs m hm
    have GO : (m = i ∨ ¬ clash L O i m) → Says (fun k => spec_l12Free.l0 k L O (i : Int) (rd O (i : Int)) ((m + 1 : Nat) : Int)) (∀ j, m ≤ j → j < L.length → j = i ∨ ¬ clash L O i j) := fun h => ih.imp (from_here hm h)
    by_cases c : m = i
    · subst c
      refine Says.step (f := fun k => spec_l12Free.j1 k L O (m : Int) (rd O (m : Int)) (m : Int) true) (fun k => by simp only [spec_l12Free.l0]; rw [if_pos (by omega), if_pos (by trivial)]) ?_
      refine Says.step (fun k => ?_) (GO (.inl rfl))
      simp only [spec_l12Free.j1]
      rw [if_pos (by trivial), wn m (by omega)]
    · refine Says.step (f := fun k => spec_l12Free.j1 k L O (i : Int) (rd O (i : Int)) (m : Int) (!(meetB (rd_T52 L (i : Int)) (rd_T52 L (m : Int))))) (fun k => ?_) ?_
      · simp only [spec_l12Free.l0, spec_meet]
        rw [if_pos (by omega), if_neg (by omega), if_pos (by omega), if_pos (by omega), if_neg (by omega), if_pos (by omega), if_pos (by omega)]; rfl
      · cases d : meetB (rd_T52 L (i : Int)) (rd_T52 L (m : Int)) with
        | false =>
          refine Says.step (fun k => ?_) (GO (.inr fun h => by have := h.1; rw [d] at this; cases this))
          simp only [spec_l12Free.j1]
          rw [if_pos (by trivial), wn m (by omega)]
        | true =>
          by_cases e1 : rd O (i : Int) < rd O (m : Int) + (rd_T52 L (m : Int)).f1
          · by_cases e2 : rd O (m : Int) < rd O (i : Int) + (rd_T52 L (i : Int)).f1
            · refine Says.no (fun k => ?_) (fun h => ?_)
              · simp only [spec_l12Free.j1]
                rw [if_neg (by decide), if_pos (by omega), if_pos (by omega), if_pos (by omega), w64 (by omega) (by omega), if_pos e1, if_pos (by omega), if_pos (by omega), w64 (by omega) (by omega), if_pos e2]
              · rcases h m (Nat.le_refl _) hm with h | h
                · exact c h
                · exact h ⟨d, e1, e2⟩
            · refine Says.step (fun k => ?_) (GO (.inr fun h => e2 h.2.2))
              simp only [spec_l12Free.j1]
              rw [if_neg (by decide), if_pos (by omega), if_pos (by omega), if_pos (by omega), w64 (by omega) (by omega), if_pos e1, if_pos (by omega), if_pos (by omega), w64 (by omega) (by omega), if_neg e2, wn m (by omega)]
          · refine Says.step (fun k => ?_) (GO (.inr fun h => e1 h.2.1))
            simp only [spec_l12Free.j1]
            rw [if_neg (by decide), if_pos (by omega), if_pos (by omega), if_pos (by omega), w64 (by omega) (by omega), if_neg e1, wn m (by omega)]
theorem pack_l1 (hr : ∀ i, i < L.length → inR O i) : ∀ i, i ≤ L.length → Says (fun k => spec_PackOk.l1 k L O (i : Int)) (∀ m, i ≤ m → m < L.length → ∀ j, j < L.length → j = m ∨ ¬ clash L O m j) := by
  refine down (P := fun i => Says (fun k => spec_PackOk.l1 k L O (i : Int)) (∀ m, i ≤ m → m < L.length → ∀ j, j < L.length → j = m ∨ ¬ clash L O m j)) ?_ ?_
  · exact Says.yes (fun k => by simp only [spec_PackOk.l1]; rw [if_neg (by omega)]) (fun j h1 h2 => by omega)
  · intro i hi ih
    obtain ⟨b, e, q⟩ := free_loop L O hl ho hs hr i hi 0 (Nat.zero_le _)
    refine Says.step (f := fun k => (spec_l12Free.f k L O (i : Int) (rd O (i : Int))).bind fun u => (if u = true then (spec_PackOk.l1 k L O ((i + 1 : Nat) : Int)) else (some false))) (fun k => by simp only [spec_PackOk.l1]; rw [if_pos (by omega), if_pos (by omega), if_pos (by omega), wn i (by omega)]) ?_
    refine Says.bind (g := fun k => spec_l12Free.f k L O (i : Int) (rd O (i : Int))) e ?_
    cases b with
    | true => simp only [if_true]; exact ih.imp (from_here hi (fun j hj => q.1 rfl j (Nat.zero_le _) hj))
    | false =>
      refine Says.no (fun k => rfl) (fun h => ?_)
      have := q.2 (fun j _ hj => h i (Nat.le_refl _) hi j hj)
      cases this
omit hs in
theorem spec_l0p (Q : Prop) (h1 : (∀ i, i < L.length → inR O i) → Says (fun k => spec_PackOk.l1 k L O 0) Q) : ∀ i, i ≤ L.length → (∀ m, m < i → inR O m) → Says (fun k => spec_PackOk.l0 k L O (i : Int)) ((∀ m, i ≤ m → m < L.length → inR O m) ∧ Q) := by
  refine down (P := fun i => (∀ m, m < i → inR O m) → Says (fun k => spec_PackOk.l0 k L O (i : Int)) ((∀ m, i ≤ m → m < L.length → inR O m) ∧ Q)) ?_ ?_
  · intro h
    refine Says.step (fun k => ?_) ((h1 h).imp ⟨fun q => ⟨fun m a b => by omega, q⟩, fun q => q.2⟩)
    simp only [spec_PackOk.l0]; rw [if_neg (by omega)]
  · intro i hi ih h
    by_cases c1 : rd O (i : Int) < 0
    · refine Says.no (fun k => ?_) (fun q => by have := (q.1 i (Nat.le_refl _) hi).1; omega)
      simp only [spec_PackOk.l0]; rw [if_pos (by omega), if_pos (by omega), if_pos (by omega), if_pos c1]
    by_cases c2 : rd O (i : Int) > 1000000
    · refine Says.no (fun k => ?_) (fun q => by have := (q.1 i (Nat.le_refl _) hi).2; omega)
      simp only [spec_PackOk.l0]; rw [if_pos (by omega), if_pos (by omega), if_pos (by omega), if_neg c1, if_pos c2]
    · have hi' : inR O i := ⟨by omega, by omega⟩
      refine Says.step (fun k => ?_) ((ih (fun m hm => by rcases Nat.eq_or_lt_of_le (Nat.le_of_lt_succ hm) with e | e; exact e ▸ hi'; exact h m e)).imp ?_)
      · simp only [spec_PackOk.l0]; rw [if_pos (by omega), if_pos (by omega), if_pos (by omega), if_neg c1, if_neg c2, wn i (by omega)]
      · rw [from_here (Q := fun m => inR O m) hi hi']
def packP : Prop := (∀ m, m < L.length → inR O m) ∧ ∀ m, m < L.length → ∀ j, j < m → ¬ clash L O m j
omit hl ho hs in
theorem pairs : ((∀ m, 0 ≤ m → m < L.length → inR O m) ∧ (∀ m, 0 ≤ m → m < L.length → ∀ j, j < L.length → j = m ∨ ¬ clash L O m j)) ↔ packP L O := by
  unfold packP
  refine ⟨fun ⟨a, b⟩ => ⟨fun m h => a m (Nat.zero_le _) h, fun m h j hj => ?_⟩, fun ⟨a, b⟩ => ⟨fun m _ h => a m h, fun m _ h j hj => ?_⟩⟩
  · rcases b m (Nat.zero_le _) h j (by omega) with e | e
    · omega
    · exact e
  · rcases Nat.lt_trichotomy j m with e | e | e
    · exact .inr (b m h j e)
    · exact .inl e
    · exact .inr fun q => b j hj m e ((clash_symm L O).1 q)
theorem specPack_l0 : Says (fun k => spec_PackOk.l0 k L O 0) (packP L O) :=
  (spec_l0p L O hl ho _ (fun hr => pack_l1 L O hl ho hs hr 0 (Nat.zero_le _)) 0 (Nat.zero_le _) (fun m h => by omega)).imp (pairs L O)
theorem impl_in (i : Nat) (hi : i < L.length) (hr : ∀ j, j ≤ i → inR O j) (Q : Prop) (ih : Says (fun k => impl_PackOk.l0 k L O L (L.length : Int) ((i + 1 : Nat) : Int)) Q) (x : S52) (hx : rd_T52 L (i : Int) = x) (y : List S52) (hy : y = L.take i) :
    ∀ m, m ≤ y.length → Says (fun k => impl_PackOk.l1 k L O (i : Int) L (L.length : Int) (i : Int) y (y.length : Int) (m : Int) x.f0 x.f1 x.f2 x.f3) ((∀ j, m ≤ j → j < y.length → ¬ clash L O i j) ∧ Q) := by
  have hyl : y.length = i := by rw [hy, List.length_take]; omega
  refine down (P := fun m => Says (fun k => impl_PackOk.l1 k L O (i : Int) L (L.length : Int) (i : Int) y (y.length : Int) (m : Int) x.f0 x.f1 x.f2 x.f3) ((∀ j, m ≤ j → j < y.length → ¬ clash L O i j) ∧ Q)) ?_ ?_
  · refine Says.step (fun k => ?_) (ih.imp ⟨fun q => ⟨fun j a b => by omega, q⟩, fun q => q.2⟩)
    simp only [impl_PackOk.l1]; rw [if_neg (by omega), wn i (by omega)]
  · intro m hm ihm
    have hm' : m < L.length := by omega
    have e : rd_T52 y (m : Int) = rd_T52 L (m : Int) := by
      have h1 : rd_T52 y (m : Int) = y[m] := getc z52 y m hm
      have h2 : rd_T52 L (m : Int) = L[m] := getc z52 L m hm'
      rw [h1, h2]; subst hy; simp
    obtain ⟨r1, r2⟩ := hr i (Nat.le_refl _)
    obtain ⟨q1, q2⟩ := hr m (by omega)
    obtain ⟨s1, s2⟩ := hs i hi
    obtain ⟨t1, t2⟩ := hs m hm'
    rw [hx] at s1 s2
    have GO : ¬ clash L O i m → Says (fun k => impl_PackOk.j4 k L O (i : Int) L (L.length : Int) (i : Int) y (y.length : Int) (m : Int) false x.f0 x.f1 x.f2 x.f3) ((∀ j, m ≤ j → j < y.length → ¬ clash L O i j) ∧ Q) := fun h => by
      refine Says.step (fun k => ?_) (ihm.imp (by rw [from_here (Q := fun j => ¬ clash L O i j) hm h]))
      simp only [impl_PackOk.j4]; rw [if_neg (by decide), wn m (by omega)]
    have M : impl_Life_meets.f x.f0 x.f1 x.f2 x.f3 (rd_T52 L (m : Int)).f0 (rd_T52 L (m : Int)).f1 (rd_T52 L (m : Int)).f2 (rd_T52 L (m : Int)).f3 = some (meetB x (rd_T52 L (m : Int))) := impl_meet x _
    cases d : meetB x (rd_T52 L (m : Int)) with
    | false =>
      rw [d] at M
      refine Says.step (fun k => ?_) (GO (fun h => by have := h.1; rw [hx, d] at this; cases this))
      simp only [impl_PackOk.l1, e, M]
      rw [if_pos (by omega), if_pos (by omega), if_pos (by omega)]; rfl
    | true =>
      rw [d] at M
      by_cases e1 : rd O (i : Int) < rd O (m : Int) + (rd_T52 L (m : Int)).f1
      · by_cases e2 : rd O (m : Int) < rd O (i : Int) + x.f1
        · refine Says.step (f := fun k => impl_PackOk.j4 k L O (i : Int) L (L.length : Int) (i : Int) y (y.length : Int) (m : Int) true x.f0 x.f1 x.f2 x.f3) (fun k => ?_) ?_
          · simp only [impl_PackOk.l1, e, M, Option.bind_some, if_true]
            rw [if_pos (by omega), if_pos (by omega), if_pos (by omega)]
            rw [if_pos (by omega), if_pos (by omega), if_pos (by omega), w64 (by omega) (by omega), if_pos e1, w64 (by omega) (by omega), decide_eq_true e2]
          · refine Says.no (fun k => by simp only [impl_PackOk.j4]; rfl) (fun h => h.1 m (Nat.le_refl _) hm ⟨by rw [hx]; exact d, e1, by rw [hx]; exact e2⟩)
        · refine Says.step (fun k => ?_) (GO (fun h => e2 (by have := h.2.2; rwa [hx] at this)))
          simp only [impl_PackOk.l1, e, M, Option.bind_some, if_true]
          rw [if_pos (by omega), if_pos (by omega), if_pos (by omega)]
          rw [if_pos (by omega), if_pos (by omega), if_pos (by omega), w64 (by omega) (by omega), if_pos e1, w64 (by omega) (by omega), decide_eq_false e2]
      · refine Says.step (fun k => ?_) (GO (fun h => e1 h.2.1))
        simp only [impl_PackOk.l1, e, M, Option.bind_some, if_true]
        rw [if_pos (by omega), if_pos (by omega), if_pos (by omega)]
        rw [if_pos (by omega), if_pos (by omega), if_pos (by omega), w64 (by omega) (by omega), if_neg e1]
theorem impl_l0p : ∀ i, i ≤ L.length → (∀ m, m < i → inR O m) → Says (fun k => impl_PackOk.l0 k L O L (L.length : Int) (i : Int)) (∀ m, i ≤ m → m < L.length → inR O m ∧ ∀ j, j < m → ¬ clash L O m j) := by
  refine down (P := fun i => (∀ m, m < i → inR O m) → Says (fun k => impl_PackOk.l0 k L O L (L.length : Int) (i : Int)) (∀ m, i ≤ m → m < L.length → inR O m ∧ ∀ j, j < m → ¬ clash L O m j)) ?_ ?_
  · intro h
    exact Says.yes (fun k => by simp only [impl_PackOk.l0]; rw [if_neg (by omega)]) (fun m a b => by omega)
  · intro i hi ih h
    generalize hx : rd_T52 L (i : Int) = x
    have NO : ¬ inR O i → Says (fun k => impl_PackOk.j2 k L O (i : Int) L (L.length : Int) (i : Int) true x.f0 x.f1 x.f2 x.f3) (∀ m, i ≤ m → m < L.length → inR O m ∧ ∀ j, j < m → ¬ clash L O m j) := fun n =>
      Says.no (fun k => by simp only [impl_PackOk.j2]; rfl) (fun q => n (q i (Nat.le_refl _) hi).1)
    by_cases c1 : rd O (i : Int) < 0
    · refine Says.step (fun k => ?_) (NO (fun n => by have := n.1; omega))
      simp only [impl_PackOk.l0, hx]; rw [if_pos (by omega), if_pos (by omega), if_pos (by omega), if_pos (by omega), if_pos c1]
    by_cases c2 : rd O (i : Int) > 1000000
    · refine Says.step (fun k => ?_) (NO (fun n => by have := n.2; omega))
      simp only [impl_PackOk.l0, hx]; rw [if_pos (by omega), if_pos (by omega), if_pos (by omega), if_pos (by omega), if_neg c1, decide_eq_true c2]
    · have hi' : inR O i := ⟨by omega, by omega⟩
      have h' : ∀ m, m < i + 1 → inR O m := fun m hm => by rcases Nat.eq_or_lt_of_le (Nat.le_of_lt_succ hm) with e | e; exact e ▸ hi'; exact h m e
      have T := impl_in L O hl ho hs i hi (fun j hj => h' j (by omega)) _ (ih h') x hx (L.take i) rfl 0 (Nat.zero_le _)
      refine Says.step (f := fun k => impl_PackOk.j2 k L O (i : Int) L (L.length : Int) (i : Int) false x.f0 x.f1 x.f2 x.f3) (fun k => ?_) (Says.step (fun k => ?_) (T.imp ?_))
      · simp only [impl_PackOk.l0, hx]; rw [if_pos (by omega), if_pos (by omega), if_pos (by omega), if_pos (by omega), if_neg c1, decide_eq_false c2]
      · simp only [impl_PackOk.j2]; rw [if_neg (by decide), if_pos (by omega), if_pos (by omega)]; rfl
      · rw [List.length_take, Nat.min_eq_left (by omega)]
        refine ⟨fun ⟨a, b⟩ m h1 h2 => ?_, fun q => ⟨fun j _ hj => (q i (Nat.le_refl _) hi).2 j hj, fun m h1 h2 => q m (by omega) h2⟩⟩
        rcases Nat.eq_or_lt_of_le h1 with e | e
        · subst e; exact ⟨hi', fun j hj => a j (Nat.zero_le _) hj⟩
        · exact b m e h2
theorem implPack_l0 : Says (fun k => impl_PackOk.l0 k L O L (L.length : Int) 0) (packP L O) :=
  (impl_l0p L O hl ho hs 0 (Nat.zero_le _) (fun m h => by omega)).imp
    ⟨fun q => ⟨fun m h => (q m (Nat.zero_le _) h).1, fun m h => (q m (Nat.zero_le _) h).2⟩, fun q m _ h => ⟨q.1 m h, q.2 m h⟩⟩
end
theorem okL_sizes {L : List S52} (h : okL L = true) (i : Nat) (hi : i < L.length) : 1 ≤ (rd_T52 L (i : Int)).f1 ∧ (rd_T52 L (i : Int)).f1 ≤ 4096 := by
  unfold okL at h
  rw [Bool.and_eq_true, List.all_eq_true] at h
  have := h.1 _ (List.getElem_mem hi)
  rw [show rd_T52 L (i : Int) = L[i] from getc z52 L i hi]
  unfold lifeB at this
  simp only [Bool.and_eq_true, decide_eq_true_eq] at this
  exact ⟨this.1, this.2.1⟩
theorem pack_both (L : List S52) (O : List Int) (hl : L.length ≤ 1048576) (ho : O.length = L.length) : ∃ b, Ev (fun k => spec_PackOk.f k L O) b ∧ Ev (fun k => impl_PackOk.f k L O) b := by
  unfold spec_PackOk.f impl_PackOk.f
  have e : ((O.length : Int) != (L.length : Int)) = false := by rw [ho]; exact bne_eq_false_iff_eq.mpr rfl
  cases c : okL L with
  | false =>
    refine ⟨false, Ev.bind (specOk_ev L hl) ?_, Ev.bind (implOk_ev L hl) ?_⟩
    · rw [c]; exact Ev.stop fun k => by simp only [spec_PackOk.j0]; rfl
    · rw [c]; exact Ev.stop fun k => by simp only [impl_PackOk.j0]; rfl
  | true =>
    obtain ⟨b, h1, h2⟩ := (specPack_l0 L O hl ho (okL_sizes c)).both (implPack_l0 L O hl ho (okL_sizes c))
    refine ⟨b, Ev.bind (specOk_ev L hl) ?_, Ev.bind (implOk_ev L hl) ?_⟩
    · rw [c, e]; exact Ev.step (fun k => by simp only [spec_PackOk.j0]; rfl) h1
    · rw [c, e]; exact Ev.step (fun k => by simp only [impl_PackOk.j0]; rfl) h2
end Go.Proofs.Ytmcboiffbcnalaa.Pure
