/- The lives of the buffers: the model's list and the given function's are one list. -/
import Derived.Test.YtmcboiffbcnalaaPFnExactLivesx8
import Derived.Test.YtmcboiffbcnalaaPFnExactLivesx9
import Derived.Test.YtmcboiffbcnalaaPFnExactLivesx18
import Derived.Test.YtmcboiffbcnalaaEFnExactLivesi
import Derived.Test.YtmcboiffbcnalaaEFnExactLivesg
namespace Go.Proofs.Ytmcboiffbcnalaa.Pure
open Go.RowKit Go.Proofs.Ytmcboiffbcnalaa.PFnExactLives Go.Proofs.YtmcboiffbcnalaaW.PrintWords Go.Proofs.YtmcboiffbcnalaaW.PrintLast Go.Proofs.YtmcboiffbcnalaaW.PrintMore
open impl_Nest_given (insL fixL numsB given_f)
set_option linter.unusedVariables false
def ft (b : Int) : List S79 → Int → Int → Int → Int × Int
  | [], _, f, t => (f, t)
  | x :: r, i, f, t => if touchB x b = true then ft b r (i + 1) (if f < 0 then i else f) i else ft b r (i + 1) f t
theorem ft_fst (b : Int) : ∀ (l : List S79) (i f t t' : Int), (ft b l i f t).1 = (ft b l i f t').1
  | [], _, _, _, _ => rfl
  | x :: r, i, f, t, t' => by
    rw [ft, ft]
    split
    · rfl
    · exact ft_fst b r _ _ _ _
theorem ft_snd (b : Int) : ∀ (l : List S79) (i f t t' : Int), 0 ≤ i → mx t 0 = mx t' 0 → mx (ft b l i f t).2 0 = mx (ft b l i f t').2 0
  | [], _, _, _, _, _, h => h
  | x :: r, i, f, t, t', h0, h => by
    rw [ft, ft]
    split
    · rfl
    · exact ft_snd b r _ _ _ _ (by omega) h
theorem ft_low (b : Int) : ∀ (l : List S79) (i f t : Int), 0 ≤ i → 0 ≤ t → 0 ≤ (ft b l i f t).2
  | [], _, _, _, _, h => h
  | x :: r, i, f, t, h0, h => by
    rw [ft]
    split
    · exact ft_low b r _ _ _ (by omega) h0
    · exact ft_low b r _ _ _ (by omega) h
section
variable (ss ins : List Int) (fx : List S71) (ks : List S79) (outs : List Int)
def finV (b : Int) (p : Int × Int) : Int × Int × Int × Int × Bool :=
  (b, rd ss b, if (!(givenB fx ins b) && decide (p.1 > 0)) = true then p.1 else 0, if hasF outs b = true then (ks.length : Int) else p.2, decide (rd ss b > 0) && (hasF outs b || (givenB fx ins b || decide (p.1 ≥ 0))))
def lifeV (b : Int) : Int × Int × Int × Int × Bool := finV ss ins fx ks outs b (ft b ks 0 (-1) 0)
section
variable (hk : ks.length ≤ 1048576) (hK : ∀ x ∈ ks, SmallK x) (hi : ins.length ≤ 1048576) (hf : fx.length ≤ 1048576) (ho : outs.length ≤ 1048576)
include hk hK hi hf ho
theorem life_loop (b : Int) : ∀ i, i ≤ ks.length → ∀ f t : Int, Ev (fun k => spec_l12Life.l0 k b f (i : Int) ss ins fx ks outs b (rd ss b) 0 t) (finV ss ins fx ks outs b (ft b (ks.drop i) i f t)) := by
  refine down (P := fun i => ∀ f t : Int, Ev (fun k => spec_l12Life.l0 k b f (i : Int) ss ins fx ks outs b (rd ss b) 0 t) (finV ss ins fx ks outs b (ft b (ks.drop i) i f t))) ?_ ?_
  · intro f t
    rw [List.drop_length, ft]
    refine Ev.step (f := fun k => (spec_l7Has.f k outs b).bind fun L => ((spec_l12Given.f k ss ins fx ks outs b).bind fun E => (if E = true then (spec_l12Life.j1 k f L E false ss ins fx ks outs b (rd ss b) 0 t) else (spec_l12Life.j1 k f L E (decide (f > 0)) ss ins fx ks outs b (rd ss b) 0 t)))) (fun k => by simp only [spec_l12Life.l0]; rw [if_neg (by omega)]) ?_
    refine Ev.bind (has_ev outs b (by omega)) (Ev.bind (given_ev ss ins fx ks outs b hi hf) ?_)
    show Ev _ (finV ss ins fx ks outs b (f, t))
    unfold finV
    rw [show (outs.any fun y => decide (y = b)) = hasF outs b from rfl]
    have J2 : ∀ fr : Int, Ev (fun k => spec_l12Life.j2 k f (hasF outs b) (givenB fx ins b) ss ins fx ks outs b (rd ss b) fr t) (b, rd ss b, fr, if hasF outs b = true then (ks.length : Int) else t, decide (rd ss b > 0) && (hasF outs b || (givenB fx ins b || decide (f ≥ 0)))) := by
      intro fr
      refine Ev.stop fun k => ?_
      simp only [spec_l12Life.j2]
      by_cases c : rd ss b > 0
      · rw [decide_eq_true c]
        cases hasF outs b <;> cases givenB fx ins b <;> simp [c]
      · rw [decide_eq_false c]
        cases hasF outs b <;> simp [c]
    cases hg : givenB fx ins b with
    | true =>
      simp only [if_true]
      rw [hg] at J2
      refine Ev.step (fun k => ?_) (J2 0)
      simp only [spec_l12Life.j1]; rfl
    | false =>
      rw [hg] at J2
      by_cases c : f > 0
      · rw [decide_eq_true c]
        refine Ev.step (fun k => ?_) (J2 f)
        simp only [spec_l12Life.j1]; rfl
      · rw [decide_eq_false c]
        refine Ev.step (fun k => ?_) (J2 0)
        simp only [spec_l12Life.j1]; rfl
  · intro i h ih f t
    rw [drop132 ks i h, ft]
    have hx := rd132_mem hK i h
    generalize hxx : rd_T79 ks (i : Int) = x at hx
    refine Ev.step (f := fun k => (spec_l12Touches.f k x.f0 x.f1 x.f2.f0 x.f2.f1 x.f2.f2 x.f3 x.f4 b).bind fun M => (if M = true then (if f < 0 then (spec_l12Life.l0 k b (i : Int) ((i + 1 : Nat) : Int) ss ins fx ks outs b (rd ss b) 0 (i : Int)) else (spec_l12Life.l0 k b f ((i + 1 : Nat) : Int) ss ins fx ks outs b (rd ss b) 0 (i : Int))) else (spec_l12Life.l0 k b f ((i + 1 : Nat) : Int) ss ins fx ks outs b (rd ss b) 0 t))) (fun k => ?_) ?_
    · simp only [spec_l12Life.l0, hxx]; rw [if_pos (by omega), if_pos (by omega), wn i (by omega)]
    · refine Ev.bind (touch_ev x.f0 x.f1 x.f2.f0 x.f2.f1 x.f2.f2 x.f3 x.f4 b hx.2.1) ?_
      rw [show (decide (x.f2.f0 = b) || loadF x.f1 b) = touchB x b from rfl]
      cases touchB x b with
      | false => exact ih f t
      | true =>
        simp only [if_true]
        by_cases c : f < 0
        · rw [if_pos c]; exact Ev.congr (fun k => by rw [if_pos c]) (ih _ _)
        · rw [if_neg c]; exact Ev.congr (fun k => by rw [if_neg c]) (ih _ _)
theorem life_ev (b : Nat) (hb : b < ss.length) : Ev (fun k => spec_l12Life.f k ss ins fx ks outs (b : Int)) (lifeV ss ins fx ks outs b) := by
  unfold spec_l12Life.f
  refine Ev.congr (fun k => by rw [if_pos (by omega), if_pos (by omega)]) ?_
  exact life_loop ss ins fx ks outs hk hK hi hf ho b 0 (Nat.zero_le _) (-1) 0
end
def oneL (v : Int × Int × Int × Int × Bool) : List S52 := if v.2.2.2.2 = true then [⟨v.1, v.2.1, v.2.2.1, v.2.2.2.1⟩] else []
def livesD (V : Int → Int × Int × Int × Int × Bool) : List Int → Int → List S52
  | [], _ => []
  | _ :: r, i => oneL (V i) ++ livesD V r (i + 1)
theorem livesD_len (V : Int → Int × Int × Int × Int × Bool) : ∀ (l : List Int) (i : Int), (livesD V l i).length ≤ l.length
  | [], _ => Nat.le_refl _
  | _ :: r, i => by
    rw [livesD, List.length_append, List.length_cons]
    have := livesD_len V r (i + 1)
    unfold oneL; split <;> simp <;> omega
def livesV : List S52 := livesD (lifeV ss ins fx ks outs) ss 0
section
variable (hs : ss.length ≤ 1048576) (hk : ks.length ≤ 1048576) (hK : ∀ x ∈ ks, SmallK x) (hi : ins.length ≤ 1048576) (hf : fx.length ≤ 1048576) (ho : outs.length ≤ 1048576)
include hs hk hK hi hf ho
theorem specLives_loop : ∀ i, i ≤ ss.length → ∀ acc : List S52, acc.length ≤ i → Ev (fun k => spec_Lives.l0 k acc (i : Int) ss ins fx ks outs) (acc ++ livesD (lifeV ss ins fx ks outs) (ss.drop i) i) := by
  refine down (P := fun i => ∀ acc : List S52, acc.length ≤ i → Ev (fun k => spec_Lives.l0 k acc (i : Int) ss ins fx ks outs) (acc ++ livesD (lifeV ss ins fx ks outs) (ss.drop i) i)) ?_ ?_
  · intro acc _
    rw [List.drop_length, livesD, List.append_nil]
    exact Ev.stop fun k => by simp only [spec_Lives.l0]; rw [if_neg (by omega)]
  · intro i h ih acc ha
    rw [dropi ss i h, livesD]
    refine Ev.step (f := fun k => (spec_l12Life.f k ss ins fx ks outs (i : Int)).bind fun l => (if l.2.2.2.2 = true then (if acc.length < 4398046511104 then (spec_Lives.l0 k (acc ++ [(⟨l.1, l.2.1, l.2.2.1, l.2.2.2.1⟩ : S52)]) ((i + 1 : Nat) : Int) ss ins fx ks outs) else (none)) else (spec_Lives.l0 k acc ((i + 1 : Nat) : Int) ss ins fx ks outs))) (fun k => by simp only [spec_Lives.l0]; rw [if_pos (by omega), wn i (by omega)]) ?_
    refine Ev.bind (life_ev ss ins fx ks outs hk hK hi hf ho i h) ?_
    generalize lifeV ss ins fx ks outs (i : Int) = v
    unfold oneL
    by_cases c : v.2.2.2.2 = true
    · rw [if_pos c, ← List.append_assoc]
      refine Ev.congr (fun k => by rw [if_pos c, if_pos (by omega)]) (ih _ (by simp <;> omega))
    · rw [if_neg c, List.nil_append]
      exact Ev.congr (fun k => by rw [if_neg c]) (ih _ (by omega))
theorem specLives_ev (hn : nestB ss ins fx ks outs = true) : Ev (fun k => spec_Lives.f k ss ins fx ks outs) (livesV ss ins fx ks outs) := by
  unfold spec_Lives.f
  refine Ev.bind (Ev.now ([] : List S52)) (Ev.bind (specNest_ev ss ins fx ks outs hs hi hf ho hk hK) ?_)
  rw [hn]
  exact specLives_loop ss ins fx ks outs hs hk hK hi hf ho 0 (Nat.zero_le _) [] (Nat.le_refl _)
variable (h0 : ∀ i : Nat, i < ss.length → 0 ≤ rd ss (i : Int)) (g : List Bool) (hg : g.length = ss.length) (hr : ∀ b : Int, 0 ≤ b → b < ss.length → rdOf false g b = givenB fx ins b)
omit hs hi hf ho in
theorem impl_touch (b n sz : Int) (acc : List S52) (R : List S52) : ∀ i, i ≤ ks.length → ∀ f t : Int,
    Ev (fun k => impl_Nest_lives.l1 k g acc b sz (ft b (ks.drop i) i f t).1 (ft b (ks.drop i) i f t).2 ss n b ks (ks.length : Int) (ks.length : Int) ss ins fx ks outs) R →
    Ev (fun k => impl_Nest_lives.l1 k g acc b sz f t ss n b ks (ks.length : Int) (i : Int) ss ins fx ks outs) R := by
  refine down (P := fun i => ∀ f t : Int,
    Ev (fun k => impl_Nest_lives.l1 k g acc b sz (ft b (ks.drop i) i f t).1 (ft b (ks.drop i) i f t).2 ss n b ks (ks.length : Int) (ks.length : Int) ss ins fx ks outs) R →
    Ev (fun k => impl_Nest_lives.l1 k g acc b sz f t ss n b ks (ks.length : Int) (i : Int) ss ins fx ks outs) R) ?_ ?_
  · intro f t h
    rwa [List.drop_length, ft] at h
  · intro i h ih f t hR
    rw [drop132 ks i h, ft] at hR
    have hx := rd132_mem hK i h
    generalize hxx : rd_T79 ks (i : Int) = x at hx hR
    have J2 : Ev (fun k => impl_Nest_lives.j2 k g acc b sz f t (i : Int) ss n b ks (ks.length : Int) (i : Int) (touchB x b) ss ins fx ks outs) R := by
      cases c : touchB x b with
      | false =>
        rw [c] at hR
        refine Ev.step (fun k => ?_) (ih f t hR)
        simp only [impl_Nest_lives.j2]
        rw [if_neg (by decide), wn i (by omega)]
      | true =>
        rw [c] at hR
        simp only [if_true] at hR
        by_cases d : f < 0
        · rw [if_pos d] at hR
          refine Ev.step (fun k => ?_) (ih _ _ hR)
          simp only [impl_Nest_lives.j2]
          rw [if_pos (by trivial), if_pos d, wn i (by omega)]
        · rw [if_neg d] at hR
          refine Ev.step (fun k => ?_) (ih _ _ hR)
          simp only [impl_Nest_lives.j2]
          rw [if_pos (by trivial), if_neg d, wn i (by omega)]
    by_cases c : x.f2.f0 = b
    · refine Ev.step (fun k => ?_) J2
      simp only [impl_Nest_lives.l1, hxx]
      rw [if_pos (by omega), if_pos (by omega), if_pos (by omega), if_pos c, show touchB x b = true by unfold touchB; rw [decide_eq_true c]; rfl]
    · obtain ⟨r, hr, e⟩ := loadsOf_ev x.f0 x.f1 x.f2.f0 x.f2.f1 x.f2.f2 x.f3 x.f4 b hx.2.1
      rw [show touchB x b = loadF x.f1 b by unfold touchB; rw [decide_eq_false c]; rfl, ← e] at J2
      refine Ev.step (f := fun k => (impl_Kernel_loadsOf.f k x.f0 x.f1 x.f2.f0 x.f2.f1 x.f2.f2 x.f3 x.f4 b).bind fun X => impl_Nest_lives.j2 k g acc b sz f t (i : Int) ss n b ks (ks.length : Int) (i : Int) (decide (X > 0)) ss ins fx ks outs) (fun k => ?_) (Ev.bind hr J2)
      simp only [impl_Nest_lives.l1, hxx]
      rw [if_pos (by omega), if_pos (by omega), if_pos (by omega), if_neg c]
include h0 hg hr
omit hi hf in
theorem implLives_loop : ∀ i, i ≤ ss.length → ∀ acc : List S52, acc.length ≤ i → Ev (fun k => impl_Nest_lives.l0 k g acc ss (ss.length : Int) (i : Int) ss ins fx ks outs) (acc ++ livesD (lifeV ss ins fx ks outs) (ss.drop i) i) := by
  refine down (P := fun i => ∀ acc : List S52, acc.length ≤ i → Ev (fun k => impl_Nest_lives.l0 k g acc ss (ss.length : Int) (i : Int) ss ins fx ks outs) (acc ++ livesD (lifeV ss ins fx ks outs) (ss.drop i) i)) ?_ ?_
  · intro acc _
    rw [List.drop_length, livesD, List.append_nil]
    exact Ev.stop fun k => by simp only [impl_Nest_lives.l0]; rw [if_neg (by omega)]
  · intro i h ih acc ha
    rw [dropi ss i h, livesD]
    generalize hR : acc ++ (oneL (lifeV ss ins fx ks outs (i : Int)) ++ livesD (lifeV ss ins fx ks outs) (ss.drop (i + 1)) ((i : Int) + 1)) = R
    have hz := h0 i h
    refine Ev.step (f := fun k => impl_Nest_lives.l1 k g acc (i : Int) (rd ss (i : Int)) (-1) (-1) ss (ss.length : Int) (i : Int) ks (ks.length : Int) 0 ss ins fx ks outs) (fun k => by simp only [impl_Nest_lives.l0]; rw [if_pos (by omega), if_pos (by omega), if_pos (by omega)]) ?_
    refine impl_touch ss ins fx ks outs hk hK g (i : Int) (ss.length : Int) (rd ss (i : Int)) acc R 0 (Nat.zero_le _) (-1) (-1) ?_
    rw [List.drop_zero]
    show Ev (fun k => impl_Nest_lives.l1 k g acc (i : Int) (rd ss (i : Int)) (ft (i : Int) ks 0 (-1) (-1)).1 (ft (i : Int) ks 0 (-1) (-1)).2 ss (ss.length : Int) (i : Int) ks (ks.length : Int) (ks.length : Int) ss ins fx ks outs) R
    have e1 := ft_fst (i : Int) ks 0 (-1) (-1) 0
    have e2 := ft_snd (i : Int) ks 0 (-1) (-1) 0 (Int.le_refl _) rfl
    have e3 := ft_low (i : Int) ks 0 (-1) 0 (Int.le_refl _) (Int.le_refl _)
    have hV : lifeV ss ins fx ks outs (i : Int) = finV ss ins fx ks outs (i : Int) (ft (i : Int) ks 0 (-1) 0) := rfl
    rw [hV] at hR
    generalize ft (i : Int) ks 0 (-1) (-1) = p at e1 e2 ⊢
    generalize ft (i : Int) ks 0 (-1) 0 = q at e1 e2 e3 hR
    obtain ⟨F, T⟩ := p
    obtain ⟨F', T'⟩ := q
    simp only at e1 e2 e3 ⊢
    subst e1
    have e4 : mx T 0 = T' := by rw [e2]; unfold mx; rw [if_neg (by omega)]
    have hgi := hr (i : Int) (by omega) (by omega)
    refine Ev.step (f := fun k => (slices_Contains_int_int.f k outs (i : Int)).bind fun B => (if rd ss (i : Int) = 0 then (impl_Nest_lives.j3 k g acc (i : Int) (rd ss (i : Int)) F T B ss (ss.length : Int) (i : Int) true ss ins fx ks outs) else (if F < 0 then (if rdOf false g (i : Int) = true then (impl_Nest_lives.j3 k g acc (i : Int) (rd ss (i : Int)) F T B ss (ss.length : Int) (i : Int) false ss ins fx ks outs) else (impl_Nest_lives.j3 k g acc (i : Int) (rd ss (i : Int)) F T B ss (ss.length : Int) (i : Int) (!B) ss ins fx ks outs)) else (impl_Nest_lives.j3 k g acc (i : Int) (rd ss (i : Int)) F T B ss (ss.length : Int) (i : Int) false ss ins fx ks outs)))) (fun k => by simp only [impl_Nest_lives.l1]; rw [if_neg (by omega)]; simp only [show 0 ≤ (i : Int) from by omega, show (i : Int) < (g.length : Int) from by omega, if_true]) ?_
    refine Ev.bind (contains_ev outs (i : Int) ho) ?_
    rw [hgi]
    -- the way that leaves the buffer out
    have SK : (rd ss (i : Int) = 0 ∨ (F < 0 ∧ givenB fx ins (i : Int) = false ∧ hasF outs (i : Int) = false)) → Ev (fun k => impl_Nest_lives.j3 k g acc (i : Int) (rd ss (i : Int)) F T (hasF outs (i : Int)) ss (ss.length : Int) (i : Int) true ss ins fx ks outs) R := by
      intro hc
      have : oneL (finV ss ins fx ks outs (i : Int) (F, T')) = [] := by
        unfold oneL finV
        rw [if_neg]
        simp only [Bool.and_eq_true, decide_eq_true_eq, Bool.or_eq_true]
        rintro ⟨a, b⟩
        rcases hc with hc | ⟨c1, c2, c3⟩
        · omega
        · rw [c2, c3] at b; simp at b; omega
      rw [this, List.nil_append] at hR
      rw [← hR]
      refine Ev.step (fun k => ?_) (ih acc (by omega))
      simp only [impl_Nest_lives.j3]
      rw [if_pos (by trivial), wn i (by omega)]
    -- the way that takes it in
    have TK : rd ss (i : Int) ≠ 0 → (0 ≤ F ∨ givenB fx ins (i : Int) = true ∨ hasF outs (i : Int) = true) → Ev (fun k => impl_Nest_lives.j3 k g acc (i : Int) (rd ss (i : Int)) F T (hasF outs (i : Int)) ss (ss.length : Int) (i : Int) false ss ins fx ks outs) R := by
      intro hz2 hc
      have : oneL (finV ss ins fx ks outs (i : Int) (F, T')) = [⟨(i : Int), rd ss (i : Int), mx (if givenB fx ins (i : Int) = true then 0 else F) 0, if hasF outs (i : Int) = true then mx (ks.length : Int) 0 else mx T 0⟩] := by
        unfold oneL finV
        rw [if_pos (by
          simp only [Bool.and_eq_true, decide_eq_true_eq, Bool.or_eq_true]
          refine ⟨by omega, ?_⟩
          rcases hc with c | c | c
          · exact .inr (.inr c)
          · exact .inr (.inl c)
          · exact .inl c)]
        simp only
        rw [e4, show mx (ks.length : Int) 0 = (ks.length : Int) by unfold mx; rw [if_neg (by omega)]]
        congr 2
        cases givenB fx ins (i : Int) with
        | true => rfl
        | false =>
          unfold mx
          simp only [Bool.not_false, Bool.true_and, decide_eq_true_eq, Bool.false_eq_true, if_false]
          split <;> split <;> omega
      rw [this, ← List.append_assoc] at hR
      have J4 : Ev (fun k => impl_Nest_lives.j4 k g acc (i : Int) (rd ss (i : Int)) (if givenB fx ins (i : Int) = true then 0 else F) T (hasF outs (i : Int)) ss (ss.length : Int) (i : Int) ss ins fx ks outs) R := by
        rw [← hR]
        cases hasF outs (i : Int) with
        | true =>
          refine Ev.step (fun k => ?_) (ih _ (by simp <;> omega))
          simp only [impl_Nest_lives.j4]
          rw [if_pos (by trivial), if_pos (by omega), wn i (by omega)]; rfl
        | false =>
          refine Ev.step (fun k => ?_) (ih _ (by simp <;> omega))
          simp only [impl_Nest_lives.j4]
          rw [if_neg (by decide), if_pos (by omega), wn i (by omega)]; rfl
      cases hgg : givenB fx ins (i : Int) with
      | true =>
        rw [hgg] at J4 hgi
        refine Ev.step (fun k => ?_) J4
        simp only [impl_Nest_lives.j3]
        rw [if_neg (by decide), if_pos (by omega), if_pos (by omega), hgi, if_pos rfl]; rfl
      | false =>
        rw [hgg] at J4 hgi
        refine Ev.step (fun k => ?_) J4
        simp only [impl_Nest_lives.j3]
        rw [if_neg (by decide), if_pos (by omega), if_pos (by omega), hgi, if_neg (by decide)]; rfl
    by_cases c : rd ss (i : Int) = 0
    · exact Ev.congr (fun k => by rw [if_pos c]) (SK (.inl c))
    · refine Ev.congr (fun k => by rw [if_neg c]) ?_
      by_cases d : F < 0
      · refine Ev.congr (fun k => by rw [if_pos d]) ?_
        cases hgg : givenB fx ins (i : Int) with
        | true => simp only [if_true]; exact TK c (.inr (.inl hgg))
        | false =>
          cases hoo : hasF outs (i : Int) with
          | true => rw [hoo] at TK; exact TK c (.inr (.inr rfl))
          | false => rw [hoo] at SK; exact SK (.inr ⟨d, hgg, rfl⟩)
      · exact Ev.congr (fun k => by rw [if_neg d]) (TK c (.inl (by omega)))
end
end
theorem sizes_low {ss : List Int} (h : sizeOk ss = true) (i : Nat) (hi : i < ss.length) : 0 ≤ rd ss (i : Int) := by
  unfold sizeOk at h
  rw [List.all_eq_true] at h
  have := h _ (List.getElem_mem hi)
  simp only [Bool.and_eq_true, decide_eq_true_eq] at this
  rw [rd_lt ss i hi]; exact this.1
theorem nestB_parts {ss ins : List Int} {fx : List S71} {ks : List S79} {outs : List Int} (h : nestB ss ins fx ks outs = true) : ss.length ≤ 200 ∧ sizeOk ss = true ∧ (given_f ss ins fx).2 = true := by
  unfold nestB lensOk tailI at h
  simp only [Bool.and_eq_true, decide_eq_true_eq] at h
  obtain ⟨⟨h1, _⟩, h2, _, h3⟩ := h
  refine ⟨h1, h2, ?_⟩
  by_cases c : (given_f ss ins fx).2 = true
  · exact c
  · rw [if_neg c] at h3; cases h3
theorem implLives_ev (ss ins : List Int) (fx : List S71) (ks : List S79) (outs : List Int) (hk : ks.length ≤ 1048576) (hK : ∀ x ∈ ks, SmallK x) (ho : outs.length ≤ 1048576) (hn : nestB ss ins fx ks outs = true) : Ev (fun k => impl_Nest_lives.f k ss ins fx ks outs) (livesV ss ins fx ks outs) := by
  obtain ⟨h1, h2, h3⟩ := nestB_parts hn
  obtain ⟨g1, g2⟩ := given_row ss ins fx h3
  unfold impl_Nest_lives.f impl_Nest_given.f
  rw [if_pos (by omega)]
  refine Ev.bind (Ev.now (given_f ss ins fx)) ?_
  exact implLives_loop ss ins fx ks outs (by omega) hk hK ho (sizes_low h2) _ g1 g2 0 (Nat.zero_le _) [] (Nat.le_refl _)
end Go.Proofs.Ytmcboiffbcnalaa.Pure
