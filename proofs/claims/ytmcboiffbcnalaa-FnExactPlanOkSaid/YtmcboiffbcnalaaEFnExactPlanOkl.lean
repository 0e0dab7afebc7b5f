/- PlanOk: the model's and the given one say the same. -/
import Derived.Test.YtmcboiffbcnalaaPFnExactPlanOkx12
import Derived.Test.YtmcboiffbcnalaaPFnExactPlanOkx25
import Derived.Test.YtmcboiffbcnalaaEFnExactPlanOkj
import Derived.Test.YtmcboiffbcnalaaEFnExactPlanOkk
namespace Go.Proofs.Ytmcboiffbcnalaa.Pure
open Go.RowKit Go.Proofs.Ytmcboiffbcnalaa.PFnExactPlanOk Go.Proofs.YtmcboiffbcnalaaW.PrintWords Go.Proofs.YtmcboiffbcnalaaW.PrintLast Go.Proofs.YtmcboiffbcnalaaW.PrintMore
set_option linter.unusedVariables false
theorem oneL_mem {v : Int × Int × Int × Int × Bool} {x : S52} : x ∈ oneL v → x.f0 = v.1 := by
  unfold oneL
  split
  · intro h; rw [List.mem_singleton] at h; rw [h]
  · intro h; cases h
theorem livesD_range (V : Int → Int × Int × Int × Int × Bool) (hV : ∀ i, (V i).1 = i) : ∀ (l : List Int) (i : Int) (x : S52), x ∈ livesD V l i → i ≤ x.f0 ∧ x.f0 < i + l.length
  | [], _, x, h => by cases h
  | _ :: r, i, x, h => by
    rw [livesD, List.mem_append] at h
    rcases h with h | h
    · rw [oneL_mem h, hV, List.length_cons]; omega
    · have := livesD_range V hV r _ x h
      rw [List.length_cons]; omega
theorem livesD_any (V : Int → Int × Int × Int × Int × Bool) (hV : ∀ i, (V i).1 = i) : ∀ (l : List Int) (i b : Int), i ≤ b → b < i + l.length → (livesD V l i).any (fun x => decide (x.f0 = b)) = (V b).2.2.2.2
  | [], i, b, h1, h2 => by simp at h2; omega
  | _ :: r, i, b, h1, h2 => by
    rw [livesD, List.any_append]
    by_cases c : i = b
    · subst c
      rw [show (livesD V r (i + 1)).any (fun x => decide (x.f0 = i)) = false by
        rw [List.any_eq_false]
        intro x hx
        have := livesD_range V hV r _ x hx
        rw [decide_eq_true_eq]; omega, Bool.or_false]
      unfold oneL
      split
      next h => rw [h]; simp [hV]
      next h => rw [Bool.eq_false_iff.mpr h]; rfl
    · rw [show (oneL (V i)).any (fun x => decide (x.f0 = b)) = false by
        rw [List.any_eq_false]
        intro x hx
        rw [oneL_mem hx, hV, decide_eq_true_eq]; exact c, Bool.false_or]
      rw [List.length_cons] at h2
      exact livesD_any V hV r (i + 1) b (by omega) (by omega)
section
variable (ss ins : List Int) (fx : List S71) (ks : List S79) (outs offs : List Int) (ar : Int)
variable (hk : ks.length ≤ 1048576) (hK : ∀ x ∈ ks, SmallK x) (hi : ins.length ≤ 1048576) (hf : fx.length ≤ 1048576) (ho : outs.length ≤ 1048576)
variable (hs : ss.length ≤ 1048576) (hoff : offs.length = ss.length) (Lv : List S52) (hLv : Lv = livesV ss ins fx ks outs)
include hk hK hi hf ho hs hoff hLv
theorem plan_l1 (g : List Bool) (hg : g.length = ss.length) (E : List Int) (hE : E.length = Lv.length) (ha : ∀ b : Int, 0 ≤ b → b < ss.length → rdOf false g b = (lifeV ss ins fx ks outs b).2.2.2.2) :
    ∀ i, i ≤ ss.length → ∃ v, Ev (fun k => spec_PlanOk.l1 k Lv E (i : Int) ss ins fx ks outs offs ar) v ∧ Ev (fun k => impl_PlanOk.l1 k Lv E g offs (offs.length : Int) (i : Int)) v := by
  refine down (P := fun i => ∃ v, Ev (fun k => spec_PlanOk.l1 k Lv E (i : Int) ss ins fx ks outs offs ar) v ∧ Ev (fun k => impl_PlanOk.l1 k Lv E g offs (offs.length : Int) (i : Int)) v) ?_ ?_
  · have hl : Lv.length ≤ 1048576 := by
      rw [hLv]; exact Nat.le_trans (livesD_len _ _ _) hs
    obtain ⟨v, h1, h2⟩ := pack_both Lv E hl hE
    refine ⟨v, Ev.step (f := fun k => (spec_PackOk.f k Lv E).bind fun I => some I) (fun k => ?_) (Ev.bind h1 (Ev.now v)), Ev.step (f := fun k => (impl_PackOk.f k Lv E).bind fun I => some I) (fun k => ?_) (Ev.bind h2 (Ev.now v))⟩
    · simp only [spec_PlanOk.l1]; rw [if_neg (by omega)]
    · simp only [impl_PlanOk.l1]; rw [if_neg (by omega)]
  · rintro i h ⟨v, h1, h2⟩
    have hai := ha (i : Int) (by omega) (by omega)
    have S : ∀ w, Ev (fun k => if (lifeV ss ins fx ks outs (i : Int)).2.2.2.2 = true then (spec_PlanOk.l1 k Lv E ((i + 1 : Nat) : Int) ss ins fx ks outs offs ar) else (if rd offs (i : Int) = -1 then (spec_PlanOk.l1 k Lv E ((i + 1 : Nat) : Int) ss ins fx ks outs offs ar) else (some false))) w → Ev (fun k => spec_PlanOk.l1 k Lv E (i : Int) ss ins fx ks outs offs ar) w := by
      intro w hw
      refine Ev.step (f := fun k => (spec_l12Life.f k ss ins fx ks outs (i : Int)).bind fun B => (if B.2.2.2.2 = true then (spec_PlanOk.l1 k Lv E ((i + 1 : Nat) : Int) ss ins fx ks outs offs ar) else (if rd offs (i : Int) = -1 then (spec_PlanOk.l1 k Lv E ((i + 1 : Nat) : Int) ss ins fx ks outs offs ar) else (some false)))) (fun k => ?_) (Ev.bind (life_ev ss ins fx ks outs hk hK hi hf ho i h) hw)
      simp only [spec_PlanOk.l1]
      rw [if_pos (by omega), wn i (by omega)]
      simp only [show 0 ≤ (i : Int) from by omega, if_true]
    cases c : (lifeV ss ins fx ks outs (i : Int)).2.2.2.2 with
    | true =>
      rw [c] at S hai
      refine ⟨v, S v h1, Ev.step (fun k => ?_) h2⟩
      simp only [impl_PlanOk.l1]
      rw [if_pos (by omega), if_pos (by omega), if_pos (by omega), if_pos (by omega), hai, if_pos rfl, wn i (by omega)]
    | false =>
      rw [c] at S hai
      by_cases d : rd offs (i : Int) = -1
      · refine ⟨v, S v (Ev.congr (fun k => by rw [if_neg (by decide), if_pos d]) h1), Ev.step (fun k => ?_) h2⟩
        simp only [impl_PlanOk.l1]
        rw [if_pos (by omega), if_pos (by omega), if_pos (by omega), if_pos (by omega), hai, if_neg (by decide), if_pos d, wn i (by omega)]
      · refine ⟨false, S false (Ev.congr (fun k => by rw [if_neg (by decide), if_neg d]) (Ev.now false)), Ev.stop fun k => ?_⟩
        simp only [impl_PlanOk.l1]
        rw [if_pos (by omega), if_pos (by omega), if_pos (by omega), if_pos (by omega), hai, if_neg (by decide), if_neg d]
theorem plan_l0 : ∀ i, i ≤ Lv.length → ∀ (acc : List Int) (g : List Bool), acc.length = i → g.length = ss.length → (∀ b : Int, 0 ≤ b → b < ss.length → rdOf false g b = (Lv.take i).any fun x => decide (x.f0 = b)) →
    ∃ v, Ev (fun k => spec_PlanOk.l0 k Lv acc (i : Int) ss ins fx ks outs offs ar) v ∧ Ev (fun k => impl_PlanOk.l0 k Lv acc g Lv (Lv.length : Int) (i : Int) ss ins fx ks outs offs ar) v := by
  have hV : ∀ i, (lifeV ss ins fx ks outs i).1 = i := fun _ => rfl
  refine down (P := fun i => ∀ (acc : List Int) (g : List Bool), acc.length = i → g.length = ss.length → (∀ b : Int, 0 ≤ b → b < ss.length → rdOf false g b = (Lv.take i).any fun x => decide (x.f0 = b)) →
    ∃ v, Ev (fun k => spec_PlanOk.l0 k Lv acc (i : Int) ss ins fx ks outs offs ar) v ∧ Ev (fun k => impl_PlanOk.l0 k Lv acc g Lv (Lv.length : Int) (i : Int) ss ins fx ks outs offs ar) v) ?_ ?_
  · intro acc g h1 h2 h3
    rw [List.take_length] at h3
    obtain ⟨v, a, b⟩ := plan_l1 ss ins fx ks outs offs ar hk hK hi hf ho hs hoff Lv hLv g h2 acc h1 (fun b hb hb2 => by
      rw [h3 b hb hb2, hLv]
      exact livesD_any _ hV ss 0 b hb (by omega)) 0 (Nat.zero_le _)
    refine ⟨v, Ev.step (fun k => ?_) a, Ev.step (fun k => ?_) b⟩
    · simp only [spec_PlanOk.l0]; rw [if_neg (by omega)]; rfl
    · simp only [impl_PlanOk.l0]; rw [if_neg (by omega)]; rfl
  · intro i h ih acc g h1 h2 h3
    have hl : Lv.length ≤ 1048576 := by
      rw [hLv]; exact Nat.le_trans (livesD_len _ _ _) hs
    have hx : rd_T52 Lv (i : Int) = Lv[i] := getc z52 Lv i h
    have hr : 0 ≤ (rd_T52 Lv (i : Int)).f0 ∧ (rd_T52 Lv (i : Int)).f0 < ss.length := by
      have hm : rd_T52 Lv (i : Int) ∈ livesV ss ins fx ks outs := by rw [← hLv, hx]; exact List.getElem_mem h
      have := livesD_range _ hV ss 0 _ hm
      omega
    generalize hxx : rd_T52 Lv (i : Int) = x at hx hr
    obtain ⟨r1, r2⟩ := hr
    have h3' : ∀ b : Int, 0 ≤ b → b < ss.length → rdOf false (g.set x.f0.toNat true) b = (Lv.take (i + 1)).any fun x => decide (x.f0 = b) := by
      intro b hb hb2
      rw [rdOf_set g x.f0 b r1 (by omega) hb, h3 b hb hb2, List.take_succ_eq_append_getElem h, ← hx, List.any_append]
      simp
    obtain ⟨v, a, b⟩ := ih (acc ++ [rd offs x.f0]) (g.set x.f0.toNat true) (by simp [h1]) (by rw [List.length_set]; exact h2) h3'
    -- the test's outcome
    have J : ∀ c : Bool, ∃ v, Ev (fun k => spec_PlanOk.j2 k Lv acc (i : Int) (rd offs x.f0) c ss ins fx ks outs offs ar) v ∧ Ev (fun k => impl_PlanOk.j2 k Lv acc (g.set x.f0.toNat true) (rd offs x.f0) Lv (Lv.length : Int) (i : Int) c ss ins fx ks outs offs ar) v := by
      intro c
      cases c with
      | true => exact ⟨false, Ev.stop fun k => by simp only [spec_PlanOk.j2]; rfl, Ev.stop fun k => by simp only [impl_PlanOk.j2]; rfl⟩
      | false =>
        refine ⟨v, Ev.step (fun k => ?_) a, Ev.step (fun k => ?_) b⟩
        · simp only [spec_PlanOk.j2]; rw [if_neg (by decide), if_pos (by omega), wn i (by omega)]
        · simp only [impl_PlanOk.j2]; rw [if_neg (by decide), if_pos (by omega), wn i (by omega)]
    by_cases c1 : rd offs x.f0 < 0
    · obtain ⟨v, a, b⟩ := J true
      refine ⟨v, Ev.step (fun k => ?_) a, Ev.step (fun k => ?_) b⟩
      · simp only [spec_PlanOk.l0, hxx]; rw [if_pos (by omega), if_pos (by omega), if_pos r1, if_pos (by omega), if_pos c1]
      · simp only [impl_PlanOk.l0, hxx, Option.bind_some]; rw [if_pos (by omega), if_pos (by omega), if_pos (by omega), if_pos r1, if_pos (by omega), if_pos (by omega), if_pos c1]
    by_cases c2 : rd offs x.f0 > 1000000
    · obtain ⟨v, a, b⟩ := J true
      refine ⟨v, Ev.step (fun k => ?_) a, Ev.step (fun k => ?_) b⟩
      · simp only [spec_PlanOk.l0, hxx]; rw [if_pos (by omega), if_pos (by omega), if_pos r1, if_pos (by omega), if_neg c1, if_pos c2]
      · simp only [impl_PlanOk.l0, hxx, Option.bind_some]; rw [if_pos (by omega), if_pos (by omega), if_pos (by omega), if_pos r1, if_pos (by omega), if_pos (by omega), if_neg c1, if_pos c2]
    · obtain ⟨v, a, b⟩ := J (decide (wrap64 (rd offs x.f0 + x.f1) > ar))
      refine ⟨v, Ev.step (fun k => ?_) a, Ev.step (fun k => ?_) b⟩
      · simp only [spec_PlanOk.l0, hxx]; rw [if_pos (by omega), if_pos (by omega), if_pos r1, if_pos (by omega), if_neg c1, if_neg c2]
      · simp only [impl_PlanOk.l0, hxx, Option.bind_some]; rw [if_pos (by omega), if_pos (by omega), if_pos (by omega), if_pos r1, if_pos (by omega), if_pos (by omega), if_neg c1, if_neg c2]
end
theorem plan_both (ss ins : List Int) (fx : List S71) (ks : List S79) (outs offs : List Int) (ar : Int) (hs : ss.length ≤ 1048576) (hk : ks.length ≤ 1048576) (hK : ∀ x ∈ ks, SmallK x) (hi : ins.length ≤ 1048576) (hf : fx.length ≤ 1048576) (ho : outs.length ≤ 1048576) :
    ∃ v, Ev (fun k => spec_PlanOk.f k ss ins fx ks outs offs ar) v ∧ Ev (fun k => impl_PlanOk.f k ss ins fx ks outs offs ar) v := by
  have S := specNest_ev ss ins fx ks outs hs hi hf ho hk hK
  have I := implNest_ev ss ins fx ks outs hs ho hk hK
  unfold spec_PlanOk.f impl_PlanOk.f
  have NO : Ev (fun k => spec_PlanOk.j0 k true ss ins fx ks outs offs ar) false ∧ Ev (fun k => impl_PlanOk.j0 k true ss ins fx ks outs offs ar) false :=
    ⟨Ev.stop fun k => by simp only [spec_PlanOk.j0]; rfl, Ev.stop fun k => by simp only [impl_PlanOk.j0]; rfl⟩
  cases hn : nestB ss ins fx ks outs with
  | false =>
    rw [hn] at S I
    exact ⟨false, Ev.bind S (Ev.congr (fun k => by rw [if_neg (by decide)]) NO.1), Ev.bind I (Ev.congr (fun k => by rw [if_neg (by decide)]) NO.2)⟩
  | true =>
    rw [hn] at S I
    by_cases c1 : (offs.length : Int) = (ss.length : Int)
    · by_cases c2 : ar < 0
      · exact ⟨false, Ev.bind S (Ev.congr (fun k => by rw [if_pos rfl, if_pos c1, if_pos c2]) NO.1), Ev.bind I (Ev.congr (fun k => by rw [if_pos rfl, if_pos c1, if_pos c2]) NO.2)⟩
      by_cases c3 : ar > 1000000
      · exact ⟨false, Ev.bind S (Ev.congr (fun k => by rw [if_pos rfl, if_pos c1, if_neg c2, decide_eq_true c3]) NO.1), Ev.bind I (Ev.congr (fun k => by rw [if_pos rfl, if_pos c1, if_neg c2, decide_eq_true c3]) NO.2)⟩
      · obtain ⟨v, a, b⟩ := plan_l0 ss ins fx ks outs offs ar hk hK hi hf ho hs (by omega) _ rfl 0 (Nat.zero_le _) [] (List.replicate offs.length false) rfl (by simp; omega) (fun b hb hb2 => by
          unfold rdOf
          simp [List.getD, show b.toNat < offs.length by omega])
        have L1 := specLives_ev ss ins fx ks outs hs hk hK hi hf ho hn
        have L2 := implLives_ev ss ins fx ks outs hk hK ho hn
        refine ⟨v, Ev.bind S (Ev.congr (f := fun k => spec_PlanOk.j0 k false ss ins fx ks outs offs ar) (fun k => by rw [if_pos rfl, if_pos c1, if_neg c2, decide_eq_false c3]) ?_), Ev.bind I (Ev.congr (f := fun k => impl_PlanOk.j0 k false ss ins fx ks outs offs ar) (fun k => by rw [if_pos rfl, if_pos c1, if_neg c2, decide_eq_false c3]) ?_)⟩
        · refine Ev.step (f := fun k => (spec_Lives.f k ss ins fx ks outs).bind fun A => spec_PlanOk.l0 k A [] 0 ss ins fx ks outs offs ar) (fun k => by simp only [spec_PlanOk.j0]; rw [if_neg (by decide)]) ?_
          exact Ev.bind L1 a
        · refine Ev.step (f := fun k => (impl_Nest_lives.f k ss ins fx ks outs).bind fun z => impl_PlanOk.l0 k z [] (List.replicate offs.length false) z (z.length : Int) 0 ss ins fx ks outs offs ar) (fun k => by
            simp only [impl_PlanOk.j0]
            rw [if_neg (by decide)]
            simp only [show 0 ≤ (offs.length : Int) from by omega, show offs.length ≤ 281474976710656 from by omega, if_true, Int.toNat_natCast]) ?_
          exact Ev.bind L2 b
    · exact ⟨false, Ev.bind S (Ev.congr (fun k => by rw [if_pos rfl, if_neg c1]) NO.1), Ev.bind I (Ev.congr (fun k => by rw [if_pos rfl, if_neg c1]) NO.2)⟩
end Go.Proofs.Ytmcboiffbcnalaa.Pure
