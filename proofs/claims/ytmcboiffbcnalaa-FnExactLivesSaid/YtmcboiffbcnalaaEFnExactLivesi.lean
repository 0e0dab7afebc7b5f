/- What touches a buffer, what is given, what is an output: the model's functions and the given ones. -/
import Derived.Test.YtmcboiffbcnalaaPFnExactLivesx7
import Derived.Test.YtmcboiffbcnalaaPFnExactLivesx17
import Derived.Test.YtmcboiffbcnalaaEFnExactLivesf
namespace Go.Proofs.Ytmcboiffbcnalaa.Pure
open Go.RowKit Go.Proofs.Ytmcboiffbcnalaa.PFnExactLives Go.Proofs.YtmcboiffbcnalaaW.PrintWords Go.Proofs.YtmcboiffbcnalaaW.PrintLast Go.Proofs.YtmcboiffbcnalaaW.PrintMore
open impl_Nest_given (insL fixL numsB given_f)
set_option linter.unusedVariables false
def loadF (l : List S76) (b : Int) : Bool := l.any fun y => decide (y.f0 = b)
def touchB (x : S79) (b : Int) : Bool := decide (x.f2.f0 = b) || loadF x.f1 b
theorem loadF_cons (l : List S76) (i : Nat) (h : i < l.length) (b : Int) : loadF (l.drop i) b = (decide ((rd_T76 l (i : Int)).f0 = b) || loadF (l.drop (i + 1)) b) := by
  rw [drop129 l i h]; rfl
section
variable (loops : List Int) (loads : List S76) (sb so : Int) (sc : List Int) (par : Bool) (code : List S122) (b : Int) (hl : loads.length ≤ 1048576)
include hl
theorem uses_loop : ∀ i, i ≤ loads.length → ∀ acc : List Int, acc.length ≤ i → ∃ r, Ev (fun k => spec_l11Uses.l0 k b acc (i : Int) loops loads sb so sc par code) r ∧ (decide ((r.length : Int) > 0) = (decide ((acc.length : Int) > 0) || loadF (loads.drop i) b)) := by
  refine down (P := fun i => ∀ acc : List Int, acc.length ≤ i → ∃ r, Ev (fun k => spec_l11Uses.l0 k b acc (i : Int) loops loads sb so sc par code) r ∧ (decide ((r.length : Int) > 0) = (decide ((acc.length : Int) > 0) || loadF (loads.drop i) b))) ?_ ?_
  · intro acc _
    refine ⟨acc, Ev.stop fun k => by simp only [spec_l11Uses.l0]; rw [if_neg (by omega)], ?_⟩
    rw [List.drop_length]; simp [loadF]
  · intro i hi ih acc ha
    rw [loadF_cons loads i hi]
    by_cases c : (rd_T76 loads (i : Int)).f0 = b
    · obtain ⟨r, h, e⟩ := ih (acc ++ [(i : Int)]) (by simp <;> omega)
      refine ⟨r, Ev.step (fun k => ?_) h, ?_⟩
      · simp only [spec_l11Uses.l0]
        rw [if_pos (by omega), if_pos (by omega), if_pos c, if_pos (by omega), wn i (by omega)]
      · rw [e, decide_eq_true c, decide_eq_true (by simp <;> omega : ((acc ++ [(i : Int)]).length : Int) > 0)]; simp
    · obtain ⟨r, h, e⟩ := ih acc (by omega)
      refine ⟨r, Ev.step (fun k => ?_) h, ?_⟩
      · simp only [spec_l11Uses.l0]
        rw [if_pos (by omega), if_pos (by omega), if_neg c, wn i (by omega)]
      · rw [e, decide_eq_false c]; rfl
theorem touch_ev : Ev (fun k => spec_l12Touches.f k loops loads sb so sc par code b) (decide (sb = b) || loadF loads b) := by
  unfold spec_l12Touches.f
  by_cases c : sb = b
  · rw [decide_eq_true c]
    exact Ev.congr (fun k => by rw [if_pos c]) (Ev.now true)
  · rw [decide_eq_false c]
    refine Ev.congr (fun k => by rw [if_neg c]) ?_
    obtain ⟨r, h, e⟩ := uses_loop loops loads sb so sc par code b hl 0 (Nat.zero_le _) [] (Nat.le_refl _)
    refine Ev.bind (g := fun k => spec_l11Uses.f k loops loads sb so sc par code b) h ?_
    rw [e]
    exact Ev.now _
theorem loadsOf_loop : ∀ i, i ≤ loads.length → ∀ acc : Int, 0 ≤ acc → acc ≤ i → ∃ r, Ev (fun k => impl_Kernel_loadsOf.l0 k b acc loads (loads.length : Int) (i : Int)) r ∧ (decide (r > 0) = (decide (acc > 0) || loadF (loads.drop i) b)) := by
  refine down (P := fun i => ∀ acc : Int, 0 ≤ acc → acc ≤ i → ∃ r, Ev (fun k => impl_Kernel_loadsOf.l0 k b acc loads (loads.length : Int) (i : Int)) r ∧ (decide (r > 0) = (decide (acc > 0) || loadF (loads.drop i) b))) ?_ ?_
  · intro acc _ _
    refine ⟨acc, Ev.stop fun k => by simp only [impl_Kernel_loadsOf.l0]; rw [if_neg (by omega)], ?_⟩
    rw [List.drop_length]; simp [loadF]
  · intro i hi ih acc h0 h1
    rw [loadF_cons loads i hi]
    by_cases c : (rd_T76 loads (i : Int)).f0 = b
    · obtain ⟨r, h, e⟩ := ih (acc + 1) (by omega) (by omega)
      refine ⟨r, Ev.step (fun k => ?_) h, ?_⟩
      · simp only [impl_Kernel_loadsOf.l0]
        rw [if_pos (by omega), if_pos (by omega), if_pos (by omega), show ((rd_T76 loads (i : Int)).f0 == b) = true from beq_iff_eq.mpr c]
        show impl_Kernel_loadsOf.l0 k b (wrap64 (acc + 1)) loads (loads.length : Int) (wrap64 ((i : Int) + 1)) = _
        rw [w64 (by omega) (by omega), wn i (by omega)]
      · rw [e, decide_eq_true c, decide_eq_true (by omega : acc + 1 > 0)]; simp
    · obtain ⟨r, h, e⟩ := ih acc (by omega) (by omega)
      refine ⟨r, Ev.step (fun k => ?_) h, ?_⟩
      · simp only [impl_Kernel_loadsOf.l0]
        rw [if_pos (by omega), if_pos (by omega), if_pos (by omega), show ((rd_T76 loads (i : Int)).f0 == b) = false from beq_eq_false_iff_ne.mpr c]
        show impl_Kernel_loadsOf.l0 k b (wrap64 (acc + 0)) loads (loads.length : Int) (wrap64 ((i : Int) + 1)) = _
        rw [w64 (by omega) (by omega), wn i (by omega), Int.add_zero]
      · rw [e, decide_eq_false c]; rfl
theorem loadsOf_ev : ∃ r, Ev (fun k => impl_Kernel_loadsOf.f k loops loads sb so sc par code b) r ∧ decide (r > 0) = loadF loads b := by
  obtain ⟨r, h, e⟩ := loadsOf_loop loads b hl 0 (Nat.zero_le _) 0 (Int.le_refl _) (Int.le_refl _)
  exact ⟨r, h, by rw [e]; rfl⟩
end
theorem index_ev (l : List Int) (x : Int) (hl : l.length ≤ 1048576) : ∃ r, Ev (fun k => slices_Index_int_int.f k l x) r ∧ decide (r ≥ 0) = hasF l x := by
  refine down (P := fun i => ∃ r, Ev (fun k => slices_Index_int_int.l0 k l x (l.length : Int) (i : Int)) r ∧ decide (r ≥ 0) = hasF (l.drop i) x) (n := l.length) ?_ ?_ 0 (Nat.zero_le _)
  · exact ⟨-1, Ev.stop fun k => by simp only [slices_Index_int_int.l0]; rw [if_neg (by omega)], by rw [List.drop_length]; rfl⟩
  · rintro i hi ⟨r, h, e⟩
    rw [dropi l i hi, show hasF (rd l (i : Int) :: l.drop (i + 1)) x = (decide (rd l (i : Int) = x) || hasF (l.drop (i + 1)) x) from rfl]
    by_cases c : x = rd l (i : Int)
    · refine ⟨i, Ev.stop fun k => by simp only [slices_Index_int_int.l0]; rw [if_pos (by omega), if_pos (by omega), if_pos (by omega), if_pos c], ?_⟩
      rw [decide_eq_true c.symm, decide_eq_true (by omega : (i : Int) ≥ 0)]; rfl
    · refine ⟨r, Ev.step (fun k => ?_) h, by rw [e, decide_eq_false (fun h => c h.symm)]; rfl⟩
      simp only [slices_Index_int_int.l0]
      rw [if_pos (by omega), if_pos (by omega), if_pos (by omega), if_neg c, wn i (by omega)]
theorem contains_ev (l : List Int) (x : Int) (hl : l.length ≤ 1048576) : Ev (fun k => slices_Contains_int_int.f k l x) (hasF l x) := by
  obtain ⟨r, h, e⟩ := index_ev l x hl
  refine Ev.bind (g := fun k => slices_Index_int_int.f k l x) h ?_
  rw [e]; exact Ev.now _
def givenB (fx : List S71) (ins : List Int) (b : Int) : Bool := (fx.any fun f => decide (f.f0 = b)) || hasF ins b
theorem given_ev (ss ins : List Int) (fx : List S71) (ks : List S79) (outs : List Int) (b : Int) (hi : ins.length ≤ 1048576) (hf : fx.length ≤ 1048576) : Ev (fun k => spec_l12Given.f k ss ins fx ks outs b) (givenB fx ins b) := by
  unfold givenB
  refine down (P := fun i => Ev (fun k => spec_l12Given.l0 k b (i : Int) ss ins fx ks outs) (((fx.drop i).any fun f => decide (f.f0 = b)) || hasF ins b)) (n := fx.length) ?_ ?_ 0 (Nat.zero_le _)
  · rw [List.drop_length]
    refine Ev.step (f := fun k => (spec_l7Has.f k ins b).bind fun A => some A) (fun k => by simp only [spec_l12Given.l0]; rw [if_neg (by omega)]) ?_
    exact Ev.bind (has_ev ins b (by omega)) (Ev.now _)
  · intro i h ih
    rw [drop125 fx i h, List.any_cons]
    by_cases c : (rd_T71 fx (i : Int)).f0 = b
    · rw [decide_eq_true c]
      exact Ev.stop fun k => by simp only [spec_l12Given.l0]; rw [if_pos (by omega), if_pos (by omega), if_pos c]; rfl
    · rw [decide_eq_false c]
      refine Ev.step (fun k => ?_) ih
      simp only [spec_l12Given.l0]
      rw [if_pos (by omega), if_pos (by omega), if_neg c, wn i (by omega)]
theorem insS_eq : ∀ (ins gv gv' : List Int), insS ins gv = some gv' → gv' = gv ++ ins
  | [], gv, gv', h => by rw [insS] at h; cases h; simp
  | x :: r, gv, gv', h => by
    rw [insS] at h
    split at h
    · cases h
    · rw [insS_eq r _ _ h]; simp
theorem fixS_eq (ss : List Int) : ∀ (fx : List S71) (gv gv' : List Int), fixS ss fx gv = some gv' → gv' = gv ++ fx.map (·.f0)
  | [], gv, gv', h => by rw [fixS] at h; cases h; simp
  | x :: r, gv, gv', h => by
    rw [fixS] at h
    split at h
    · rw [fixS_eq ss r _ _ h]; simp
    · cases h
/-- Where the given function finds no fault, its row says what is given. -/
theorem given_row (ss ins : List Int) (fx : List S71) (h : (given_f ss ins fx).2 = true) : (given_f ss ins fx).1.length = ss.length ∧ ∀ b : Int, 0 ≤ b → b < ss.length → rdOf false (given_f ss ins fx).1 b = givenB fx ins b := by
  refine ⟨given_length ss ins fx h, ?_⟩
  unfold given_f at h ⊢
  cases e : insL ins (List.replicate ss.length false) with
  | none => rw [e] at h; cases h
  | some o0 =>
    have c : ∀ x ∈ ins, 0 ≤ x ∧ x < (ss.length : Int) := by
      have := insL_range ins (List.replicate ss.length false) (by rw [e]; simp)
      simpa using this
    rcases ins_rel ins [] _ (Rel.nil ss.length) c with ⟨_, h2⟩ | ⟨gv, o, h1, h2, hr⟩
    · rw [e] at h2; cases h2
    · rw [e] at h2 h; cases h2
      simp only at h ⊢
      rcases fix_rel ss rfl fx gv o0 hr with ⟨_, h4⟩ | ⟨gv', o', h3, h4, hr'⟩
      · rw [h4] at h; cases h
      · rw [h4]
        simp only
        intro b hb hb2
        rw [hr'.2 b hb hb2, fixS_eq ss fx gv gv' h3, insS_eq ins [] gv h1, givenB, Bool.or_comm]
        simp [hasF, List.any_append, List.any_map, Function.comp_def]
end Go.Proofs.Ytmcboiffbcnalaa.Pure
