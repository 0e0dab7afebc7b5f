/- A kernel: the model's test and the given one. -/
import Derived.Test.YtmcboiffbcnalaaPFnExactLivesx5
import Derived.Test.YtmcboiffbcnalaaPFnExactLivesx15
import Derived.Test.YtmcboiffbcnalaaEFnExactLivesb
import Derived.Test.YtmcboiffbcnalaaEFnExactLivesc
namespace Go.Proofs.Ytmcboiffbcnalaa.Pure
open Go.RowKit Go.Proofs.Ytmcboiffbcnalaa.PFnExactLives Go.Proofs.YtmcboiffbcnalaaW.PrintWords Go.Proofs.YtmcboiffbcnalaaW.PrintLast Go.Proofs.YtmcboiffbcnalaaW.PrintMore
set_option linter.unusedSimpArgs false
set_option linter.unusedVariables false
theorem drop129 (l : List S76) (i : Nat) (h : i < l.length) : l.drop i = rd_T76 l (i : Int) :: l.drop (i + 1) := by
  rw [show rd_T76 l (i : Int) = l[i] from getc z76 l i h]; exact List.drop_eq_getElem_cons h
def kerB (ss loops : List Int) (loads : List S76) (sb so : Int) (sc : List Int) (code : List S122) : Bool :=
  decide (loops.length ≤ 12) && (decide (loads.length ≤ 30) && (!(decide (prodF 1 loops = 0)) && (codeB loads.length code && (accB ss loops sb so sc && (loads.all fun a => accB ss loops a.f0 a.f1 a.f2 && !(decide (a.f0 = sb)))))))
section
variable (ss loops : List Int) (loads : List S76) (sb so : Int) (sc : List Int) (par : Bool) (code : List S122) (hs : ∀ s ∈ ss, s ≤ 4096) (h1 : loops.length ≤ 1048576) (h2 : loads.length ≤ 1048576) (h3 : code.length ≤ 1048576)
include hs h1 h2
theorem specK_loop (hd : ∀ d ∈ loops, 1 ≤ d ∧ d ≤ 65536) : ∀ i, i ≤ loads.length → Ev (fun k => spec_l11Kernel.l0 k ss (i : Int) loops loads sb so sc par code) ((loads.drop i).all fun a => accB ss loops a.f0 a.f1 a.f2 && !(decide (a.f0 = sb))) := by
  refine down (P := fun i => Ev (fun k => spec_l11Kernel.l0 k ss (i : Int) loops loads sb so sc par code) ((loads.drop i).all fun a => accB ss loops a.f0 a.f1 a.f2 && !(decide (a.f0 = sb)))) ?_ ?_
  · rw [List.drop_length]
    exact Ev.stop fun k => by simp only [spec_l11Kernel.l0]; rw [if_neg (by omega)]; rfl
  · intro i hi ih
    rw [drop129 loads i hi, List.all_cons]
    generalize ha : rd_T76 loads (i : Int) = a
    refine Ev.step (f := fun k => (spec_l11Access.f k a.f0 a.f1 a.f2 loops ss).bind fun t => if t = true then (if a.f0 = sb then some false else spec_l11Kernel.l0 k ss (wrap64 ((i : Int) + 1)) loops loads sb so sc par code) else some false) (fun k => ?_) ?_
    · simp only [spec_l11Kernel.l0, ha]; rw [if_pos (by omega), if_pos (by omega)]
    · refine Ev.bind (acc_ev ss loops a.f0 a.f1 a.f2 hd h1 hs) ?_
      cases accB ss loops a.f0 a.f1 a.f2 with
      | false => exact Ev.now _
      | true =>
        by_cases c : a.f0 = sb
        · rw [decide_eq_true c]
          exact Ev.congr (f := fun _ => some false) (fun k => by rw [if_pos rfl, if_pos c]) (Ev.now false)
        · rw [decide_eq_false c]
          exact Ev.congr (fun k => by rw [if_pos rfl, if_neg c, wn i (by omega)]) ih
include h3
theorem specK_ev : Ev (fun k => spec_l11Kernel.f k loops loads sb so sc par code ss) (kerB ss loops loads sb so sc code) := by
  have no : Ev (fun k => spec_l11Kernel.j0 k ss true loops loads sb so sc par code) false := Ev.stop fun k => by simp only [spec_l11Kernel.j0, if_true]
  unfold kerB
  by_cases c1 : loops.length ≤ 12
  · rw [decide_eq_true c1]
    by_cases c2 : loads.length ≤ 30
    · rw [decide_eq_true c2]
      refine Ev.congr (f := fun k => (spec_l11Product.f k loops).bind fun t142 => (if t142 = 0 then (spec_l11Kernel.j0 k ss true loops loads sb so sc par code) else ((spec_l11Code.f k code (loads.length : Int)).bind fun t143 => (if t143 = true then ((spec_l11Access.f k sb so sc loops ss).bind fun t144 => (spec_l11Kernel.j0 k ss (!t144) loops loads sb so sc par code)) else (spec_l11Kernel.j0 k ss true loops loads sb so sc par code))))) (fun k => ?_) ?_
      · unfold spec_l11Kernel.f; rw [if_neg (by omega), if_neg (by omega)]
      · refine Ev.bind (prod_ev loops h1) ?_
        by_cases c3 : prodF 1 loops = 0
        · rw [decide_eq_true c3]
          exact Ev.congr (fun k => by rw [if_pos c3]) no
        · rw [decide_eq_false c3]
          have hd := prodF_dims loops 1 (by omega) (by omega) c3
          refine Ev.congr (f := fun k => (spec_l11Code.f k code (loads.length : Int)).bind fun t143 => (if t143 = true then ((spec_l11Access.f k sb so sc loops ss).bind fun t144 => (spec_l11Kernel.j0 k ss (!t144) loops loads sb so sc par code)) else (spec_l11Kernel.j0 k ss true loops loads sb so sc par code))) (fun k => by rw [if_neg c3]) ?_
          refine Ev.bind (scev code loads.length h3) ?_
          cases codeB loads.length code with
          | false => exact Ev.congr (fun k => by rw [if_neg (by decide)]) no
          | true =>
            refine Ev.congr (f := fun k => (spec_l11Access.f k sb so sc loops ss).bind fun t144 => (spec_l11Kernel.j0 k ss (!t144) loops loads sb so sc par code)) (fun k => by rw [if_pos rfl]) ?_
            refine Ev.bind (acc_ev ss loops sb so sc hd h1 hs) ?_
            cases accB ss loops sb so sc with
            | false => exact no
            | true =>
              refine Ev.step (fun k => ?_) (specK_loop ss loops loads sb so sc par code hs h1 h2 hd 0 (Nat.zero_le _))
              simp only [spec_l11Kernel.j0]; rw [if_neg (by decide)]; rfl
    · rw [decide_eq_false c2]
      refine Ev.congr (fun k => ?_) no
      unfold spec_l11Kernel.f; rw [if_neg (by omega), if_pos (by omega)]
  · rw [decide_eq_false c1]
    refine Ev.congr (fun k => ?_) no
    unfold spec_l11Kernel.f; rw [if_pos (by omega)]
end
section
variable (ss ins : List Int) (fx : List S71) (ks : List S79) (outs loops : List Int) (loads : List S76) (sb so : Int) (sc : List Int) (par : Bool) (code : List S122) (g : List Bool) (p : Int)
theorem implK_l1 (h2 : loads.length ≤ 1048576) (hg : g.length = ss.length) (hb : 0 ≤ sb) (hb2 : sb < ss.length) : ∀ i, i ≤ loads.length → Ev (fun k => impl_Nest_kernelOk.l1 k g p loads (loads.length : Int) (i : Int) loops loads sb so sc par code) (if ((loads.drop i).all fun a => !(decide (a.f0 = sb))) = true then (p, !(rdOf false g sb)) else (0, false)) := by
  refine down (P := fun i => Ev (fun k => impl_Nest_kernelOk.l1 k g p loads (loads.length : Int) (i : Int) loops loads sb so sc par code) (if ((loads.drop i).all fun a => !(decide (a.f0 = sb))) = true then (p, !(rdOf false g sb)) else (0, false))) ?_ ?_
  · rw [List.drop_length, List.all_nil, if_pos rfl]
    exact Ev.stop fun k => by simp only [impl_Nest_kernelOk.l1]; rw [if_neg (by omega), if_pos hb, if_pos (by omega)]
  · intro i hi ih
    rw [drop129 loads i hi, List.all_cons]
    by_cases c : (rd_T76 loads (i : Int)).f0 = sb
    · rw [decide_eq_true c, if_neg (by simp)]
      exact Ev.stop fun k => by simp only [impl_Nest_kernelOk.l1]; rw [if_pos (by omega), if_pos (by omega), if_pos (by omega), if_pos c]
    · rw [decide_eq_false c]
      refine Ev.step (fun k => ?_) ih
      simp only [impl_Nest_kernelOk.l1]
      rw [if_pos (by omega), if_pos (by omega), if_pos (by omega), if_neg c, wn i (by omega)]
theorem implK_l0 (hs : ∀ s ∈ ss, s ≤ 4096) (h1 : loops.length ≤ 1048576) (h2 : loads.length ≤ 1048576) (hg : g.length = ss.length) (hd : ∀ d ∈ loops, 1 ≤ d ∧ d ≤ 65536) (y : List S76) (hy : y = loads ++ [⟨sb, so, sc⟩]) :
    ∀ i, i ≤ y.length → (loads.length < i → 0 ≤ sb ∧ sb < ss.length) → Ev (fun k => impl_Nest_kernelOk.l0 k g p y (y.length : Int) (i : Int) ss ins fx ks outs loops loads sb so sc par code) (if (((y.drop i).all fun a => accB ss loops a.f0 a.f1 a.f2) && (loads.all fun a => !(decide (a.f0 = sb)))) = true then (p, !(rdOf false g sb)) else (0, false)) := by
  have hyl : y.length = loads.length + 1 := by rw [hy]; simp
  refine down (P := fun i => (loads.length < i → 0 ≤ sb ∧ sb < ss.length) → Ev (fun k => impl_Nest_kernelOk.l0 k g p y (y.length : Int) (i : Int) ss ins fx ks outs loops loads sb so sc par code) (if (((y.drop i).all fun a => accB ss loops a.f0 a.f1 a.f2) && (loads.all fun a => !(decide (a.f0 = sb)))) = true then (p, !(rdOf false g sb)) else (0, false))) ?_ ?_
  · intro hb
    obtain ⟨hb, hb2⟩ := hb (by omega)
    rw [List.drop_length, List.all_nil, Bool.true_and]
    refine Ev.step (fun k => ?_) (implK_l1 ss loops loads sb so sc par code g p h2 hg hb hb2 0 (Nat.zero_le _))
    simp only [impl_Nest_kernelOk.l0]; rw [if_neg (by omega)]; rfl
  · intro i hi ih hb
    have hst : i = loads.length → rd_T76 y (i : Int) = ⟨sb, so, sc⟩ := fun e => by
      rw [show rd_T76 y (i : Int) = y[i] from getc z76 y i hi]
      subst hy; subst e; simp
    rw [drop129 y i hi, List.all_cons]
    generalize ha : rd_T76 y (i : Int) = a at hst
    have no : Ev (fun k => impl_Nest_kernelOk.j2 k g p y (y.length : Int) (i : Int) true ss ins fx ks outs loops loads sb so sc par code) (0, false) := Ev.stop fun k => by simp only [impl_Nest_kernelOk.j2, if_true]
    unfold accB at ih ⊢
    by_cases c1 : a.f0 < 0
    · rw [decide_eq_false (by omega : ¬ 0 ≤ a.f0), if_neg (by simp)]
      refine Ev.step (fun k => ?_) no
      simp only [impl_Nest_kernelOk.l0, ha]; rw [if_pos (by omega), if_pos (by omega), if_pos (by omega), if_pos c1]
    · rw [decide_eq_true (by omega : 0 ≤ a.f0)]
      by_cases c2 : a.f0 ≥ (ss.length : Int)
      · rw [decide_eq_false (by omega : ¬ a.f0 < ss.length), if_neg (by simp)]
        refine Ev.step (fun k => ?_) no
        simp only [impl_Nest_kernelOk.l0, ha]; rw [if_pos (by omega), if_pos (by omega), if_pos (by omega), if_neg c1, if_pos c2]
      · rw [decide_eq_true (by omega : a.f0 < ss.length)]
        have hsb : rd ss a.f0 ≤ 4096 := by
          have e : rd ss a.f0 = ss[a.f0.toNat]'(by omega) := by
            rw [← rd_lt ss a.f0.toNat (by omega), Int.toNat_of_nonneg (by omega)]
          rw [e]; exact hs _ (List.getElem_mem _)
        refine Ev.step (f := fun k => (impl_Access_fitsIn.f k a.f0 a.f1 a.f2 loops (rd ss a.f0)).bind fun t => impl_Nest_kernelOk.j2 k g p y (y.length : Int) (i : Int) (!t) ss ins fx ks outs loops loads sb so sc par code) (fun k => ?_) ?_
        · simp only [impl_Nest_kernelOk.l0, ha]; rw [if_pos (by omega), if_pos (by omega), if_pos (by omega), if_neg c1, if_neg c2, if_pos (by omega), if_pos (by omega)]
        · refine Ev.bind (fits_ev a.f0 a.f1 (rd ss a.f0) a.f2 loops hd h1 (by omega)) ?_
          cases fitB (rd ss a.f0) a.f1 a.f2 loops with
          | false => rw [if_neg (by simp)]; exact no
          | true =>
            refine Ev.step (fun k => ?_) (ih (fun hlt => ?_))
            · simp only [impl_Nest_kernelOk.j2]
              rw [if_neg (by decide), wn i (by omega)]
            · by_cases e : i = loads.length
              · have := hst e
                subst this
                have c1' : ¬ sb < 0 := c1
                have c2' : ¬ sb ≥ (ss.length : Int) := c2
                exact ⟨by omega, by omega⟩
              · exact hb (by omega)
end
theorem all_and {α : Type} (l : List α) (f h : α → Bool) : (l.all fun a => f a && h a) = (l.all f && l.all h) := by
  induction l with
  | nil => rfl
  | cons a r ih => simp only [List.all_cons, ih]; cases f a <;> cases h a <;> simp
theorem implK_ev (ss ins : List Int) (fx : List S71) (ks : List S79) (outs loops : List Int) (loads : List S76) (sb so : Int) (sc : List Int) (par : Bool) (code : List S122) (g : List Bool) (hs : ∀ s ∈ ss, s ≤ 4096) (h1 : loops.length ≤ 1048576) (h2 : loads.length ≤ 1048576) (h3 : code.length ≤ 1048576) (hg : g.length = ss.length) :
    Ev (fun k => impl_Nest_kernelOk.f k ss ins fx ks outs loops loads sb so sc par code g) (if kerB ss loops loads sb so sc code = true then (prodF 1 loops, !(rdOf false g sb)) else (0, false)) := by
  have no : ∀ p, Ev (fun k => impl_Nest_kernelOk.j0 k g p true ss ins fx ks outs loops loads sb so sc par code) (0, false) := fun p => Ev.stop fun k => by simp only [impl_Nest_kernelOk.j0, if_true]
  unfold kerB impl_Nest_kernelOk.f
  refine Ev.bind (work_ev loops h1) ?_
  unfold workR
  by_cases c3 : prodF 1 loops = 0
  · rw [if_pos c3, decide_eq_true c3, if_neg (by simp)]
    exact Ev.congr (fun k => by rw [if_neg (by decide)]) (no 0)
  · rw [if_neg c3, decide_eq_false c3]
    have hd := prodF_dims loops 1 (by omega) (by omega) c3
    by_cases c1 : loops.length ≤ 12
    · rw [decide_eq_true c1, decide_eq_true (by omega : (loops.length : Int) ≤ 12)]
      by_cases c2 : loads.length ≤ 30
      · rw [decide_eq_true c2]
        refine Ev.congr (f := fun k => (impl_codeOk.f k code (loads.length : Int)).bind fun t301 => (impl_Nest_kernelOk.j0 k g (prodF 1 loops) (!t301) ss ins fx ks outs loops loads sb so sc par code)) (fun k => by rw [if_pos rfl, if_neg (by omega)]) ?_
        refine Ev.bind (icev code loads.length h3) ?_
        cases codeB loads.length code with
        | false => rw [if_neg (by simp)]; exact no _
        | true =>
          refine Ev.step (f := fun k => impl_Nest_kernelOk.l0 k g (prodF 1 loops) (loads ++ [⟨sb, so, sc⟩]) ((loads ++ [(⟨sb, so, sc⟩ : S76)]).length : Int) 0 ss ins fx ks outs loops loads sb so sc par code) (fun k => ?_) ?_
          · simp only [impl_Nest_kernelOk.j0, impl_Access.f, Option.bind_some]
            rw [if_neg (by decide), if_pos (by simp; omega)]
            simp only [Option.bind_some, List.nil_append]
            rw [if_pos (by simp; omega)]
          · have h := implK_l0 ss ins fx ks outs loops loads sb so sc par code g (prodF 1 loops) hs h1 h2 hg hd _ rfl 0 (Nat.zero_le _) (fun hh => by omega)
            rw [List.drop_zero, List.all_append, List.all_cons, List.all_nil, Bool.and_true] at h
            rw [all_and]
            have e : (true && (true && (!false && (true && (accB ss loops sb so sc && ((loads.all fun a => accB ss loops a.f0 a.f1 a.f2) && (loads.all fun a => !(decide (a.f0 = sb)))))))))
                = (((loads.all fun a => accB ss loops a.f0 a.f1 a.f2) && accB ss loops sb so sc) && (loads.all fun a => !(decide (a.f0 = sb)))) := by
              cases accB ss loops sb so sc <;> cases (loads.all fun a => accB ss loops a.f0 a.f1 a.f2) <;> cases (loads.all fun a => !(decide (a.f0 = sb))) <;> rfl
            rw [e]; exact h
      · rw [decide_eq_false c2, if_neg (by simp)]
        exact Ev.congr (fun k => by rw [if_pos rfl, if_pos (by omega)]) (no _)
    · rw [decide_eq_false c1, decide_eq_false (by omega : ¬ (loops.length : Int) ≤ 12), if_neg (by simp)]
      exact Ev.congr (fun k => by rw [if_neg (by simp)]) (no _)

end Go.Proofs.Ytmcboiffbcnalaa.Pure
