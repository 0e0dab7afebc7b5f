/- The model's NestOk evaluated. -/
import Derived.Test.YtmcboiffbcnalaaPFnExactLivesx6
import Derived.Test.YtmcboiffbcnalaaEFnExactLivesf
namespace Go.Proofs.Ytmcboiffbcnalaa.Pure
open Go.RowKit Go.Proofs.Ytmcboiffbcnalaa.PFnExactLives Go.Proofs.YtmcboiffbcnalaaW.PrintWords Go.Proofs.YtmcboiffbcnalaaW.PrintLast Go.Proofs.YtmcboiffbcnalaaW.PrintMore
set_option linter.unusedSimpArgs false
set_option linter.unusedVariables false
section
variable (ss ins : List Int) (fx : List S71) (ks : List S79) (outs : List Int)
def tl (gv : List Int) : Bool := match fixS ss fx gv with
  | none => false
  | some gv => kersB ss (hasF gv) ks 0
theorem spec_l3 (hs : ∀ s ∈ ss, s ≤ 4096) (hk : ks.length ≤ 1048576) (hK : ∀ x ∈ ks, SmallK x) (gv : List Int) (hg : gv.length ≤ 4194304) :
    ∀ i, i ≤ ks.length → ∀ acc : Int, 0 ≤ acc → acc ≤ 65536 * (i : Int) → Ev (fun k => spec_NestOk.l3 k gv acc (i : Int) ss ins fx ks outs) (kersB ss (hasF gv) (ks.drop i) acc) := by
  refine down (P := fun i => ∀ acc : Int, 0 ≤ acc → acc ≤ 65536 * (i : Int) → Ev (fun k => spec_NestOk.l3 k gv acc (i : Int) ss ins fx ks outs) (kersB ss (hasF gv) (ks.drop i) acc)) ?_ ?_
  · intro acc _ _
    rw [List.drop_length, kersB]
    exact Ev.stop fun k => by simp only [spec_NestOk.l3]; rw [if_neg (by omega)]
  · intro i hi ih acc h0 h1
    rw [drop132 ks i hi, kersB]
    have hx := rd132_mem hK i hi
    generalize hxx : rd_T79 ks (i : Int) = x at hx
    obtain ⟨s1, s2, s3⟩ := hx
    have hp := prodF_range x.f0 1 (by omega) (by omega)
    refine Ev.step (f := fun k => (spec_l11Kernel.f k x.f0 x.f1 x.f2.f0 x.f2.f1 x.f2.f2 x.f3 x.f4 ss).bind fun t173 => (if t173 = true then ((spec_l7Has.f k gv x.f2.f0).bind fun t175 => (if t175 = true then (some false) else ((spec_l11Product.f k x.f0).bind fun t177 => (spec_NestOk.l3 k gv (wrap64 (acc + t177)) (wrap64 ((i : Int) + 1)) ss ins fx ks outs)))) else (some false))) (fun k => ?_) ?_
    · simp only [spec_NestOk.l3, hxx]; rw [if_pos (by omega), if_pos (by omega)]
    · refine Ev.bind (specK_ev ss x.f0 x.f1 x.f2.f0 x.f2.f1 x.f2.f2 x.f3 x.f4 hs s1 s2 s3) ?_
      cases kerB ss x.f0 x.f1 x.f2.f0 x.f2.f1 x.f2.f2 x.f4 with
      | false => exact Ev.now _
      | true =>
        refine Ev.congr (f := fun k => (spec_l7Has.f k gv x.f2.f0).bind fun t175 => (if t175 = true then (some false) else ((spec_l11Product.f k x.f0).bind fun t177 => (spec_NestOk.l3 k gv (wrap64 (acc + t177)) (wrap64 ((i : Int) + 1)) ss ins fx ks outs)))) (fun k => by rw [if_pos rfl]) ?_
        refine Ev.bind (has_ev gv x.f2.f0 hg) ?_
        show Ev _ (if (true && !(hasF gv x.f2.f0)) = true then _ else _)
        rw [show (gv.any fun y => decide (y = x.f2.f0)) = hasF gv x.f2.f0 from rfl]
        cases hasF gv x.f2.f0 with
        | true => exact Ev.now _
        | false =>
          refine Ev.congr (f := fun k => (spec_l11Product.f k x.f0).bind fun t177 => (spec_NestOk.l3 k gv (wrap64 (acc + t177)) (wrap64 ((i : Int) + 1)) ss ins fx ks outs)) (fun k => by rw [if_neg (by decide)]) ?_
          refine Ev.bind (prod_ev x.f0 s1) ?_
          refine Ev.congr (fun k => ?_) (ih (acc + prodF 1 x.f0) (by omega) (by omega))
          rw [w64 (by omega) (by omega), wn i (by omega)]
theorem spec_l2 (hs : ∀ s ∈ ss, s ≤ 4096) (hf : fx.length ≤ 1048576) (hk : ks.length ≤ 1048576) (hK : ∀ x ∈ ks, SmallK x) :
    ∀ i, i ≤ fx.length → ∀ gv : List Int, gv.length ≤ 1048576 + i → Ev (fun k => spec_NestOk.l2 k gv (i : Int) ss ins fx ks outs) (tl ss (fx.drop i) ks gv) := by
  refine down (P := fun i => ∀ gv : List Int, gv.length ≤ 1048576 + i → Ev (fun k => spec_NestOk.l2 k gv (i : Int) ss ins fx ks outs) (tl ss (fx.drop i) ks gv)) ?_ ?_
  · intro gv hg
    rw [List.drop_length, tl, fixS]
    refine Ev.step (fun k => ?_) (spec_l3 ss ins fx ks outs hs hk hK gv (by omega) 0 (Nat.zero_le _) 0 (by omega) (by omega))
    simp only [spec_NestOk.l2]; rw [if_neg (by omega)]; rfl
  · intro i hi ih gv hg
    rw [drop125 fx i hi, tl, fixS]
    generalize hff : rd_T71 fx (i : Int) = f
    have no : Ev (fun k => spec_NestOk.j4 k gv (i : Int) f.f0 true ss ins fx ks outs) false := Ev.stop fun k => by simp only [spec_NestOk.j4, if_true]
    have go : Ev (fun k => spec_NestOk.j4 k gv (i : Int) f.f0 false ss ins fx ks outs) (tl ss (fx.drop (i + 1)) ks (gv ++ [f.f0])) := by
      refine Ev.step (fun k => ?_) (ih (gv ++ [f.f0]) (by simp; omega))
      simp only [spec_NestOk.j4]
      rw [if_neg (by decide), if_pos (by omega), wn i (by omega)]
    by_cases c1 : f.f0 < 0
    · rw [decide_eq_false (by omega : ¬ 0 ≤ f.f0)]
      refine Ev.step (fun k => ?_) no
      simp only [spec_NestOk.l2, hff]; rw [if_pos (by omega), if_pos (by omega), if_pos c1]
    · rw [decide_eq_true (by omega : 0 ≤ f.f0)]
      by_cases c2 : f.f0 ≥ (ss.length : Int)
      · rw [decide_eq_false (by omega : ¬ f.f0 < ss.length)]
        refine Ev.step (fun k => ?_) no
        simp only [spec_NestOk.l2, hff]; rw [if_pos (by omega), if_pos (by omega), if_neg c1, if_pos c2]
      · rw [decide_eq_true (by omega : f.f0 < ss.length)]
        refine Ev.step (f := fun k => (spec_l7Has.f k gv f.f0).bind fun t163 => (if t163 = true then (spec_NestOk.j4 k gv (i : Int) f.f0 true ss ins fx ks outs) else (if (f.f1.length : Int) = (rd ss f.f0) then (if (f.f1.length : Int) > 0 then ((spec_l5RowOk.f k f.f1).bind fun t168 => (spec_NestOk.j4 k gv (i : Int) f.f0 (!t168) ss ins fx ks outs)) else (spec_NestOk.j4 k gv (i : Int) f.f0 false ss ins fx ks outs)) else (spec_NestOk.j4 k gv (i : Int) f.f0 true ss ins fx ks outs)))) (fun k => ?_) ?_
        · simp only [spec_NestOk.l2, hff]; rw [if_pos (by omega), if_pos (by omega), if_neg c1, if_neg c2, if_pos (show 0 ≤ f.f0 by omega), if_pos (show f.f0 < (ss.length : Int) by omega)]
        · refine Ev.bind (has_ev gv f.f0 (by omega)) ?_
          rw [show (gv.any fun y => decide (y = f.f0)) = hasF gv f.f0 from rfl]
          cases hasF gv f.f0 with
          | true => exact Ev.congr (fun k => by rw [if_pos rfl]) no
          | false =>
            by_cases c3 : (f.f1.length : Int) = rd ss f.f0
            · rw [decide_eq_true c3]
              have hsb : rd ss f.f0 ≤ 4096 := by
                have e : rd ss f.f0 = ss[f.f0.toNat]'(by omega) := by
                  rw [← rd_lt ss f.f0.toNat (by omega), Int.toNat_of_nonneg (by omega)]
                rw [e]; exact hs _ (List.getElem_mem _)
              by_cases c4 : (f.f1.length : Int) > 0
              · refine Ev.congr (f := fun k => (spec_l5RowOk.f k f.f1).bind fun t168 => (spec_NestOk.j4 k gv (i : Int) f.f0 (!t168) ss ins fx ks outs)) (fun k => by rw [if_neg (by decide), if_pos c3, if_pos c4]) ?_
                refine Ev.bind (rowOk_ev f.f1 (by omega) (by omega)) ?_
                cases numsOk f.f1 with
                | true => exact go
                | false => exact no
              · have e0 : f.f1 = [] := List.eq_nil_of_length_eq_zero (by omega)
                rw [show numsOk f.f1 = true by rw [e0]; rfl]
                exact Ev.congr (fun k => by rw [if_neg (by decide), if_pos c3, if_neg c4]) go
            · rw [decide_eq_false c3]
              exact Ev.congr (fun k => by rw [if_neg (by decide), if_neg c3]) no
theorem spec_l1 (hs : ∀ s ∈ ss, s ≤ 4096) (hi : ins.length ≤ 1048576) (hf : fx.length ≤ 1048576) (hk : ks.length ≤ 1048576) (hK : ∀ x ∈ ks, SmallK x) :
    ∀ i, i ≤ ins.length → ∀ gv : List Int, gv.length ≤ i → Ev (fun k => spec_NestOk.l1 k gv (i : Int) ss ins fx ks outs) (match insS (ins.drop i) gv with | none => false | some gv => tl ss fx ks gv) := by
  refine down (P := fun i => ∀ gv : List Int, gv.length ≤ i → Ev (fun k => spec_NestOk.l1 k gv (i : Int) ss ins fx ks outs) (match insS (ins.drop i) gv with | none => false | some gv => tl ss fx ks gv)) ?_ ?_
  · intro gv hg
    rw [List.drop_length, insS]
    refine Ev.step (fun k => ?_) (spec_l2 ss ins fx ks outs hs hf hk hK 0 (Nat.zero_le _) gv (by omega))
    simp only [spec_NestOk.l1]; rw [if_neg (by omega)]; rfl
  · intro i hi2 ih gv hg
    rw [dropi ins i hi2, insS]
    refine Ev.step (f := fun k => (spec_l7Has.f k gv (rd ins (i : Int))).bind fun t157 => (if t157 = true then (some false) else (if gv.length < 17592186044416 then (spec_NestOk.l1 k (gv ++ [rd ins (i : Int)]) (wrap64 ((i : Int) + 1)) ss ins fx ks outs) else (none)))) (fun k => ?_) ?_
    · simp only [spec_NestOk.l1]; rw [if_pos (by omega), if_pos (by omega)]
    · refine Ev.bind (has_ev gv (rd ins (i : Int)) (by omega)) ?_
      rw [show (gv.any fun y => decide (y = rd ins (i : Int))) = hasF gv (rd ins (i : Int)) from rfl]
      cases hasF gv (rd ins (i : Int)) with
      | true => exact Ev.now _
      | false =>
        refine Ev.congr (fun k => ?_) (ih (gv ++ [rd ins (i : Int)]) (by simp; omega))
        rw [if_neg (by decide), if_pos (by omega), wn i (by omega)]
theorem spec_l0 (hl : ss.length ≤ 1048576) (X : Bool) : ∀ i, i ≤ ss.length → (sizeOk (ss.drop i) = true → Ev (fun k => spec_NestOk.l1 k [] 0 ss ins fx ks outs) X) → Ev (fun k => spec_NestOk.l0 k (i : Int) ss ins fx ks outs) (sizeOk (ss.drop i) && X) := by
  refine down (P := fun i => (sizeOk (ss.drop i) = true → Ev (fun k => spec_NestOk.l1 k [] 0 ss ins fx ks outs) X) → Ev (fun k => spec_NestOk.l0 k (i : Int) ss ins fx ks outs) (sizeOk (ss.drop i) && X)) ?_ ?_
  · intro hX
    rw [List.drop_length] at hX ⊢
    refine Ev.step (fun k => ?_) (hX rfl)
    simp only [spec_NestOk.l0]; rw [if_neg (by omega)]
  · intro i hi ih hX
    unfold sizeOk at ih hX ⊢
    rw [dropi ss i hi, List.all_cons] at hX ⊢
    by_cases c1 : rd ss (i : Int) < 0
    · rw [decide_eq_false (by omega : ¬ 0 ≤ rd ss (i : Int))]
      exact Ev.stop fun k => by simp only [spec_NestOk.l0]; rw [if_pos (by omega), if_pos (by omega), if_pos c1]; rfl
    · rw [decide_eq_true (by omega : 0 ≤ rd ss (i : Int))] at hX ⊢
      by_cases c2 : rd ss (i : Int) > 4096
      · rw [decide_eq_false (by omega : ¬ rd ss (i : Int) ≤ 4096)]
        exact Ev.stop fun k => by simp only [spec_NestOk.l0]; rw [if_pos (by omega), if_pos (by omega), if_neg c1, if_pos c2]; rfl
      · rw [decide_eq_true (by omega : rd ss (i : Int) ≤ 4096)] at hX ⊢
        refine Ev.step (fun k => ?_) (ih hX)
        simp only [spec_NestOk.l0]
        rw [if_pos (by omega), if_pos (by omega), if_neg c1, if_neg c2, wn i (by omega)]
theorem specNest_ev (hl : ss.length ≤ 1048576) (hi : ins.length ≤ 1048576) (hf : fx.length ≤ 1048576) (ho : outs.length ≤ 1048576) (hk : ks.length ≤ 1048576) (hK : ∀ x ∈ ks, SmallK x) : Ev (fun k => spec_NestOk.f k ss ins fx ks outs) (nestB ss ins fx ks outs) := by
  have no : Ev (fun k => spec_NestOk.j0 k true ss ins fx ks outs) false := Ev.stop fun k => by simp only [spec_NestOk.j0, if_true]
  unfold nestB lensOk
  rw [← tail_eq]
  by_cases c1 : ss.length ≤ 200
  · rw [decide_eq_true c1]
    by_cases c2 : ins.length ≤ 40
    · rw [decide_eq_true c2]
      by_cases c3 : outs.length ≤ 40
      · rw [decide_eq_true c3]
        by_cases c4 : ks.length ≤ 400
        · rw [decide_eq_true c4]
          refine Ev.congr (f := fun k => (spec_l4Within.f k ins (ss.length : Int)).bind fun t149 => (if t149 = true then ((spec_l4Within.f k outs (ss.length : Int)).bind fun t150 => (spec_NestOk.j0 k (!t150) ss ins fx ks outs)) else (spec_NestOk.j0 k true ss ins fx ks outs))) (fun k => ?_) ?_
          · unfold spec_NestOk.f; rw [if_neg (by omega), if_neg (by omega), if_neg (by omega), if_neg (by omega)]
          · refine Ev.bind (within_ev ins ss.length hi) ?_
            rw [show (ins.all fun x => decide (0 ≤ x) && decide (x < (ss.length : Int))) = inAll ss.length ins from rfl]
            cases inAll ss.length ins with
            | false =>
              rw [show (true && (true && (true && true)) && (sizeOk ss && (inAll ss.length outs && (false && tailS ss ins fx ks)))) = false by cases sizeOk ss <;> cases inAll ss.length outs <;> rfl]
              exact Ev.congr (fun k => by rw [if_neg (by decide)]) no
            | true =>
              refine Ev.congr (f := fun k => (spec_l4Within.f k outs (ss.length : Int)).bind fun t150 => (spec_NestOk.j0 k (!t150) ss ins fx ks outs)) (fun k => by rw [if_pos rfl]) ?_
              refine Ev.bind (within_ev outs ss.length ho) ?_
              rw [show (outs.all fun x => decide (0 ≤ x) && decide (x < (ss.length : Int))) = inAll ss.length outs from rfl]
              cases inAll ss.length outs with
              | false =>
                rw [show (true && (true && (true && true)) && (sizeOk ss && (false && (true && tailS ss ins fx ks)))) = false by cases sizeOk ss <;> rfl]
                exact no
              | true =>
                refine Ev.step (fun k => ?_) (spec_l0 ss ins fx ks outs hl (tailS ss ins fx ks) 0 (Nat.zero_le _) (fun hS => spec_l1 ss ins fx ks outs (sizes_le hS) hi hf hk hK 0 (Nat.zero_le _) [] (Nat.zero_le _)))
                simp only [spec_NestOk.j0]; rw [if_neg (by decide)]; rfl
        · rw [decide_eq_false c4]
          refine Ev.congr (fun k => ?_) no
          unfold spec_NestOk.f; rw [if_neg (by omega), if_neg (by omega), if_neg (by omega), if_pos (by omega)]
      · rw [decide_eq_false c3]
        refine Ev.congr (fun k => ?_) no
        unfold spec_NestOk.f; rw [if_neg (by omega), if_neg (by omega), if_pos (by omega)]
    · rw [decide_eq_false c2]
      refine Ev.congr (fun k => ?_) no
      unfold spec_NestOk.f; rw [if_neg (by omega), if_pos (by omega)]
  · rw [decide_eq_false c1]
    refine Ev.congr (fun k => ?_) no
    unfold spec_NestOk.f; rw [if_pos (by omega)]
end

end Go.Proofs.Ytmcboiffbcnalaa.Pure
