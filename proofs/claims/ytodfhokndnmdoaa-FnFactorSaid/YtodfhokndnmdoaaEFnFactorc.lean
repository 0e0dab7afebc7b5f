/- Gradients and states that can be, Norm and Clip: both tellings compute the same. -/
import Derived.Test.YtodfhokndnmdoaaEFnFactorb
import Derived.Test.YtodfhokndnmdoaaPFnFactorx7
import Derived.Test.YtodfhokndnmdoaaPFnFactorx8
namespace Go.Proofs.Ytodfhokndnmdoaa.Pure
open Go.RowKit Go.Proofs.Ytodfhokndnmdoaa.PFnFactor Go.Proofs.YtodfhokndnmdoaaW.PrintWords Go.Proofs.YtodfhokndnmdoaaW.PrintLast Go.Proofs.YtodfhokndnmdoaaW.PrintMore
set_option linter.unusedSimpArgs false
set_option linter.unusedVariables false

def gOk (l : List Int) : Bool := allIn (-16777216) 16777216 l && decide ((l.length : Int) ≤ 4096)
theorem all_step (lo hi : Int) (l : List Int) (i : Nat) (h : i < l.length) : allIn lo hi (l.drop i) = (inR lo hi (rd l (i : Int)) && allIn lo hi (l.drop (i + 1))) := by
  unfold allIn
  rw [dropi l i h, List.all_cons]
theorem gradS (l : List Int) (hl : l.length ≤ 1048576) : Ev (fun k => spec_l15Grad.f k l) (gOk l) := by
  refine down (P := fun i => Ev (fun k => spec_l15Grad.l0 k l (i : Int)) (allIn (-16777216) 16777216 (l.drop i) && decide ((l.length : Int) ≤ 4096))) (n := l.length) ?_ ?_ 0 (Nat.zero_le _)
  · rw [List.drop_length]
    exact Ev.stop fun k => by simp only [spec_l15Grad.l0]; rw [if_neg (by omega)]; rfl
  · intro i hi ih
    rw [all_step _ _ l i hi]
    cases c : inR (-16777216) 16777216 (rd l (i : Int)) with
    | false =>
      exact Ev.stop fun k => by simp only [spec_l15Grad.l0, l5In_val, c, Option.bind_some]; rw [if_pos (by omega), if_pos (by omega), if_neg (by decide)]; rfl
    | true =>
      rw [Bool.true_and]
      refine Ev.step (fun k => ?_) ih
      simp only [spec_l15Grad.l0, l5In_val, c, Option.bind_some]
      rw [if_pos (by omega), if_pos (by omega), if_pos trivial, wn i (by omega)]
theorem gradI (l : List Int) (hl : l.length ≤ 1048576) : Ev (fun k => impl_gradOk.f k l) (gOk l) := by
  refine down (P := fun i => Ev (fun k => impl_gradOk.l0 k l l (l.length : Int) (i : Int)) (allIn (-16777216) 16777216 (l.drop i) && decide ((l.length : Int) ≤ 4096))) (n := l.length) ?_ ?_ 0 (Nat.zero_le _)
  · rw [List.drop_length]
    exact Ev.stop fun k => by simp only [impl_gradOk.l0]; rw [if_neg (by omega)]; rfl
  · intro i hi ih
    rw [all_step _ _ l i hi]
    cases c : inR (-16777216) 16777216 (rd l (i : Int)) with
    | false =>
      exact Ev.stop fun k => by simp only [impl_gradOk.l0, impl_isGrad.f, within_val, c, Option.bind_some]; rw [if_pos (by omega), if_pos (by omega), if_pos (by omega), if_neg (by decide)]; rfl
    | true =>
      rw [Bool.true_and]
      refine Ev.step (fun k => ?_) ih
      simp only [impl_gradOk.l0, impl_isGrad.f, within_val, c, Option.bind_some]
      rw [if_pos (by omega), if_pos (by omega), if_pos (by omega), if_pos trivial, wn i (by omega)]
/-! ### the sum of squares -/
def sqs : List Int → Int → Int
  | [], a => a
  | x :: t, a => sqs t (wrap64 (a + wrap64 (x * x)))
noncomputable def normV (l : List Int) : Int := rootV (sqs l 0)
theorem normS (l : List Int) (hl : l.length ≤ 1048576) (hg : gOk l = true) : Ev (fun k => spec_Norm.f k l) (normV l) := by
  refine down (P := fun i => ∀ a, Ev (fun k => spec_Norm.l0 k l a (i : Int)) (rootV (sqs (l.drop i) a))) (n := l.length) ?_ ?_ 0 (Nat.zero_le _) 0
  · intro a
    rw [List.drop_length]
    refine Ev.step (f := fun k => (spec_Root.f k a).bind fun y => some y) (fun k => by simp only [spec_Norm.l0]; rw [if_neg (by omega)]) ?_
    exact Ev.bind (rootS a) (Ev.now _)
  · intro i hi ih a
    rw [dropi l i hi, sqs]
    refine Ev.step (f := fun k => (spec_l15Grad.f k l).bind fun u => (if u = true then (spec_Norm.l0 k l (wrap64 (a + (wrap64 ((rd l (i : Int)) * (rd l (i : Int)))))) (((i + 1 : Nat) : Int))) else ((spec_Root.f k a).bind fun x => (some x)))) (fun k => by simp only [spec_Norm.l0]; rw [if_pos (by omega), wn i (by omega)]; simp only [if_pos (show (0 : Int) ≤ (i : Int) by omega)]) ?_
    exact Ev.bind (gradS l hl) (Ev.congr (fun k => by rw [if_pos hg]) (ih _))
theorem normI (l : List Int) (hl : l.length ≤ 1048576) (hg : gOk l = true) : Ev (fun k => impl_Norm.f k l) (normV l) := by
  unfold impl_Norm.f
  refine Ev.bind (gradI l hl) (Ev.congr (fun k => by rw [if_pos hg]) ?_)
  refine down (P := fun i => ∀ a, Ev (fun k => impl_Norm.l0 k a l (l.length : Int) (i : Int)) (rootV (sqs (l.drop i) a))) (n := l.length) ?_ ?_ 0 (Nat.zero_le _) 0
  · intro a
    rw [List.drop_length]
    refine Ev.step (f := fun k => (impl_Root.f k a).bind fun y => some y) (fun k => by simp only [impl_Norm.l0]; rw [if_neg (by omega)]) ?_
    exact Ev.bind (rootI a) (Ev.now _)
  · intro i hi ih a
    rw [dropi l i hi, sqs]
    exact Ev.step (fun k => by simp only [impl_Norm.l0]; rw [if_pos (by omega), if_pos (by omega), if_pos (by omega), wn i (by omega)]) (ih _)
/-! ### what is mapped -/
theorem fill_step {α : Type} (z : α) (m : List α) (i : Nat) (h : i < m.length) (x : α) (hx : m[i] = x) : (m.take i ++ List.replicate (m.length - i) z).set i x = m.take (i + 1) ++ List.replicate (m.length - (i + 1)) z := by
  subst hx
  rw [List.set_append_right _ _ (by simp; omega), show m.length - i = (m.length - (i + 1)) + 1 by omega, List.replicate_succ, List.length_take, Nat.min_eq_left (Nat.le_of_lt h), Nat.sub_self, List.set_cons_zero, List.take_succ_eq_append_getElem h, List.append_assoc]
  rfl
theorem fill_len {α : Type} (z : α) (m : List α) (i : Nat) (h : i ≤ m.length) : (m.take i ++ List.replicate (m.length - i) z).length = m.length := by
  simp; omega
theorem fill_end {α : Type} (z : α) (m : List α) : m.take m.length ++ List.replicate (m.length - m.length) z = m := by simp
theorem mapped_ev (l : List Int) (hl : l.length ≤ 1048576) (f : Int → Option Int) (g : Int → Int) (hf : ∀ x, f x = some (g x)) : Ev (fun k => Mapped.mapped.f k l f) (l.map g) := by
  have hm : (l.map g).length = l.length := by simp
  unfold Mapped.mapped.f
  refine Ev.congr (fun k => by rw [if_pos (by omega), if_pos (by omega), Int.toNat_natCast, ← hm]) ?_
  refine down (P := fun i => Ev (fun k => Mapped.mapped.l0 k f ((l.map g).take i ++ List.replicate ((l.map g).length - i) 0) l ((l.map g).length : Int) (i : Int)) (l.map g)) (n := l.length) ?_ ?_ 0 (Nat.zero_le _)
  · rw [← hm, fill_end]
    exact Ev.stop fun k => by simp only [Mapped.mapped.l0]; rw [if_neg (by omega)]
  · intro i hi ih
    have hr : (l.map g)[i]'(by omega) = g (rd l (i : Int)) := by rw [List.getElem_map, rd_lt l i hi]
    refine Ev.step (fun k => ?_) ih
    simp only [Mapped.mapped.l0, hf, Option.bind_some]
    rw [if_pos (by omega), if_pos (by omega), if_pos (by omega), if_pos (by rw [fill_len 0 _ i (by omega)]; omega), Int.toNat_natCast, fill_step 0 (l.map g) i (by omega) _ hr, wn i (by omega)]
/-! ### Clip -/
noncomputable def clipV (l : List Int) (most : Int) : List Int := if normV l ≤ most then l else l.map fun x => nearV (wrap64 (x * most)) (normV l)
theorem clipV_len (l : List Int) (most : Int) : (clipV l most).length = l.length := by
  unfold clipV
  split <;> simp
theorem clipI (l : List Int) (most : Int) (hl : l.length ≤ 1048576) (hg : gOk l = true) (h0 : 0 ≤ most) (h1 : most ≤ 1073741824) : Ev (fun k => impl_Clip.f k l most) (clipV l most) := by
  unfold impl_Clip.f StepH.clipF
  refine Ev.bind (gradI l hl) (Ev.congr (fun k => by rw [if_pos hg, within_val, inR_iff.2 ⟨h0, h1⟩, Option.bind_some, if_pos rfl]) (Ev.bind (normI l hl hg) ?_))
  unfold clipV
  by_cases c : normV l ≤ most
  · rw [if_pos c]
    refine Ev.congr (fun k => by rw [if_pos c]) ?_
    unfold slices_Clone_int_int.f
    refine Ev.congr (fun k => by rw [Option.bind_some, if_pos (by simp; omega), List.nil_append]) (Ev.now l)
  · rw [if_neg c]
    exact Ev.congr (fun k => by rw [if_neg c]) (mapped_ev l hl _ _ (fun x => near_val _ _))
theorem clipS (l : List Int) (most : Int) (hl : l.length ≤ 1048576) (hg : gOk l = true) (h0 : 0 ≤ most) (h1 : most ≤ 1073741824) : Ev (fun k => spec_Clip.f k l most) (clipV l most) := by
  unfold spec_Clip.f
  refine Ev.congr (fun k => by rw [Option.bind_some]) ?_
  refine Ev.bind (gradS l hl) (Ev.congr (fun k => by rw [if_pos hg, l5In_val, inR_iff.2 ⟨h0, h1⟩, Option.bind_some, if_pos rfl]) (Ev.bind (normS l hl hg) ?_))
  have hm := clipV_len l most
  refine down (P := fun i => Ev (fun k => spec_Clip.l0 k l most ((clipV l most).take i) (normV l) (i : Int)) (clipV l most)) (n := l.length) ?_ ?_ 0 (Nat.zero_le _)
  · exact Ev.stop fun k => by simp only [spec_Clip.l0]; rw [if_neg (by omega), ← hm, List.take_length]
  · intro i hi ih
    have ht : (clipV l most).take (i + 1) = (clipV l most).take i ++ [if normV l > most then nearV (wrap64 (rd l (i : Int) * most)) (normV l) else rd l (i : Int)] := by
      rw [List.take_succ_eq_append_getElem (by omega)]
      congr 1
      by_cases c : normV l ≤ most
      · simp only [clipV, if_pos c, if_neg (show ¬ normV l > most by omega), rd_lt l i hi]
      · simp only [clipV, if_neg c, if_pos (show normV l > most by omega), rd_lt l i hi, List.getElem_map]
    rw [ht] at ih
    have hlen : ((clipV l most).take i).length < 17592186044416 := by rw [List.length_take]; omega
    refine Ev.step (fun k => ?_) ih
    simp only [spec_Clip.l0, near_valS, Option.bind_some]
    rw [if_pos (by omega), if_pos (by omega), if_pos hlen, if_pos hlen, wn i (by omega)]
    split <;> rfl
/-! ### states -/
def okV (p f s : List Int) (c fac g : Int) : Bool :=
  decide ((p.length : Int) ≤ 4096) && (decide (f.length = p.length) && (decide (s.length = p.length) && (allIn (-68719476736) 68719476736 p && (allIn (-4294967296) 4294967296 f && (allIn 0 17179869184 s && (inR 0 1000000 c && (decide (fac ∈ pows) && inR 0 1000000 g)))))))
theorem okI (p f s : List Int) (c fac g : Int) : Ev (fun k => impl_OptOk.f k p f s c fac g) (okV p f s c fac g) := by
  unfold impl_OptOk.f okV
  by_cases c1 : (p.length : Int) ≤ 4096
  rotate_left
  · exact Ev.congr (fun k => by rw [if_neg c1]) (by rw [decide_eq_false c1, Bool.false_and]; exact Ev.now _)
  rw [decide_eq_true c1, Bool.true_and]
  refine Ev.congr (fun k => by rw [if_pos c1]) ?_
  by_cases c2 : f.length = p.length
  rotate_left
  · exact Ev.congr (fun k => by rw [if_neg (by omega)]) (by rw [decide_eq_false c2, Bool.false_and]; exact Ev.now _)
  rw [decide_eq_true c2, Bool.true_and]
  refine Ev.congr (fun k => by rw [if_pos (by omega)]) ?_
  by_cases c3 : s.length = p.length
  rotate_left
  · exact Ev.congr (fun k => by rw [if_neg (by omega)]) (by rw [decide_eq_false c3, Bool.false_and]; exact Ev.now _)
  rw [decide_eq_true c3, Bool.true_and]
  refine Ev.congr (fun k => by rw [if_pos (by omega)]) (Ev.bind (allWithin_ev p _ _ (by omega)) ?_)
  cases a1 : allIn (-68719476736) 68719476736 p with
  | false => exact Ev.congr (fun k => by rw [if_neg (by decide)]; rfl) (Ev.now _)
  | true =>
    refine Ev.congr (fun k => by rw [if_pos rfl]) (Ev.bind (allWithin_ev f _ _ (by omega)) ?_)
    rw [Bool.true_and]
    cases a2 : allIn (-4294967296) 4294967296 f with
    | false => exact Ev.congr (fun k => by rw [if_neg (by decide)]; rfl) (Ev.now _)
    | true =>
      refine Ev.congr (fun k => by rw [if_pos rfl]) (Ev.bind (allWithin_ev s _ _ (by omega)) ?_)
      rw [Bool.true_and]
      cases a3 : allIn 0 17179869184 s with
      | false => exact Ev.congr (fun k => by rw [if_neg (by decide)]; rfl) (Ev.now _)
      | true =>
        refine Ev.congr (fun k => by rw [if_pos rfl, within_val, Option.bind_some]) ?_
        rw [Bool.true_and]
        cases a4 : inR 0 1000000 c with
        | false => exact Ev.congr (fun k => by rw [if_neg (by decide)]; rfl) (Ev.now _)
        | true =>
          refine Ev.congr (fun k => by rw [if_pos rfl, within_val, Option.bind_some]) ?_
          rw [Bool.true_and]
          cases a5 : inR 1 65536 fac with
          | false =>
            have hn : fac ∉ pows := fun h => by
              have : ∀ x ∈ pows, inR 1 65536 x = true := by decide
              rw [this _ h] at a5; cases a5
            rw [decide_eq_false hn, Bool.false_and]
            exact Ev.congr (fun k => by rw [if_neg (by decide)]) (Ev.now _)
          | true =>
            obtain ⟨h0, h1⟩ := inR_iff.1 a5
            rw [← pow_bits fac h0 h1]
            refine Ev.congr (fun k => by rw [if_pos rfl]) ?_
            by_cases c6 : Go.bits .and .i64 fac (wrap64 (fac - 1)) = 0
            · rw [decide_eq_true c6, Bool.true_and]
              exact Ev.congr (fun k => by rw [if_pos c6, within_val, Option.bind_some]) (Ev.now _)
            · rw [decide_eq_false c6, Bool.false_and]
              exact Ev.congr (fun k => by rw [if_neg c6]) (Ev.now _)
theorem pow_loop (p f s : List Int) (c fac g : Int) : Ev (fun k => spec_OptOk.l1 k 1 p f s c fac g) (decide (fac ∈ pows)) := by
  have st : ∀ (z : Int) (b : Bool), 0 ≤ z → z ≤ 65536 → Ev (fun k => spec_OptOk.l1 k (z * 2) p f s c fac g) b → Ev (fun k => spec_OptOk.l1 k z p f s c fac g) (decide (z = fac) || b) := by
    intro z b h0 h1 h
    by_cases e : z = fac
    · rw [decide_eq_true e, Bool.true_or]
      exact Ev.stop fun k => by simp only [spec_OptOk.l1]; rw [if_pos h1, if_pos e]
    · rw [decide_eq_false e, Bool.false_or]
      exact Ev.step (fun k => by simp only [spec_OptOk.l1]; rw [if_pos h1, if_neg e, w64 (by omega) (by omega)]) h
  have hend : Ev (fun k => spec_OptOk.l1 k 131072 p f s c fac g) false := Ev.stop fun k => by simp only [spec_OptOk.l1]; rw [if_neg (by decide)]
  have h := st 1 _ (by decide) (by decide) (st 2 _ (by decide) (by decide) (st 4 _ (by decide) (by decide) (st 8 _ (by decide) (by decide) (st 16 _ (by decide) (by decide) (st 32 _ (by decide) (by decide) (st 64 _ (by decide) (by decide) (st 128 _ (by decide) (by decide) (st 256 _ (by decide) (by decide) (st 512 _ (by decide) (by decide) (st 1024 _ (by decide) (by decide) (st 2048 _ (by decide) (by decide) (st 4096 _ (by decide) (by decide) (st 8192 _ (by decide) (by decide) (st 16384 _ (by decide) (by decide) (st 32768 _ (by decide) (by decide) (st 65536 _ (by decide) (by decide) hend))))))))))))))))
  have e : decide (fac ∈ pows) = (decide (1 = fac) || (decide (2 = fac) || (decide (4 = fac) || (decide (8 = fac) || (decide (16 = fac) || (decide (32 = fac) || (decide (64 = fac) || (decide (128 = fac) || (decide (256 = fac) || (decide (512 = fac) || (decide (1024 = fac) || (decide (2048 = fac) || (decide (4096 = fac) || (decide (8192 = fac) || (decide (16384 = fac) || (decide (32768 = fac) || (decide (65536 = fac) || false))))))))))))))))) := by
    rw [Bool.eq_iff_iff]
    simp only [pows, Bool.or_eq_true, decide_eq_true_eq, List.mem_cons, List.not_mem_nil, or_false, Bool.false_eq_true]
    constructor <;> (intro h; omega)
  rw [e]
  exact h
theorem okS (p f s : List Int) (c fac g : Int) : Ev (fun k => spec_OptOk.f k p f s c fac g) (okV p f s c fac g) := by
  unfold spec_OptOk.f okV
  by_cases c1 : (p.length : Int) ≤ 4096
  rotate_left
  · exact Ev.congr (fun k => by rw [if_pos (by omega)]) (by rw [decide_eq_false c1, Bool.false_and]; exact Ev.now _)
  rw [decide_eq_true c1, Bool.true_and]
  refine Ev.congr (fun k => by rw [if_neg (by omega)]) ?_
  by_cases c2 : f.length = p.length
  rotate_left
  · exact Ev.congr (fun k => by rw [if_neg (by omega)]) (by rw [decide_eq_false c2, Bool.false_and]; exact Ev.now _)
  rw [decide_eq_true c2, Bool.true_and]
  refine Ev.congr (fun k => by rw [if_pos (by omega)]) ?_
  by_cases c3 : s.length = p.length
  rotate_left
  · exact Ev.congr (fun k => by rw [if_neg (by omega)]) (by rw [decide_eq_false c3, Bool.false_and]; exact Ev.now _)
  rw [decide_eq_true c3, Bool.true_and]
  refine Ev.congr (fun k => by rw [if_pos (by omega), l5In_val, Option.bind_some]) ?_
  cases a4 : inR 0 1000000 c with
  | false => exact Ev.congr (fun k => by rw [if_neg (by decide)]) (by simp; exact Ev.now _)
  | true =>
    refine Ev.congr (fun k => by rw [if_pos rfl, l5In_val, Option.bind_some]) ?_
    cases a5 : inR 0 1000000 g with
    | false => exact Ev.congr (fun k => by rw [if_neg (by decide)]) (by simp; exact Ev.now _)
    | true =>
      refine Ev.congr (fun k => by rw [if_pos rfl]) ?_
      simp only [Bool.true_and, Bool.and_true]
      refine down (P := fun i => Ev (fun k => spec_OptOk.l0 k (i : Int) p f s c fac g) (allIn (-68719476736) 68719476736 (p.drop i) && (allIn (-4294967296) 4294967296 (f.drop i) && (allIn 0 17179869184 (s.drop i) && decide (fac ∈ pows))))) (n := p.length) ?_ ?_ 0 (Nat.zero_le _)
      · rw [List.drop_length, ← c2, List.drop_length, c2, ← c3, List.drop_length]
        refine Ev.step (fun k => by simp only [spec_OptOk.l0]; rw [if_neg (by omega)]) (pow_loop p f s c fac g)
      · intro i hi ih
        rw [all_step _ _ p i hi, all_step _ _ f i (by omega), all_step _ _ s i (by omega)]
        cases b1 : inR (-68719476736) 68719476736 (rd p (i : Int)) with
        | false => exact Ev.stop fun k => by simp only [spec_OptOk.l0, l5In_val, b1, Option.bind_some]; rw [if_pos (by omega), if_pos (by omega), if_neg (by decide)]; simp
        | true =>
          cases b2 : inR (-4294967296) 4294967296 (rd f (i : Int)) with
          | false => exact Ev.stop fun k => by simp only [spec_OptOk.l0, l5In_val, b1, b2, Option.bind_some]; rw [if_pos (by omega), if_pos (by omega), if_pos trivial, if_pos (by omega), if_neg (by decide)]; simp
          | true =>
            cases b3 : inR 0 17179869184 (rd s (i : Int)) with
            | false => exact Ev.stop fun k => by simp only [spec_OptOk.l0, l5In_val, b1, b2, b3, Option.bind_some]; rw [if_pos (by omega), if_pos (by omega), if_pos trivial, if_pos (by omega), if_pos trivial, if_pos (by omega), if_neg (by decide)]; simp
            | true =>
              simp only [Bool.true_and]
              refine Ev.step (fun k => ?_) ih
              simp only [spec_OptOk.l0, l5In_val, b1, b2, b3, Option.bind_some]
              rw [if_pos (by omega), if_pos (by omega), if_pos trivial, if_pos (by omega), if_pos trivial, if_pos (by omega), if_pos trivial, wn i (by omega)]
end Go.Proofs.Ytodfhokndnmdoaa.Pure
