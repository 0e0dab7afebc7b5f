/- The law's own functions: how much may come in, the copies, the comparison. -/
import Derived.Test.YtmcboiffbcnalaaPFnExactLivesx1
import Derived.Test.YtmcboiffbcnalaaPFnExactLivesx10
import Derived.Test.YtmcboiffbcnalaaPFnExactLivesx21
import Derived.Test.YtmcboiffbcnalaaPFnExactLivesx22
import Derived.Test.YtmcboiffbcnalaaEFnExactLivese
namespace Go.Proofs.Ytmcboiffbcnalaa.Pure
open Go.RowKit Go.Proofs.Ytmcboiffbcnalaa.PFnExactLives Go.Proofs.YtmcboiffbcnalaaW.PrintWords Go.Proofs.YtmcboiffbcnalaaW.PrintLast Go.Proofs.YtmcboiffbcnalaaW.PrintMore
set_option linter.unusedSimpArgs false
set_option linter.unusedVariables false
def Sz (g : Nat → Option Int) (C : Prop) : Prop := ∃ t, Ev g t ∧ t ≤ 1048576 ∧ (0 ≤ t → C)
theorem Sz.congr {g f : Nat → Option Int} {C : Prop} (h : ∀ k, g k = f k) (k : Sz f C) : Sz g C := by
  obtain ⟨t, h1, h2⟩ := k
  exact ⟨t, Ev.congr h h1, h2⟩
theorem Sz.step {g f : Nat → Option Int} {C : Prop} (h : ∀ k, g (k + 1) = f k) (k : Sz f C) : Sz g C := by
  obtain ⟨t, h1, h2⟩ := k
  exact ⟨t, Ev.step h h1, h2⟩
theorem Sz.imp {g : Nat → Option Int} {C D : Prop} (k : Sz g C) (h : C → D) : Sz g D := by
  obtain ⟨t, h1, h2, h3⟩ := k
  exact ⟨t, h1, h2, fun ht => h (h3 ht)⟩
theorem Sz.next {g : Nat → Option Int} {f : Nat → Int → Option Int} {C D : Prop} (h : Sz g C) (k : ∀ t, 0 ≤ t → t ≤ 1048576 → Sz (fun n => f n t) D) : Sz (fun n => (g n).bind fun t => if t < 0 then some (-1) else f n t) (C ∧ D) := by
  obtain ⟨t, h1, h2, h3⟩ := h
  by_cases c : t < 0
  · exact ⟨-1, Ev.bind h1 (Ev.congr (fun n => by rw [if_pos c]) (Ev.now _)), by omega, fun h => by omega⟩
  · obtain ⟨s, k1, k2, k3⟩ := k t (by omega) h2
    exact ⟨s, Ev.bind h1 (Ev.congr (fun n => by rw [if_neg c]) k1), k2, fun hs => ⟨h3 (by omega), k3 hs⟩⟩
theorem Sz.last {g : Nat → Option Int} {C : Prop} (h : Sz g C) : Sz (fun n => (g n).bind fun t => if t < 0 then some (-1) else some t) C :=
  (Sz.next (f := fun _ t => some t) (D := True) h (fun t h0 h1 => ⟨t, Ev.now t, h1, fun _ => trivial⟩)).imp And.left
def L20 (n : Nat) : Prop := n ≤ 1048576
theorem szLen (n : Nat) (a : Int) (hn : n ≤ 9223372036854775807) (h0 : 0 ≤ a) (h1 : a ≤ 1048576) : wrap64 (a - (n : Int)) = a - n := w64 (by omega) (by omega)
theorem szInt (l : List Int) (a : Int) (hl : l.length ≤ 9223372036854775807) (h0 : 0 ≤ a) (h1 : a ≤ 1048576) : Sz (fun _ => laws_szIntS.f l a) (L20 l.length) := by
  unfold laws_szIntS.f
  rw [szLen l.length a hl h0 h1]
  by_cases c : a - (l.length : Int) < 0
  · rw [if_pos c]; exact ⟨-1, Ev.now _, by omega, fun h => by omega⟩
  · rw [if_neg c]; exact ⟨_, Ev.now _, by omega, fun _ => by unfold L20; omega⟩
theorem szCalc (l : List S124) (a : Int) (hl : l.length ≤ 9223372036854775807) (h0 : 0 ≤ a) (h1 : a ≤ 1048576) : Sz (fun _ => laws_szCalcS.f l a) (L20 l.length) := by
  unfold laws_szCalcS.f
  rw [szLen l.length a hl h0 h1]
  by_cases c : a - (l.length : Int) < 0
  · rw [if_pos c]; exact ⟨-1, Ev.now _, by omega, fun h => by omega⟩
  · rw [if_neg c]; exact ⟨_, Ev.now _, by omega, fun _ => by unfold L20; omega⟩
theorem drop166 (l : List S92) (i : Nat) (h : i < l.length) : l.drop i = rd_T92 l (i : Int) :: l.drop (i + 1) := by
  rw [show rd_T92 l (i : Int) = l[i] from getc z92 l i h]; exact List.drop_eq_getElem_cons h
theorem drop169 (l : List S95) (i : Nat) (h : i < l.length) : l.drop i = rd_T95 l (i : Int) :: l.drop (i + 1) := by
  rw [show rd_T95 l (i : Int) = l[i] from getc z95 l i h]; exact List.drop_eq_getElem_cons h
theorem drop172 (l : List S98) (i : Nat) (h : i < l.length) : l.drop i = rd_T98 l (i : Int) :: l.drop (i + 1) := by
  rw [show rd_T98 l (i : Int) = l[i] from getc z98 l i h]; exact List.drop_eq_getElem_cons h
theorem drop230 (l : List S124) (i : Nat) (h : i < l.length) : l.drop i = rd_T124 l (i : Int) :: l.drop (i + 1) := by
  rw [show rd_T124 l (i : Int) = l[i] from getc z124 l i h]; exact List.drop_eq_getElem_cons h
theorem mem_drop {α : Type} {l : List α} {x : α} {r : List α} {i : Nat} (h : l.drop i = x :: r) : x ∈ l := List.mem_of_mem_drop (by rw [h]; simp)
theorem szFix (l : List S92) (a : Int) (hl : l.length ≤ 9223372036854775807) (hx : ∀ x ∈ l, x.f1.length ≤ 9223372036854775807) (h0 : 0 ≤ a) (h1 : a ≤ 1048576) : Sz (fun k => laws_szFixS.f k l a) (L20 l.length ∧ ∀ x ∈ l, L20 x.f1.length) := by
  unfold laws_szFixS.f
  rw [szLen l.length a hl h0 h1]
  by_cases c : a - (l.length : Int) < 0
  · exact ⟨-1, Ev.congr (fun k => by rw [if_pos c]) (Ev.now _), by omega, fun h => by omega⟩
  · have hL : l.length ≤ 1048576 := by omega
    refine Sz.congr (fun k => by rw [if_neg c]) (Sz.imp ?_ (fun h => ⟨hL, h⟩))
    refine down (P := fun i => ∀ a : Int, 0 ≤ a → a ≤ 1048576 → Sz (fun k => laws_szFixS.l0 k l a (i : Int)) (∀ x ∈ l.drop i, L20 x.f1.length)) (n := l.length) ?_ ?_ 0 (Nat.zero_le _) _ (by omega) (by omega)
    · intro a h0 h1
      exact ⟨a, Ev.stop fun k => by simp only [laws_szFixS.l0]; rw [if_neg (by omega)], h1, fun _ => by rw [List.drop_length]; simp⟩
    · intro i hi ih a h0 h1
      have e := drop166 l i hi
      have hm := mem_drop e
      rw [e]
      generalize hxx : rd_T92 l (i : Int) = x at hm
      refine Sz.step (f := fun k => (laws_szFix.f x.f0 x.f1 a).bind fun t => if t < 0 then some (-1) else laws_szFixS.l0 k l t (wrap64 ((i : Int) + 1))) (fun k => ?_) ?_
      · simp only [laws_szFixS.l0, hxx]; rw [if_pos (by omega), if_pos (by omega)]
      · refine Sz.imp (Sz.next (Sz.last (szInt x.f1 a (hx x hm) h0 h1)) (fun t t0 t1 => Sz.congr (fun k => by rw [wn i (by omega)]) (ih t t0 t1))) (fun h => ?_)
        intro y hy
        rcases List.mem_cons.1 hy with rfl | hy
        · exact h.1
        · exact h.2 y hy
theorem szAccess (l : List S95) (a : Int) (hl : l.length ≤ 9223372036854775807) (hx : ∀ x ∈ l, x.f2.length ≤ 9223372036854775807) (h0 : 0 ≤ a) (h1 : a ≤ 1048576) : Sz (fun k => laws_szAccessS.f k l a) (L20 l.length ∧ ∀ x ∈ l, L20 x.f2.length) := by
  unfold laws_szAccessS.f
  rw [szLen l.length a hl h0 h1]
  by_cases c : a - (l.length : Int) < 0
  · exact ⟨-1, Ev.congr (fun k => by rw [if_pos c]) (Ev.now _), by omega, fun h => by omega⟩
  · have hL : l.length ≤ 1048576 := by omega
    refine Sz.congr (fun k => by rw [if_neg c]) (Sz.imp ?_ (fun h => ⟨hL, h⟩))
    refine down (P := fun i => ∀ a : Int, 0 ≤ a → a ≤ 1048576 → Sz (fun k => laws_szAccessS.l0 k l a (i : Int)) (∀ x ∈ l.drop i, L20 x.f2.length)) (n := l.length) ?_ ?_ 0 (Nat.zero_le _) _ (by omega) (by omega)
    · intro a h0 h1
      exact ⟨a, Ev.stop fun k => by simp only [laws_szAccessS.l0]; rw [if_neg (by omega)], h1, fun _ => by rw [List.drop_length]; simp⟩
    · intro i hi ih a h0 h1
      have e := drop169 l i hi
      have hm := mem_drop e
      rw [e]
      generalize hxx : rd_T95 l (i : Int) = x at hm
      refine Sz.step (f := fun k => (laws_szAccess.f x.f0 x.f1 x.f2 a).bind fun t => if t < 0 then some (-1) else laws_szAccessS.l0 k l t (wrap64 ((i : Int) + 1))) (fun k => ?_) ?_
      · simp only [laws_szAccessS.l0, hxx]; rw [if_pos (by omega), if_pos (by omega)]
      · refine Sz.imp (Sz.next (Sz.last (szInt x.f2 a (hx x hm) h0 h1)) (fun t t0 t1 => Sz.congr (fun k => by rw [wn i (by omega)]) (ih t t0 t1))) (fun h => ?_)
        intro y hy
        rcases List.mem_cons.1 hy with rfl | hy
        · exact h.1
        · exact h.2 y hy
def WK (x : S98) : Prop := x.f0.length ≤ 9223372036854775807 ∧ x.f1.length ≤ 9223372036854775807 ∧ (∀ y ∈ x.f1, y.f2.length ≤ 9223372036854775807) ∧ x.f2.f2.length ≤ 9223372036854775807 ∧ x.f4.length ≤ 9223372036854775807
def SK (x : S98) : Prop := L20 x.f0.length ∧ (L20 x.f1.length ∧ ∀ y ∈ x.f1, L20 y.f2.length) ∧ L20 x.f2.f2.length ∧ L20 x.f4.length
theorem szKernel (x : S98) (a : Int) (hw : WK x) (h0 : 0 ≤ a) (h1 : a ≤ 1048576) : Sz (fun k => laws_szKernel.f k x.f0 x.f1 x.f2.f0 x.f2.f1 x.f2.f2 x.f3 x.f4 a) (SK x) := by
  obtain ⟨w1, w2, w3, w4, w5⟩ := hw
  unfold laws_szKernel.f SK
  exact Sz.next (szInt x.f0 a w1 h0 h1) (fun t h0 h1 => Sz.next (szAccess x.f1 t w2 w3 h0 h1) (fun t h0 h1 => Sz.next (Sz.last (szInt x.f2.f2 t w4 h0 h1)) (fun t h0 h1 => Sz.last (szCalc x.f4 t w5 h0 h1))))
theorem szKernels (l : List S98) (a : Int) (hl : l.length ≤ 9223372036854775807) (hx : ∀ x ∈ l, WK x) (h0 : 0 ≤ a) (h1 : a ≤ 1048576) : Sz (fun k => laws_szKernelS.f k l a) (L20 l.length ∧ ∀ x ∈ l, SK x) := by
  unfold laws_szKernelS.f
  rw [szLen l.length a hl h0 h1]
  by_cases c : a - (l.length : Int) < 0
  · exact ⟨-1, Ev.congr (fun k => by rw [if_pos c]) (Ev.now _), by omega, fun h => by omega⟩
  · have hL : l.length ≤ 1048576 := by omega
    refine Sz.congr (fun k => by rw [if_neg c]) (Sz.imp ?_ (fun h => ⟨hL, h⟩))
    refine down (P := fun i => ∀ a : Int, 0 ≤ a → a ≤ 1048576 → Sz (fun k => laws_szKernelS.l0 k l a (i : Int)) (∀ x ∈ l.drop i, SK x)) (n := l.length) ?_ ?_ 0 (Nat.zero_le _) _ (by omega) (by omega)
    · intro a h0 h1
      exact ⟨a, Ev.stop fun k => by simp only [laws_szKernelS.l0]; rw [if_neg (by omega)], h1, fun _ => by rw [List.drop_length]; simp⟩
    · intro i hi ih a h0 h1
      have e := drop172 l i hi
      have hm := mem_drop e
      rw [e]
      generalize hxx : rd_T98 l (i : Int) = x at hm
      refine Sz.step (f := fun k => (laws_szKernel.f k x.f0 x.f1 x.f2.f0 x.f2.f1 x.f2.f2 x.f3 x.f4 a).bind fun t => if t < 0 then some (-1) else laws_szKernelS.l0 k l t (wrap64 ((i : Int) + 1))) (fun k => ?_) ?_
      · simp only [laws_szKernelS.l0, hxx]; rw [if_pos (by omega), if_pos (by omega)]
      · refine Sz.imp (Sz.next (szKernel x a (hx x hm) h0 h1) (fun t t0 t1 => Sz.congr (fun k => by rw [wn i (by omega)]) (ih t t0 t1))) (fun h => ?_)
        intro y hy
        rcases List.mem_cons.1 hy with rfl | hy
        · exact h.1
        · exact h.2 y hy
theorem szNest (ss ins : List Int) (fx : List S92) (ks : List S98) (outs : List Int) (a : Int) (h1 : ss.length ≤ 9223372036854775807) (h2 : ins.length ≤ 9223372036854775807) (h3 : fx.length ≤ 9223372036854775807) (h3' : ∀ x ∈ fx, x.f1.length ≤ 9223372036854775807) (h4 : ks.length ≤ 9223372036854775807) (h4' : ∀ x ∈ ks, WK x) (h5 : outs.length ≤ 9223372036854775807) (h0 : 0 ≤ a) (ha : a ≤ 1048576) :
    Sz (fun k => laws_szNest.f k ss ins fx ks outs a) (L20 ss.length ∧ L20 ins.length ∧ (L20 fx.length ∧ ∀ x ∈ fx, L20 x.f1.length) ∧ (L20 ks.length ∧ ∀ x ∈ ks, SK x) ∧ L20 outs.length) := by
  unfold laws_szNest.f
  exact Sz.next (szInt ss a h1 h0 ha) (fun t h0 ha => Sz.next (szInt ins t h2 h0 ha) (fun t h0 ha => Sz.next (szFix fx t h3 h3' h0 ha) (fun t h0 ha => Sz.next (szKernels ks t h4 h4' h0 ha) (fun t h0 ha => Sz.last (szInt outs t h5 h0 ha)))))
/-! Copies. -/
theorem fill_step {α : Type} (z : α) (m : List α) (i : Nat) (h : i < m.length) (x : α) (hx : m[i] = x) : (m.take i ++ List.replicate (m.length - i) z).set i x = m.take (i + 1) ++ List.replicate (m.length - (i + 1)) z := by
  subst hx
  rw [List.set_append_right _ _ (by simp; omega), show m.length - i = (m.length - (i + 1)) + 1 by omega, List.replicate_succ, List.length_take, Nat.min_eq_left (Nat.le_of_lt h), Nat.sub_self, List.set_cons_zero, List.take_succ_eq_append_getElem h, List.append_assoc]
  rfl
theorem fill_len {α : Type} (z : α) (m : List α) (i : Nat) (h : i ≤ m.length) : (m.take i ++ List.replicate (m.length - i) z).length = m.length := by
  simp; omega
theorem fill_end {α : Type} (z : α) (m : List α) : m.take m.length ++ List.replicate (m.length - m.length) z = m := by simp
theorem toInt (l : List Int) (hl : L20 l.length) : Ev (fun k => laws_toIntS.f k l) l := by
  unfold L20 at hl
  unfold laws_toIntS.f
  refine Ev.congr (fun k => by rw [if_pos (by omega), if_pos (by omega), Int.toNat_natCast]) ?_
  refine down (P := fun i => Ev (fun k => laws_toIntS.l0 k l (l.take i ++ List.replicate (l.length - i) 0) (i : Int)) l) (n := l.length) ?_ ?_ 0 (Nat.zero_le _)
  · rw [fill_end]
    exact Ev.stop fun k => by simp only [laws_toIntS.l0]; rw [if_neg (by omega)]
  · intro i hi ih
    refine Ev.step (fun k => ?_) ih
    simp only [laws_toIntS.l0]
    rw [if_pos (by omega), if_pos (by omega), if_pos (by rw [fill_len 0 l i (by omega)]; omega), Int.toNat_natCast, fill_step 0 l i hi _ (rd_lt l i hi).symm, wn i (by omega)]
def c125 (x : S92) : S71 := ⟨x.f0, x.f1⟩
def c129 (x : S95) : S76 := ⟨x.f0, x.f1, x.f2⟩
def c204 (x : S124) : S122 := ⟨x.f0, x.f1, x.f2⟩
def c132 (x : S98) : S79 := ⟨x.f0, x.f1.map c129, c129 x.f2, x.f3, x.f4.map c204⟩
theorem toFix (l : List S92) (hl : L20 l.length) (hx : ∀ x ∈ l, L20 x.f1.length) : Ev (fun k => laws_toFixS.f k l) (l.map c125) := by
  unfold L20 at hl
  unfold laws_toFixS.f
  have hm : (l.map c125).length = l.length := by simp
  refine Ev.congr (fun k => by rw [if_pos (by omega), if_pos (by omega), Int.toNat_natCast, ← hm]) ?_
  refine down (P := fun i => Ev (fun k => laws_toFixS.l0 k l ((l.map c125).take i ++ List.replicate ((l.map c125).length - i) z71) (i : Int)) (l.map c125)) (n := l.length) ?_ ?_ 0 (Nat.zero_le _)
  · rw [← hm, fill_end]
    exact Ev.stop fun k => by simp only [laws_toFixS.l0]; rw [if_neg (by omega)]
  · intro i hi ih
    have e := drop166 l i hi
    have hmem := mem_drop e
    have hr : (l.map c125)[i]'(by omega) = c125 (rd_T92 l (i : Int)) := by
      rw [List.getElem_map, show rd_T92 l (i : Int) = l[i] from getc z92 l i hi]
    generalize hxx : rd_T92 l (i : Int) = x at hmem hr
    refine Ev.step (f := fun k => (laws_toFix.f k x.f0 x.f1).bind fun bt193 => (if (i : Int) < ((((l.map c125).take i ++ List.replicate ((l.map c125).length - i) z71).length : Nat) : Int) then (laws_toFixS.l0 k l (((l.map c125).take i ++ List.replicate ((l.map c125).length - i) z71).set (i : Int).toNat (⟨bt193.1, bt193.2⟩ : S71)) (wrap64 ((i : Int) + 1))) else (none))) (fun k => ?_) ?_
    · simp only [laws_toFixS.l0, hxx]; rw [if_pos (by omega), if_pos (by omega)]
    · refine Ev.bind (a := (x.f0, x.f1)) (Ev.bind (toInt x.f1 (hx x hmem)) (Ev.now _)) ?_
      refine Ev.congr (fun k => ?_) ih
      rw [if_pos (by rw [fill_len z71 _ i (by omega)]; omega), Int.toNat_natCast]
      show laws_toFixS.l0 k l (((l.map c125).take i ++ List.replicate ((l.map c125).length - i) z71).set i (c125 x)) (wrap64 ((i : Int) + 1)) = _
      rw [fill_step z71 (l.map c125) i (by omega) _ hr, wn i (by omega)]
theorem toAcc (l : List S95) (hl : L20 l.length) (hx : ∀ x ∈ l, L20 x.f2.length) : Ev (fun k => laws_toAccessS.f k l) (l.map c129) := by
  unfold L20 at hl
  unfold laws_toAccessS.f
  have hm : (l.map c129).length = l.length := by simp
  refine Ev.congr (fun k => by rw [if_pos (by omega), if_pos (by omega), Int.toNat_natCast, ← hm]) ?_
  refine down (P := fun i => Ev (fun k => laws_toAccessS.l0 k l ((l.map c129).take i ++ List.replicate ((l.map c129).length - i) z76) (i : Int)) (l.map c129)) (n := l.length) ?_ ?_ 0 (Nat.zero_le _)
  · rw [← hm, fill_end]
    exact Ev.stop fun k => by simp only [laws_toAccessS.l0]; rw [if_neg (by omega)]
  · intro i hi ih
    have e := drop169 l i hi
    have hmem := mem_drop e
    have hr : (l.map c129)[i]'(by omega) = c129 (rd_T95 l (i : Int)) := by
      rw [List.getElem_map, show rd_T95 l (i : Int) = l[i] from getc z95 l i hi]
    generalize hxx : rd_T95 l (i : Int) = x at hmem hr
    refine Ev.step (f := fun k => (laws_toAccess.f k x.f0 x.f1 x.f2).bind fun bt208 => (if (i : Int) < ((((l.map c129).take i ++ List.replicate ((l.map c129).length - i) z76).length : Nat) : Int) then (laws_toAccessS.l0 k l (((l.map c129).take i ++ List.replicate ((l.map c129).length - i) z76).set (i : Int).toNat (⟨bt208.1, bt208.2.1, bt208.2.2⟩ : S76)) (wrap64 ((i : Int) + 1))) else (none))) (fun k => ?_) ?_
    · simp only [laws_toAccessS.l0, hxx]; rw [if_pos (by omega), if_pos (by omega)]
    · refine Ev.bind (a := (x.f0, x.f1, x.f2)) (Ev.bind (toInt x.f2 (hx x hmem)) (Ev.now _)) ?_
      refine Ev.congr (fun k => ?_) ih
      rw [if_pos (by rw [fill_len z76 _ i (by omega)]; omega), Int.toNat_natCast]
      show laws_toAccessS.l0 k l (((l.map c129).take i ++ List.replicate ((l.map c129).length - i) z76).set i (c129 x)) (wrap64 ((i : Int) + 1)) = _
      rw [fill_step z76 (l.map c129) i (by omega) _ hr, wn i (by omega)]
theorem toCalc (l : List S124) (hl : L20 l.length) : Ev (fun k => laws_toCalcS.f k l) (l.map c204) := by
  unfold L20 at hl
  unfold laws_toCalcS.f
  have hm : (l.map c204).length = l.length := by simp
  refine Ev.congr (fun k => by rw [if_pos (by omega), if_pos (by omega), Int.toNat_natCast, ← hm]) ?_
  refine down (P := fun i => Ev (fun k => laws_toCalcS.l0 k l ((l.map c204).take i ++ List.replicate ((l.map c204).length - i) z122) (i : Int)) (l.map c204)) (n := l.length) ?_ ?_ 0 (Nat.zero_le _)
  · rw [← hm, fill_end]
    exact Ev.stop fun k => by simp only [laws_toCalcS.l0]; rw [if_neg (by omega)]
  · intro i hi ih
    have hr : (l.map c204)[i]'(by omega) = c204 (rd_T124 l (i : Int)) := by
      rw [List.getElem_map, show rd_T124 l (i : Int) = l[i] from getc z124 l i hi]
    generalize hxx : rd_T124 l (i : Int) = x at hr
    refine Ev.step (fun k => ?_) ih
    simp only [laws_toCalcS.l0, hxx, laws_toCalc.f, Option.bind_some]
    rw [if_pos (by omega), if_pos (by omega), if_pos (by rw [fill_len z122 _ i (by omega)]; omega), Int.toNat_natCast]
    show laws_toCalcS.l0 k l (((l.map c204).take i ++ List.replicate ((l.map c204).length - i) z122).set i (c204 x)) (wrap64 ((i : Int) + 1)) = _
    rw [fill_step z122 (l.map c204) i (by omega) _ hr, wn i (by omega)]
theorem toKernel (x : S98) (h : SK x) : Ev (fun k => laws_toKernel.f k x.f0 x.f1 x.f2.f0 x.f2.f1 x.f2.f2 x.f3 x.f4) (x.f0, x.f1.map c129, x.f2.f0, x.f2.f1, x.f2.f2, x.f3, x.f4.map c204) := by
  obtain ⟨h1, ⟨h2, h3⟩, h4, h5⟩ := h
  unfold laws_toKernel.f
  refine Ev.bind (toInt x.f0 h1) (Ev.bind (toAcc x.f1 h2 h3) (Ev.bind (a := (x.f2.f0, x.f2.f1, x.f2.f2)) (Ev.bind (toInt x.f2.f2 h4) (Ev.now _)) (Ev.bind (toCalc x.f4 h5) (Ev.now _))))
theorem toKernels (l : List S98) (hl : L20 l.length) (hx : ∀ x ∈ l, SK x) : Ev (fun k => laws_toKernelS.f k l) (l.map c132) := by
  unfold L20 at hl
  unfold laws_toKernelS.f
  have hm : (l.map c132).length = l.length := by simp
  refine Ev.congr (fun k => by rw [if_pos (by omega), if_pos (by omega), Int.toNat_natCast, ← hm]) ?_
  refine down (P := fun i => Ev (fun k => laws_toKernelS.l0 k l ((l.map c132).take i ++ List.replicate ((l.map c132).length - i) z79) (i : Int)) (l.map c132)) (n := l.length) ?_ ?_ 0 (Nat.zero_le _)
  · rw [← hm, fill_end]
    exact Ev.stop fun k => by simp only [laws_toKernelS.l0]; rw [if_neg (by omega)]
  · intro i hi ih
    have e := drop172 l i hi
    have hmem := mem_drop e
    have hr : (l.map c132)[i]'(by omega) = c132 (rd_T98 l (i : Int)) := by
      rw [List.getElem_map, show rd_T98 l (i : Int) = l[i] from getc z98 l i hi]
    generalize hxx : rd_T98 l (i : Int) = x at hmem hr
    refine Ev.step (f := fun k => (laws_toKernel.f k x.f0 x.f1 x.f2.f0 x.f2.f1 x.f2.f2 x.f3 x.f4).bind fun bt246 => (if (i : Int) < ((((l.map c132).take i ++ List.replicate ((l.map c132).length - i) z79).length : Nat) : Int) then (laws_toKernelS.l0 k l (((l.map c132).take i ++ List.replicate ((l.map c132).length - i) z79).set (i : Int).toNat (⟨bt246.1, bt246.2.1, (⟨bt246.2.2.1, bt246.2.2.2.1, bt246.2.2.2.2.1⟩ : S76), bt246.2.2.2.2.2.1, bt246.2.2.2.2.2.2⟩ : S79)) (wrap64 ((i : Int) + 1))) else (none))) (fun k => ?_) ?_
    · simp only [laws_toKernelS.l0, hxx]; rw [if_pos (by omega), if_pos (by omega)]
    · refine Ev.bind (toKernel x (hx x hmem)) ?_
      refine Ev.congr (fun k => ?_) ih
      rw [if_pos (by rw [fill_len z79 _ i (by omega)]; omega), Int.toNat_natCast]
      show laws_toKernelS.l0 k l (((l.map c132).take i ++ List.replicate ((l.map c132).length - i) z79).set i (c132 x)) (wrap64 ((i : Int) + 1)) = _
      rw [fill_step z79 (l.map c132) i (by omega) _ hr, wn i (by omega)]
theorem toNest (ss ins : List Int) (fx : List S92) (ks : List S98) (outs : List Int) (h : L20 ss.length ∧ L20 ins.length ∧ (L20 fx.length ∧ ∀ x ∈ fx, L20 x.f1.length) ∧ (L20 ks.length ∧ ∀ x ∈ ks, SK x) ∧ L20 outs.length) :
    Ev (fun k => laws_toNest.f k ss ins fx ks outs) (ss, ins, fx.map c125, ks.map c132, outs) := by
  obtain ⟨h1, h2, ⟨h3, h3'⟩, ⟨h4, h4'⟩, h5⟩ := h
  unfold laws_toNest.f
  exact Ev.bind (toInt ss h1) (Ev.bind (toInt ins h2) (Ev.bind (toFix fx h3 h3') (Ev.bind (toKernels ks h4 h4') (Ev.bind (toInt outs h5) (Ev.now _)))))
/-! A copy and another copy compare as the same. -/
theorem Ev.yes {g : Nat → Option Bool} (h : Ev g true) : Ev (fun k => (g k).bind fun t => if t = true then some true else some false) true := Ev.bind h (Ev.now _)
theorem eqInt (l : List Int) (hl : L20 l.length) : Ev (fun k => laws_eqIntS.f k l l) true := by
  unfold L20 at hl
  unfold laws_eqIntS.f
  refine Ev.congr (fun k => by rw [if_pos rfl]) ?_
  refine down (P := fun i => Ev (fun k => laws_eqIntS.l0 k l l (i : Int)) true) (n := l.length) ?_ ?_ 0 (Nat.zero_le _)
  · exact Ev.stop fun k => by simp only [laws_eqIntS.l0]; rw [if_neg (by omega)]
  · intro i hi ih
    refine Ev.step (fun k => ?_) ih
    simp only [laws_eqIntS.l0]
    rw [if_pos (by omega), if_pos (by omega), if_pos (by omega), if_pos trivial, wn i (by omega)]
theorem eqFix (l : List S71) (hl : L20 l.length) (hx : ∀ x ∈ l, L20 x.f1.length) : Ev (fun k => laws_eqFixS.f k l l) true := by
  unfold L20 at hl
  unfold laws_eqFixS.f
  refine Ev.congr (fun k => by rw [if_pos rfl]) ?_
  refine down (P := fun i => Ev (fun k => laws_eqFixS.l0 k l l (i : Int)) true) (n := l.length) ?_ ?_ 0 (Nat.zero_le _)
  · exact Ev.stop fun k => by simp only [laws_eqFixS.l0]; rw [if_neg (by omega)]
  · intro i hi ih
    have hm := mem_drop (drop125 l i hi)
    generalize hxx : rd_T71 l (i : Int) = x at hm
    refine Ev.step (f := fun k => (laws_eqFix.f k x.f0 x.f1 x.f0 x.f1).bind fun t => if t = true then laws_eqFixS.l0 k l l (wrap64 ((i : Int) + 1)) else some false) (fun k => ?_) ?_
    · simp only [laws_eqFixS.l0, hxx]; rw [if_pos (by omega), if_pos (by omega), if_pos (by omega)]
    · refine Ev.bind (a := true) ?_ (Ev.congr (fun k => by rw [if_pos rfl, wn i (by omega)]) ih)
      unfold laws_eqFix.f
      refine Ev.congr (fun k => by rw [if_pos rfl]) (Ev.yes (eqInt x.f1 (hx x hm)))
theorem eqAcc1 (x : S76) (h : L20 x.f2.length) : Ev (fun k => laws_eqAccess.f k x.f0 x.f1 x.f2 x.f0 x.f1 x.f2) true := by
  unfold laws_eqAccess.f
  exact Ev.congr (fun k => by rw [if_pos rfl, if_pos rfl]) (Ev.yes (eqInt x.f2 h))
theorem eqAcc (l : List S76) (hl : L20 l.length) (hx : ∀ x ∈ l, L20 x.f2.length) : Ev (fun k => laws_eqAccessS.f k l l) true := by
  unfold L20 at hl
  unfold laws_eqAccessS.f
  refine Ev.congr (fun k => by rw [if_pos rfl]) ?_
  refine down (P := fun i => Ev (fun k => laws_eqAccessS.l0 k l l (i : Int)) true) (n := l.length) ?_ ?_ 0 (Nat.zero_le _)
  · exact Ev.stop fun k => by simp only [laws_eqAccessS.l0]; rw [if_neg (by omega)]
  · intro i hi ih
    have hm := mem_drop (drop129 l i hi)
    generalize hxx : rd_T76 l (i : Int) = x at hm
    refine Ev.step (f := fun k => (laws_eqAccess.f k x.f0 x.f1 x.f2 x.f0 x.f1 x.f2).bind fun t => if t = true then laws_eqAccessS.l0 k l l (wrap64 ((i : Int) + 1)) else some false) (fun k => ?_) ?_
    · simp only [laws_eqAccessS.l0, hxx]; rw [if_pos (by omega), if_pos (by omega), if_pos (by omega)]
    · exact Ev.bind (eqAcc1 x (hx x hm)) (Ev.congr (fun k => by rw [if_pos rfl, wn i (by omega)]) ih)
theorem eqCalc (l : List S122) (hl : L20 l.length) : Ev (fun k => laws_eqCalcS.f k l l) true := by
  unfold L20 at hl
  unfold laws_eqCalcS.f
  refine Ev.congr (fun k => by rw [if_pos rfl]) ?_
  refine down (P := fun i => Ev (fun k => laws_eqCalcS.l0 k l l (i : Int)) true) (n := l.length) ?_ ?_ 0 (Nat.zero_le _)
  · exact Ev.stop fun k => by simp only [laws_eqCalcS.l0]; rw [if_neg (by omega)]
  · intro i hi ih
    refine Ev.step (fun k => ?_) ih
    simp only [laws_eqCalcS.l0, laws_eqCalc.f, if_true, Option.bind_some]
    rw [if_pos (by omega), if_pos (by omega), if_pos (by omega), wn i (by omega)]
def SK2 (x : S79) : Prop := L20 x.f0.length ∧ (L20 x.f1.length ∧ ∀ y ∈ x.f1, L20 y.f2.length) ∧ L20 x.f2.f2.length ∧ L20 x.f4.length
theorem eqKernel (x : S79) (h : SK2 x) : Ev (fun k => laws_eqKernel.f k x.f0 x.f1 x.f2.f0 x.f2.f1 x.f2.f2 x.f3 x.f4 x.f0 x.f1 x.f2.f0 x.f2.f1 x.f2.f2 x.f3 x.f4) true := by
  obtain ⟨h1, ⟨h2, h3⟩, h4, h5⟩ := h
  unfold laws_eqKernel.f
  refine Ev.bind (eqInt x.f0 h1) (Ev.congr (fun k => by rw [if_pos rfl]) (Ev.bind (eqAcc x.f1 h2 h3) (Ev.congr (fun k => by rw [if_pos rfl]) (Ev.bind (eqAcc1 x.f2 h4) ?_))))
  refine Ev.congr (f := fun k => (laws_eqCalcS.f k x.f4 x.f4).bind fun t353 => (if t353 = true then (some true) else (some false))) (fun k => ?_) (Ev.bind (eqCalc x.f4 h5) (Ev.now _))
  rw [if_pos rfl, if_neg (by simp)]
theorem eqKernels (l : List S79) (hl : L20 l.length) (hx : ∀ x ∈ l, SK2 x) : Ev (fun k => laws_eqKernelS.f k l l) true := by
  unfold L20 at hl
  unfold laws_eqKernelS.f
  refine Ev.congr (fun k => by rw [if_pos rfl]) ?_
  refine down (P := fun i => Ev (fun k => laws_eqKernelS.l0 k l l (i : Int)) true) (n := l.length) ?_ ?_ 0 (Nat.zero_le _)
  · exact Ev.stop fun k => by simp only [laws_eqKernelS.l0]; rw [if_neg (by omega)]
  · intro i hi ih
    have hm := mem_drop (drop132 l i hi)
    generalize hxx : rd_T79 l (i : Int) = x at hm
    refine Ev.step (f := fun k => (laws_eqKernel.f k x.f0 x.f1 x.f2.f0 x.f2.f1 x.f2.f2 x.f3 x.f4 x.f0 x.f1 x.f2.f0 x.f2.f1 x.f2.f2 x.f3 x.f4).bind fun t => if t = true then laws_eqKernelS.l0 k l l (wrap64 ((i : Int) + 1)) else some false) (fun k => ?_) ?_
    · simp only [laws_eqKernelS.l0, hxx]; rw [if_pos (by omega), if_pos (by omega), if_pos (by omega)]
    · exact Ev.bind (eqKernel x (hx x hm)) (Ev.congr (fun k => by rw [if_pos rfl, wn i (by omega)]) ih)
theorem eqNest (ss ins : List Int) (fx : List S71) (ks : List S79) (outs : List Int) (h : L20 ss.length ∧ L20 ins.length ∧ (L20 fx.length ∧ ∀ x ∈ fx, L20 x.f1.length) ∧ (L20 ks.length ∧ ∀ x ∈ ks, SK2 x) ∧ L20 outs.length) : Ev (fun k => laws_eqNest.f k ss ins fx ks outs ss ins fx ks outs) true := by
  obtain ⟨h1, h2, ⟨h3, h3'⟩, ⟨h4, h4'⟩, h5⟩ := h
  unfold laws_eqNest.f
  exact Ev.bind (eqInt ss h1) (Ev.congr (fun k => by rw [if_pos rfl]) (Ev.bind (eqInt ins h2) (Ev.congr (fun k => by rw [if_pos rfl]) (Ev.bind (eqFix fx h3 h3') (Ev.congr (fun k => by rw [if_pos rfl]) (Ev.bind (eqKernels ks h4 h4') (Ev.congr (fun k => by rw [if_pos rfl]) (Ev.yes (eqInt outs h5)))))))))

end Go.Proofs.Ytmcboiffbcnalaa.Pure
