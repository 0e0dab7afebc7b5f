/- The law's own functions: how much may come in, the copies, the comparison; LmOk on both sides. -/
import Derived.Test.YtdlhmhgpafegpaaEFnExactWeightsc
import Derived.Test.YtdlhmhgpafegpaaPFnExactWeightsx0
import Derived.Test.YtdlhmhgpafegpaaPFnExactWeightsx1
import Derived.Test.YtdlhmhgpafegpaaPFnExactWeightsx2
import Derived.Test.YtdlhmhgpafegpaaPFnExactWeightsx3
import Derived.Test.YtdlhmhgpafegpaaPFnExactWeightsx4
import Derived.Test.YtdlhmhgpafegpaaPFnExactWeightsx6
import Derived.Test.YtdlhmhgpafegpaaPFnExactWeightsx7
import Derived.Test.YtdlhmhgpafegpaaEFnExactWeightss
namespace Go.Proofs.Ytdlhmhgpafegpaa.Pure
open Go.RowKit Go.Proofs.Ytdlhmhgpafegpaa.PFnExactWeights Go.Proofs.YtdlhmhgpafegpaaW.PrintWords Go.Proofs.YtdlhmhgpafegpaaW.PrintLast Go.Proofs.YtdlhmhgpafegpaaW.PrintMore Go.Proofs.Ytdlhmhgpafegpaa.SortRows
set_option linter.unusedSimpArgs false
set_option linter.unusedVariables false
theorem lm_both (size : Int) (l : List S57) (hl : l.length ≤ 1048576) (hx : SmallR l) : ∃ v, Ev (fun k => spec_LmOk.f k size l) v ∧ Ev (fun k => impl_LmOk.f k size l) v := by
  unfold spec_LmOk.f impl_LmOk.f
  simp only [l5In_val, within_val, Option.bind_some]
  cases c1 : inR 1 64 size with
  | false => exact ⟨false, Ev.congr (fun k => by rw [if_neg (by decide)]) (Ev.now _), Ev.congr (fun k => by rw [if_neg (by decide)]) (Ev.now _)⟩
  | true =>
    by_cases c2 : l.length > 500
    · exact ⟨false, Ev.congr (fun k => by rw [if_pos rfl, if_pos (by omega)]) (Ev.now _), Ev.congr (fun k => by rw [if_pos rfl, if_pos (by omega)]) (Ev.now _)⟩
    · have hsz : 1 ≤ size ∧ size ≤ 64 := by unfold inR at c1; simpa using c1
      have S := spec_loop l size hsz.1 hsz.2 hl hx 0 (Nat.zero_le _) false
      rw [List.take_zero, List.drop_zero, lm_same] at S
      have hx2 : SmallR (sortL l) := fun x h => hx x ((sort_perm l).mem_iff.1 h)
      have I := impl_loop (sortL l) size l hsz.1 hsz.2 (by rw [sortL_length]; exact hl) hx2 0 (Nat.zero_le _)
      rw [List.drop_zero] at I
      refine ⟨_, Ev.congr (fun k => by rw [if_pos rfl, if_neg (by omega)]; rfl) S, Ev.congr (fun k => ?_) I⟩
      rw [if_pos rfl, if_neg (by omega)]
      unfold impl_sortedRows.f impl_Row_51.f
      simp only [Option.bind_some, List.length_nil, Nat.zero_add, List.nil_append]
      rw [if_pos (by omega)]
      simp only [Option.bind_some]
      rw [if_pos (by omega)]
      rfl
/-! ### sizes -/
def Sz (g : Nat → Option Int) (C : Prop) : Prop := ∃ t, Ev g t ∧ t ≤ 1048576 ∧ (0 ≤ t → C)
theorem Sz.congr {g f : Nat → Option Int} {C : Prop} (h : ∀ k, g k = f k) (k : Sz f C) : Sz g C := by
  obtain ⟨t, h1, h2⟩ := k
  exact ⟨t, Ev.congr h h1, h2⟩
theorem Sz.step {g f : Nat → Option Int} {C : Prop} (h : ∀ k, g (k + 1) = f k) (k : Sz f C) : Sz g C := by
  obtain ⟨t, h1, h2⟩ := k
  exact ⟨t, Ev.step h h1, h2⟩
theorem Sz.imp {g : Nat → Option Int} {C D : Prop} (k : Sz g C) (h : C → D) : Sz g D := by
  obtain ⟨t, h1, h2, h3⟩ := k
  exact ⟨t, h1, h2, fun ht => h (h3 ht)⟩
theorem Sz.next {g : Nat → Option Int} {f : Nat → Int → Option Int} {C D : Prop} (h : Sz g C) (k : ∀ t, 0 ≤ t → t ≤ 1048576 → Sz (fun n => f n t) D) : Sz (fun n => (g n).bind fun t => if t < 0 then some (-1) else f n t) (C ∧ D) := by
  obtain ⟨t, h1, h2, h3⟩ := h
  by_cases c : t < 0
  · exact ⟨-1, Ev.bind h1 (Ev.congr (fun n => by rw [if_pos c]) (Ev.now _)), by omega, fun h => by omega⟩
  · obtain ⟨s, k1, k2, k3⟩ := k t (by omega) h2
    exact ⟨s, Ev.bind h1 (Ev.congr (fun n => by rw [if_neg c]) k1), k2, fun hs => ⟨h3 (by omega), k3 hs⟩⟩
theorem Sz.last {g : Nat → Option Int} {C : Prop} (h : Sz g C) : Sz (fun n => (g n).bind fun t => if t < 0 then some (-1) else some t) C :=
  (Sz.next (f := fun _ t => some t) (D := True) h (fun t h0 h1 => ⟨t, Ev.now t, h1, fun _ => trivial⟩)).imp And.left
def L20 (n : Nat) : Prop := n ≤ 1048576
theorem szLen (n : Nat) (a : Int) (hn : n ≤ 9223372036854775807) (h0 : 0 ≤ a) (h1 : a ≤ 1048576) : wrap64 (a - (n : Int)) = a - n := w64 (by omega) (by omega)
theorem szInt (l : List Int) (a : Int) (hl : l.length ≤ 9223372036854775807) (h0 : 0 ≤ a) (h1 : a ≤ 1048576) : Sz (fun _ => laws_szIntS.f l a) (L20 l.length) := by
  unfold laws_szIntS.f
  rw [szLen l.length a hl h0 h1]
  by_cases c : a - (l.length : Int) < 0
  · rw [if_pos c]; exact ⟨-1, Ev.now _, by omega, fun h => by omega⟩
  · rw [if_neg c]; exact ⟨_, Ev.now _, by omega, fun _ => by unfold L20; omega⟩
def WR (x : S71) : Prop := x.f0.length ≤ 9223372036854775807 ∧ x.f1.length ≤ 9223372036854775807
def SR (x : S71) : Prop := L20 x.f0.length ∧ L20 x.f1.length
theorem szRows (l : List S71) (a : Int) (hl : l.length ≤ 9223372036854775807) (hx : ∀ x ∈ l, WR x) (h0 : 0 ≤ a) (h1 : a ≤ 1048576) : Sz (fun k => laws_szRowS.f k l a) (L20 l.length ∧ ∀ x ∈ l, SR x) := by
  unfold laws_szRowS.f
  rw [szLen l.length a hl h0 h1]
  by_cases c : a - (l.length : Int) < 0
  · exact ⟨-1, Ev.congr (fun k => by rw [if_pos c]) (Ev.now _), by omega, fun h => by omega⟩
  · have hL : l.length ≤ 1048576 := by omega
    refine Sz.congr (fun k => by rw [if_neg c]) (Sz.imp ?_ (fun h => ⟨hL, h⟩))
    refine down (P := fun i => ∀ a : Int, 0 ≤ a → a ≤ 1048576 → Sz (fun k => laws_szRowS.l0 k l a (i : Int)) (∀ x ∈ l.drop i, SR x)) (n := l.length) ?_ ?_ 0 (Nat.zero_le _) _ (by omega) (by omega)
    · intro a h0 h1
      exact ⟨a, Ev.stop fun k => by simp only [laws_szRowS.l0]; rw [if_neg (by omega)], h1, fun _ => by rw [List.drop_length]; simp⟩
    · intro i hi ih a h0 h1
      have e := drop71 l i hi
      have hm := mem_drop e
      rw [e]
      generalize hxx : rd_T71 l (i : Int) = x at hm
      refine Sz.step (f := fun k => (laws_szRow.f x.f0 x.f1 a).bind fun t => if t < 0 then some (-1) else laws_szRowS.l0 k l t (wrap64 ((i : Int) + 1))) (fun k => ?_) ?_
      · simp only [laws_szRowS.l0, hxx]; rw [if_pos (by omega), if_pos (by omega)]
      · refine Sz.imp (Sz.next (Sz.next (szInt x.f0 a (hx x hm).1 h0 h1) (fun t h0 h1 => Sz.last (szInt x.f1 t (hx x hm).2 h0 h1))) (fun t t0 t1 => Sz.congr (fun k => by rw [wn i (by omega)]) (ih t t0 t1))) (fun h => ?_)
        intro y hy
        rcases List.mem_cons.1 hy with rfl | hy
        · exact h.1
        · exact h.2 y hy
theorem szLm (size : Int) (l : List S71) (a : Int) (hl : l.length ≤ 9223372036854775807) (hx : ∀ x ∈ l, WR x) (h0 : 0 ≤ a) (h1 : a ≤ 1048576) : Sz (fun k => laws_szLm.f k size l a) (L20 l.length ∧ ∀ x ∈ l, SR x) := by
  unfold laws_szLm.f
  exact Sz.last (szRows l a hl hx h0 h1)
/-! ### copies -/
theorem fill_step {α : Type} (z : α) (m : List α) (i : Nat) (h : i < m.length) (x : α) (hx : m[i] = x) : (m.take i ++ List.replicate (m.length - i) z).set i x = m.take (i + 1) ++ List.replicate (m.length - (i + 1)) z := by
  subst hx
  rw [List.set_append_right _ _ (by simp; omega), show m.length - i = (m.length - (i + 1)) + 1 by omega, List.replicate_succ, List.length_take, Nat.min_eq_left (Nat.le_of_lt h), Nat.sub_self, List.set_cons_zero, List.take_succ_eq_append_getElem h, List.append_assoc]
  rfl
theorem fill_len {α : Type} (z : α) (m : List α) (i : Nat) (h : i ≤ m.length) : (m.take i ++ List.replicate (m.length - i) z).length = m.length := by
  simp; omega
theorem fill_end {α : Type} (z : α) (m : List α) : m.take m.length ++ List.replicate (m.length - m.length) z = m := by simp
theorem toInt (l : List Int) (hl : L20 l.length) : Ev (fun k => laws_toIntS.f k l) l := by
  unfold L20 at hl
  unfold laws_toIntS.f
  refine Ev.congr (fun k => by rw [if_pos (by omega), if_pos (by omega), Int.toNat_natCast]) ?_
  refine down (P := fun i => Ev (fun k => laws_toIntS.l0 k l (l.take i ++ List.replicate (l.length - i) 0) (i : Int)) l) (n := l.length) ?_ ?_ 0 (Nat.zero_le _)
  · rw [fill_end]
    exact Ev.stop fun k => by simp only [laws_toIntS.l0]; rw [if_neg (by omega)]
  · intro i hi ih
    refine Ev.step (fun k => ?_) ih
    simp only [laws_toIntS.l0]
    rw [if_pos (by omega), if_pos (by omega), if_pos (by rw [fill_len 0 l i (by omega)]; omega), Int.toNat_natCast, fill_step 0 l i hi _ (rd_lt l i hi).symm, wn i (by omega)]
def cRow (x : S71) : S57 := ⟨x.f0, x.f1⟩
theorem toRows (l : List S71) (hl : L20 l.length) (hx : ∀ x ∈ l, SR x) : Ev (fun k => laws_toRowS.f k l) (l.map cRow) := by
  unfold L20 at hl
  unfold laws_toRowS.f
  have hm : (l.map cRow).length = l.length := by simp
  refine Ev.congr (fun k => by rw [if_pos (by omega), if_pos (by omega), Int.toNat_natCast, ← hm]) ?_
  refine down (P := fun i => Ev (fun k => laws_toRowS.l0 k l ((l.map cRow).take i ++ List.replicate ((l.map cRow).length - i) z57) (i : Int)) (l.map cRow)) (n := l.length) ?_ ?_ 0 (Nat.zero_le _)
  · rw [← hm, fill_end]
    exact Ev.stop fun k => by simp only [laws_toRowS.l0]; rw [if_neg (by omega)]
  · intro i hi ih
    have e := drop71 l i hi
    have hmem := mem_drop e
    have hr : (l.map cRow)[i]'(by omega) = cRow (rd_T71 l (i : Int)) := by
      rw [List.getElem_map, show rd_T71 l (i : Int) = l[i] from getc z71 l i hi]
    generalize hxx : rd_T71 l (i : Int) = x at hmem hr
    refine Ev.step (f := fun k => (laws_toRow.f k x.f0 x.f1).bind fun bt => (if (i : Int) < ((((l.map cRow).take i ++ List.replicate ((l.map cRow).length - i) z57).length : Nat) : Int) then (laws_toRowS.l0 k l (((l.map cRow).take i ++ List.replicate ((l.map cRow).length - i) z57).set (i : Int).toNat (⟨bt.1, bt.2⟩ : S57)) (wrap64 ((i : Int) + 1))) else (none))) (fun k => ?_) ?_
    · simp only [laws_toRowS.l0, hxx]; rw [if_pos (by omega), if_pos (by omega)]
    · refine Ev.bind (a := (x.f0, x.f1)) (Ev.bind (toInt x.f0 (hx x hmem).1) (Ev.bind (toInt x.f1 (hx x hmem).2) (Ev.now _))) ?_
      refine Ev.congr (fun k => ?_) ih
      rw [if_pos (by rw [fill_len z57 _ i (by omega)]; omega), Int.toNat_natCast]
      show laws_toRowS.l0 k l (((l.map cRow).take i ++ List.replicate ((l.map cRow).length - i) z57).set i (cRow x)) (wrap64 ((i : Int) + 1)) = _
      rw [fill_step z57 (l.map cRow) i (by omega) _ hr, wn i (by omega)]
theorem toLm (size : Int) (l : List S71) (hl : L20 l.length) (hx : ∀ x ∈ l, SR x) : Ev (fun k => laws_toLm.f k size l) (size, l.map cRow) := by
  unfold laws_toLm.f
  exact Ev.bind (toRows l hl hx) (Ev.now _)
/-! ### a copy and another copy compare as the same -/
theorem Ev.yes {g : Nat → Option Bool} (h : Ev g true) : Ev (fun k => (g k).bind fun t => if t = true then some true else some false) true := Ev.bind h (Ev.now _)
theorem eqInt (l : List Int) (hl : L20 l.length) : Ev (fun k => laws_eqIntS.f k l l) true := by
  unfold L20 at hl
  unfold laws_eqIntS.f
  refine Ev.congr (fun k => by rw [if_pos rfl]) ?_
  refine down (P := fun i => Ev (fun k => laws_eqIntS.l0 k l l (i : Int)) true) (n := l.length) ?_ ?_ 0 (Nat.zero_le _)
  · exact Ev.stop fun k => by simp only [laws_eqIntS.l0]; rw [if_neg (by omega)]
  · intro i hi ih
    refine Ev.step (fun k => ?_) ih
    simp only [laws_eqIntS.l0]
    rw [if_pos (by omega), if_pos (by omega), if_pos (by omega), if_pos trivial, wn i (by omega)]
def SR2 (x : S57) : Prop := L20 x.f0.length ∧ L20 x.f1.length
theorem eqRows (l : List S57) (hl : L20 l.length) (hx : ∀ x ∈ l, SR2 x) : Ev (fun k => laws_eqRowS.f k l l) true := by
  unfold L20 at hl
  unfold laws_eqRowS.f
  refine Ev.congr (fun k => by rw [if_pos rfl]) ?_
  refine down (P := fun i => Ev (fun k => laws_eqRowS.l0 k l l (i : Int)) true) (n := l.length) ?_ ?_ 0 (Nat.zero_le _)
  · exact Ev.stop fun k => by simp only [laws_eqRowS.l0]; rw [if_neg (by omega)]
  · intro i hi ih
    have hm := mem_drop (drop57 l i hi)
    generalize hxx : rd_T57 l (i : Int) = x at hm
    refine Ev.step (f := fun k => (laws_eqRow.f k x.f0 x.f1 x.f0 x.f1).bind fun t => if t = true then laws_eqRowS.l0 k l l (wrap64 ((i : Int) + 1)) else some false) (fun k => ?_) ?_
    · simp only [laws_eqRowS.l0, hxx]; rw [if_pos (by omega), if_pos (by omega), if_pos (by omega)]
    · refine Ev.bind (a := true) ?_ (Ev.congr (fun k => by rw [if_pos rfl, wn i (by omega)]) ih)
      unfold laws_eqRow.f
      exact Ev.bind (eqInt x.f0 (hx x hm).1) (Ev.congr (fun k => by rw [if_pos rfl]) (Ev.yes (eqInt x.f1 (hx x hm).2)))
theorem eqLm (size : Int) (l : List S57) (hl : L20 l.length) (hx : ∀ x ∈ l, SR2 x) : Ev (fun k => laws_eqLm.f k size l size l) true := by
  unfold laws_eqLm.f
  refine Ev.congr (fun k => by rw [if_pos rfl]) (Ev.yes (eqRows l hl hx))
end Go.Proofs.Ytdlhmhgpafegpaa.Pure
