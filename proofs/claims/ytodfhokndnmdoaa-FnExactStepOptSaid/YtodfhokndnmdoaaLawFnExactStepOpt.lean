/- The law FnExactStepOpt holds as given: for every input it returns true, and each argument reads behind the call as it read before; no condition. -/
import Derived.Test.YtodfhokndnmdoaaRows
import Derived.Test.YtodfhokndnmdoaaPFnExactStepOptx13
import Derived.Test.YtodfhokndnmdoaaPureFnExactStepOpt
import Derived.WalkKit
import Derived.ProofKit
import Derived.OpenShut
import Derived.ShutString
import Derived.ChangeOld
import Derived.Below
import Derived.SizedLaws
namespace Go.Proofs.Ytodfhokndnmdoaa.fnExactStepOpt
open Go.ChangeShapes Go.WideShapes Go.ChangeAt Go.RowKit Go.Proofs.Ytodfhokndnmdoaa.PFnExactStepOpt Go.Proofs.YtodfhokndnmdoaaW.PrintWords
open Go.ChangeMaps (open_string shut_string)
set_option linter.unusedVariables false
set_option linter.unusedSimpArgs false
theorem own : ownKnob Try.prog.godebug = none := by kernel_rfl
theorem laidOut : laidOutB Try.prog = true := by kernel_rfl
/-- Values of type t, as the row's reader reads them, are of the kind d, and of the sizes W. -/
def Opens (P : Program) (t : TypeId) {α : Type} (d : Kd α) (W : α → Prop) : Prop :=
  ∀ {H : Type} (enc : TypeId × Value → H) (w : World) (base : Nat) (spare : Nat → Bool) (held : Bool) (fuel : Nat) (cs : List Value) (x : DataW H × List MemPlace), DataW.trod enc P w base spare held fuel t cs = some x → ∃ a : α, d.K w a cs ∧ W a
theorem opens_int {P : Program} {t : TypeId} {k : IntKind} (ht : P.underlying t = some (.int k)) : Opens P t (Kd.int k) (fun n => (Lit.int k n).wf = true) := by
  intro H enc w base spare held fuel cs x h
  obtain ⟨n, rfl, _, hw⟩ := DataW.trod_int ht h
  exact ⟨n, rfl, hw⟩
theorem opens_bool {P : Program} {t : TypeId} (ht : P.underlying t = some .bool) : Opens P t Kd.bool (fun _ => True) := by
  intro H enc w base spare held fuel cs x h
  obtain ⟨n, rfl, _⟩ := DataW.trod_bool ht h
  exact ⟨n, rfl, trivial⟩
theorem opens_string {P : Program} {t : TypeId} (ht : P.underlying t = some .string) : Opens P t Kd.string (fun s => s.size ≤ maxLen) := by
  intro H enc w base spare held fuel cs x h
  obtain ⟨n, rfl, _, hs⟩ := DataW.trod_string ht h
  exact ⟨n, rfl, hs⟩
theorem list_choose {α : Type} {Q : Nat → α → Prop} : ∀ n, (∀ i, i < n → ∃ x, Q i x) → ∃ xs : List α, xs.length = n ∧ ∀ j p, xs[j]? = some p → Q j p
  | 0, _ => ⟨[], rfl, fun j p h => by simp at h⟩
  | n + 1, h => by
    obtain ⟨xs, hl, hq⟩ := list_choose n (fun i hi => h i (by omega))
    obtain ⟨x, hx⟩ := h n (by omega)
    refine ⟨xs ++ [x], by simp [hl], fun j p hj => ?_⟩
    by_cases c : j < xs.length
    · rw [List.getElem?_append_left c] at hj; exact hq j p hj
    · have : j < (xs ++ [x]).length := (List.getElem?_eq_some_iff.1 hj).1
      obtain rfl : j = n := by simp at this; omega
      rw [List.getElem?_append_right (by omega), hl] at hj
      simp at hj; subst hj; exact hx
theorem opens_slice {P : Program} {t e : TypeId} {α : Type} {d : Kd α} {W : α → Prop} (ht : P.underlying t = some (.slice e)) (hsz : P.cellsOf e = d.sz) (h : Opens P e d W) : Opens P t (Kd.slice e d) (fun xs => xs.length ≤ maxLen ∧ ∀ x ∈ xs, W x) := by
  intro H enc w base spare held fuel cs x hx
  rcases DataW.trod_slice ht hx with ⟨rfl, _⟩ | ⟨a, len, cap, elems, rest, n, _, rfl, _, _, hl, hm, hlen, hel, _, _⟩
  · exact ⟨[], ⟨none, 0, rfl, Nat.le_refl _, rfl, by simp, fun hh => by simp at hh⟩, by simp, by simp⟩
  · obtain ⟨xs, hxl, hq⟩ := list_choose (Q := fun i (y : α) => ∃ c : List Value, c.length = d.sz ∧ d.K w y c ∧ (∀ j u, c[j]? = some u → w.cell? (a.add (i * d.sz + j)) = some u) ∧ W y) len (fun i hi => by
      have hi' := hel i hi
      rw [List.getElem?_eq_getElem (by omega), Option.bind_eq_some_iff] at hi'
      obtain ⟨c, hc, htr⟩ := hi'
      obtain ⟨y, hy, hw⟩ := h enc w base spare held n c _ htr
      obtain ⟨_, h2, h3⟩ := World.cells?_some hc
      refine ⟨y, c, d.K_len hy, hy, fun j u hj => ?_, hw⟩
      have hjl : j < c.length := (List.getElem?_eq_some_iff.1 hj).1
      have := h3 j (by omega)
      rw [Addr.add_add, hsz] at this
      rw [this, hj])
    have hmx : len ≤ 9223372036854775807 := by simp only [maxLen] at hm; omega
    refine ⟨xs, ⟨some a, cap, by rw [hxl], by omega, ?_⟩, by rw [hxl]; omega, ?_⟩
    · rw [hxl]
      exact ⟨hxl, hmx, fun _ => ⟨a, rfl, fun j p hj => by
        obtain ⟨c, h1, h2, h3, _⟩ := hq j p hj
        exact ⟨c, h1, h2, h3⟩⟩⟩
    · intro y hy
      obtain ⟨j, hj, rfl⟩ := List.getElem_of_mem hy
      obtain ⟨c, _, _, _, hw⟩ := hq j _ (List.getElem?_eq_getElem hj)
      exact hw
theorem trod_fields {P : Program} {t : TypeId} {fs : Array Field} (ht : P.underlying t = some (.struct fs)) {H : Type} {enc : TypeId × Value → H} {w : World} {base : Nat} {spare : Nat → Bool} {held : Bool} {fuel : Nat} {cs : List Value} {x : DataW H × List MemPlace} (h : DataW.trod enc P w base spare held fuel t cs = some x) :
    cs.length = P.cellsOf t ∧ ∃ n, ∀ f ∈ fs.toList, ∃ y, DataW.trod enc P w base spare held n f.type ((cs.drop f.offset).take (P.cellsOf f.type)) = some y := by
  cases fuel with
  | zero => simp [DataW.trod] at h
  | succ n =>
    unfold DataW.trod at h
    rw [ht] at h
    simp only at h
    split at h
    · rename_i hl
      refine ⟨hl, n, fun f hf => ?_⟩
      obtain ⟨xs, hxs, -⟩ := Option.map_eq_some_iff.1 h
      clear h ht hl
      generalize fs.toList = l at *
      induction l generalizing xs with
      | nil => cases hf
      | cons g l ih =>
        rw [List.mapM_cons] at hxs
        simp only [Option.bind_eq_bind, Option.bind_eq_some_iff] at hxs
        obtain ⟨y, hy, ys, hys, _⟩ := hxs
        rcases List.mem_cons.1 hf with rfl | hf
        · exact ⟨y, hy⟩
        · first | exact ih _ hys hf | exact ih _ hf hys
    · cases h
theorem pair_split {α β : Type} {a : Kd α} {b : Kd β} {w : World} {x : α} {y : β} {cs : List Value} (n : Nat) (h1 : a.K w x (cs.take n)) (h2 : b.K w y (cs.drop n)) : (Kd.pair a b).K w (x, y) cs :=
  ⟨_, _, (List.take_append_drop n cs).symm, h1, h2⟩
theorem opens_T23 : Opens Try.prog 23 k23 WT23 := by
  intro H enc w base spare held fuel cs x h
  obtain ⟨hl, n, hf⟩ := trod_fields Try.underlying23 h
  rw [show Try.prog.cellsOf 23 = 4 by kernel_rfl] at hl
  obtain ⟨y0, e0⟩ := hf _ (List.mem_iff_getElem?.2 ⟨0, rfl⟩)
  obtain ⟨a0, k0, w0⟩ := (opens_int Try.underlying3) enc w base spare held n _ _ e0
  replace k0 : (Kd.int .i64).K w a0 ((cs.drop 0).take (Try.prog.cellsOf 3)) := k0
  rw [show Try.prog.cellsOf 3 = 1 by kernel_rfl] at k0
  obtain ⟨y1, e1⟩ := hf _ (List.mem_iff_getElem?.2 ⟨1, rfl⟩)
  obtain ⟨a1, k1, w1⟩ := (opens_int Try.underlying3) enc w base spare held n _ _ e1
  replace k1 : (Kd.int .i64).K w a1 ((cs.drop 1).take (Try.prog.cellsOf 3)) := k1
  rw [show Try.prog.cellsOf 3 = 1 by kernel_rfl] at k1
  obtain ⟨y2, e2⟩ := hf _ (List.mem_iff_getElem?.2 ⟨2, rfl⟩)
  obtain ⟨a2, k2, w2⟩ := (opens_int Try.underlying3) enc w base spare held n _ _ e2
  replace k2 : (Kd.int .i64).K w a2 ((cs.drop 2).take (Try.prog.cellsOf 3)) := k2
  rw [show Try.prog.cellsOf 3 = 1 by kernel_rfl] at k2
  obtain ⟨y3, e3⟩ := hf _ (List.mem_iff_getElem?.2 ⟨3, rfl⟩)
  obtain ⟨a3, k3, w3⟩ := (opens_int Try.underlying3) enc w base spare held n _ _ e3
  replace k3 : (Kd.int .i64).K w a3 ((cs.drop 3).take (Try.prog.cellsOf 3)) := k3
  rw [show Try.prog.cellsOf 3 = 1 by kernel_rfl] at k3
  refine ⟨(⟨a0, a1, a2, a3⟩ : S23), ?_, ⟨w0, w1, w2, w3⟩⟩
  show (Kd.pair (Kd.int .i64) (Kd.pair (Kd.int .i64) (Kd.pair (Kd.int .i64) (Kd.int .i64)))).K w (a0, (a1, (a2, a3))) cs
  refine pair_split 1 ?_ (pair_split 1 ?_ (pair_split 1 ?_ (?_)))
  · (try simp only [List.drop_drop, List.drop_zero, Nat.reduceAdd] at k0 ⊢); exact k0
  · (try simp only [List.drop_drop, List.drop_zero, Nat.reduceAdd] at k1 ⊢); exact k1
  · (try simp only [List.drop_drop, List.drop_zero, Nat.reduceAdd] at k2 ⊢); exact k2
  · (try simp only [List.drop_drop, List.drop_zero, Nat.reduceAdd] at k3 ⊢); rw [List.take_of_length_le (by (try rw [List.length_drop]); omega)] at k3; exact k3
theorem opens_T25 : Opens Try.prog 25 k25 WT25 := by
  intro H enc w base spare held fuel cs x h
  obtain ⟨hl, n, hf⟩ := trod_fields Try.underlying25 h
  rw [show Try.prog.cellsOf 25 = 11 by kernel_rfl] at hl
  obtain ⟨y0, e0⟩ := hf _ (List.mem_iff_getElem?.2 ⟨0, rfl⟩)
  obtain ⟨a0, k0, w0⟩ := (opens_int Try.underlying3) enc w base spare held n _ _ e0
  replace k0 : (Kd.int .i64).K w a0 ((cs.drop 0).take (Try.prog.cellsOf 3)) := k0
  rw [show Try.prog.cellsOf 3 = 1 by kernel_rfl] at k0
  obtain ⟨y1, e1⟩ := hf _ (List.mem_iff_getElem?.2 ⟨1, rfl⟩)
  obtain ⟨a1, k1, w1⟩ := opens_T23 enc w base spare held n _ _ e1
  replace k1 : k23.K w a1 ((cs.drop 1).take (Try.prog.cellsOf 23)) := k1
  rw [show Try.prog.cellsOf 23 = 4 by kernel_rfl] at k1
  obtain ⟨y2, e2⟩ := hf _ (List.mem_iff_getElem?.2 ⟨2, rfl⟩)
  obtain ⟨a2, k2, w2⟩ := (opens_int Try.underlying3) enc w base spare held n _ _ e2
  replace k2 : (Kd.int .i64).K w a2 ((cs.drop 5).take (Try.prog.cellsOf 3)) := k2
  rw [show Try.prog.cellsOf 3 = 1 by kernel_rfl] at k2
  obtain ⟨y3, e3⟩ := hf _ (List.mem_iff_getElem?.2 ⟨3, rfl⟩)
  obtain ⟨a3, k3, w3⟩ := (opens_int Try.underlying3) enc w base spare held n _ _ e3
  replace k3 : (Kd.int .i64).K w a3 ((cs.drop 6).take (Try.prog.cellsOf 3)) := k3
  rw [show Try.prog.cellsOf 3 = 1 by kernel_rfl] at k3
  obtain ⟨y4, e4⟩ := hf _ (List.mem_iff_getElem?.2 ⟨4, rfl⟩)
  obtain ⟨a4, k4, w4⟩ := (opens_int Try.underlying3) enc w base spare held n _ _ e4
  replace k4 : (Kd.int .i64).K w a4 ((cs.drop 7).take (Try.prog.cellsOf 3)) := k4
  rw [show Try.prog.cellsOf 3 = 1 by kernel_rfl] at k4
  obtain ⟨y5, e5⟩ := hf _ (List.mem_iff_getElem?.2 ⟨5, rfl⟩)
  obtain ⟨a5, k5, w5⟩ := (opens_int Try.underlying3) enc w base spare held n _ _ e5
  replace k5 : (Kd.int .i64).K w a5 ((cs.drop 8).take (Try.prog.cellsOf 3)) := k5
  rw [show Try.prog.cellsOf 3 = 1 by kernel_rfl] at k5
  obtain ⟨y6, e6⟩ := hf _ (List.mem_iff_getElem?.2 ⟨6, rfl⟩)
  obtain ⟨a6, k6, w6⟩ := (opens_int Try.underlying3) enc w base spare held n _ _ e6
  replace k6 : (Kd.int .i64).K w a6 ((cs.drop 9).take (Try.prog.cellsOf 3)) := k6
  rw [show Try.prog.cellsOf 3 = 1 by kernel_rfl] at k6
  obtain ⟨y7, e7⟩ := hf _ (List.mem_iff_getElem?.2 ⟨7, rfl⟩)
  obtain ⟨a7, k7, w7⟩ := (opens_int Try.underlying3) enc w base spare held n _ _ e7
  replace k7 : (Kd.int .i64).K w a7 ((cs.drop 10).take (Try.prog.cellsOf 3)) := k7
  rw [show Try.prog.cellsOf 3 = 1 by kernel_rfl] at k7
  refine ⟨(⟨a0, a1, a2, a3, a4, a5, a6, a7⟩ : S25), ?_, ⟨w0, w1, w2, w3, w4, w5, w6, w7⟩⟩
  show (Kd.pair (Kd.int .i64) (Kd.pair k23 (Kd.pair (Kd.int .i64) (Kd.pair (Kd.int .i64) (Kd.pair (Kd.int .i64) (Kd.pair (Kd.int .i64) (Kd.pair (Kd.int .i64) (Kd.int .i64)))))))).K w (a0, (a1, (a2, (a3, (a4, (a5, (a6, a7))))))) cs
  refine pair_split 1 ?_ (pair_split 4 ?_ (pair_split 1 ?_ (pair_split 1 ?_ (pair_split 1 ?_ (pair_split 1 ?_ (pair_split 1 ?_ (?_)))))))
  · (try simp only [List.drop_drop, List.drop_zero, Nat.reduceAdd] at k0 ⊢); exact k0
  · (try simp only [List.drop_drop, List.drop_zero, Nat.reduceAdd] at k1 ⊢); exact k1
  · (try simp only [List.drop_drop, List.drop_zero, Nat.reduceAdd] at k2 ⊢); exact k2
  · (try simp only [List.drop_drop, List.drop_zero, Nat.reduceAdd] at k3 ⊢); exact k3
  · (try simp only [List.drop_drop, List.drop_zero, Nat.reduceAdd] at k4 ⊢); exact k4
  · (try simp only [List.drop_drop, List.drop_zero, Nat.reduceAdd] at k5 ⊢); exact k5
  · (try simp only [List.drop_drop, List.drop_zero, Nat.reduceAdd] at k6 ⊢); exact k6
  · (try simp only [List.drop_drop, List.drop_zero, Nat.reduceAdd] at k7 ⊢); rw [List.take_of_length_le (by (try rw [List.length_drop]); omega)] at k7; exact k7
theorem opens_T28 : Opens Try.prog 28 k28 WT28 := by
  intro H enc w base spare held fuel cs x h
  obtain ⟨hl, n, hf⟩ := trod_fields Try.underlying28 h
  rw [show Try.prog.cellsOf 28 = 6 by kernel_rfl] at hl
  obtain ⟨y0, e0⟩ := hf _ (List.mem_iff_getElem?.2 ⟨0, rfl⟩)
  obtain ⟨a0, k0, w0⟩ := (opens_slice Try.underlying26 (by kernel_rfl) (opens_int Try.underlying3)) enc w base spare held n _ _ e0
  replace k0 : (Kd.slice 3 (Kd.int .i64)).K w a0 ((cs.drop 0).take (Try.prog.cellsOf 26)) := k0
  rw [show Try.prog.cellsOf 26 = 1 by kernel_rfl] at k0
  obtain ⟨y1, e1⟩ := hf _ (List.mem_iff_getElem?.2 ⟨1, rfl⟩)
  obtain ⟨a1, k1, w1⟩ := (opens_slice Try.underlying26 (by kernel_rfl) (opens_int Try.underlying3)) enc w base spare held n _ _ e1
  replace k1 : (Kd.slice 3 (Kd.int .i64)).K w a1 ((cs.drop 1).take (Try.prog.cellsOf 26)) := k1
  rw [show Try.prog.cellsOf 26 = 1 by kernel_rfl] at k1
  obtain ⟨y2, e2⟩ := hf _ (List.mem_iff_getElem?.2 ⟨2, rfl⟩)
  obtain ⟨a2, k2, w2⟩ := (opens_slice Try.underlying26 (by kernel_rfl) (opens_int Try.underlying3)) enc w base spare held n _ _ e2
  replace k2 : (Kd.slice 3 (Kd.int .i64)).K w a2 ((cs.drop 2).take (Try.prog.cellsOf 26)) := k2
  rw [show Try.prog.cellsOf 26 = 1 by kernel_rfl] at k2
  obtain ⟨y3, e3⟩ := hf _ (List.mem_iff_getElem?.2 ⟨3, rfl⟩)
  obtain ⟨a3, k3, w3⟩ := (opens_int Try.underlying3) enc w base spare held n _ _ e3
  replace k3 : (Kd.int .i64).K w a3 ((cs.drop 3).take (Try.prog.cellsOf 3)) := k3
  rw [show Try.prog.cellsOf 3 = 1 by kernel_rfl] at k3
  obtain ⟨y4, e4⟩ := hf _ (List.mem_iff_getElem?.2 ⟨4, rfl⟩)
  obtain ⟨a4, k4, w4⟩ := (opens_int Try.underlying3) enc w base spare held n _ _ e4
  replace k4 : (Kd.int .i64).K w a4 ((cs.drop 4).take (Try.prog.cellsOf 3)) := k4
  rw [show Try.prog.cellsOf 3 = 1 by kernel_rfl] at k4
  obtain ⟨y5, e5⟩ := hf _ (List.mem_iff_getElem?.2 ⟨5, rfl⟩)
  obtain ⟨a5, k5, w5⟩ := (opens_int Try.underlying3) enc w base spare held n _ _ e5
  replace k5 : (Kd.int .i64).K w a5 ((cs.drop 5).take (Try.prog.cellsOf 3)) := k5
  rw [show Try.prog.cellsOf 3 = 1 by kernel_rfl] at k5
  refine ⟨(⟨a0, a1, a2, a3, a4, a5⟩ : S28), ?_, ⟨w0, w1, w2, w3, w4, w5⟩⟩
  show (Kd.pair (Kd.slice 3 (Kd.int .i64)) (Kd.pair (Kd.slice 3 (Kd.int .i64)) (Kd.pair (Kd.slice 3 (Kd.int .i64)) (Kd.pair (Kd.int .i64) (Kd.pair (Kd.int .i64) (Kd.int .i64)))))).K w (a0, (a1, (a2, (a3, (a4, a5))))) cs
  refine pair_split 1 ?_ (pair_split 1 ?_ (pair_split 1 ?_ (pair_split 1 ?_ (pair_split 1 ?_ (?_)))))
  · (try simp only [List.drop_drop, List.drop_zero, Nat.reduceAdd] at k0 ⊢); exact k0
  · (try simp only [List.drop_drop, List.drop_zero, Nat.reduceAdd] at k1 ⊢); exact k1
  · (try simp only [List.drop_drop, List.drop_zero, Nat.reduceAdd] at k2 ⊢); exact k2
  · (try simp only [List.drop_drop, List.drop_zero, Nat.reduceAdd] at k3 ⊢); exact k3
  · (try simp only [List.drop_drop, List.drop_zero, Nat.reduceAdd] at k4 ⊢); exact k4
  · (try simp only [List.drop_drop, List.drop_zero, Nat.reduceAdd] at k5 ⊢); rw [List.take_of_length_le (by (try rw [List.length_drop]); omega)] at k5; exact k5
set_option maxRecDepth 100000 in
theorem lifted (os : Os) (started : os.Started) (H : Type) (enc : TypeId × Value → H) :
    ReturnsInHanded {} Try.checked os 3 .any (Rows.fnExactStepOptSpec.pre6 enc Try.prog Try.f3 Rows.fnExactStepOptRow.domain false) (Rows.fnExactStepOptSpec.post enc Try.prog Try.f3 false true false false) := by
  refine returnsInHanded_of_change_sized (C := Try.checked) own started (by kernel_rfl) Try.func3
    (ChangeSpec.witness6 (enc := enc) (C := Try.checked) false ⟨#[], #[.agg #[(.int .i64 0), (.int .i64 0), (.int .i64 0), (.int .i64 0), (.int .i64 0), (.int .i64 0), (.int .i64 0), (.int .i64 0), (.int .i64 0), (.int .i64 0), (.int .i64 0)], .agg #[(.slice none 0 0), (.slice none 0 0), (.slice none 0 0), (.int .i64 0), (.int .i64 0), (.int .i64 0)], .slice none 0 0], []⟩ 8 (by kernel_rfl) (by kernel_rfl) (by kernel_rfl) (by kernel_rfl)) ?_
  intro W base args ds gs before hval0 hW hcnd hsz0 _
  have hval : ∀ (j : Nat) t v, Try.f3.params[j]? = some t → args[j]? = some v → Value.okWide Try.prog W .any base t v := hval0
  have hW' := hW
  obtain ⟨p, q, hA0, hV, rfl, hfz, hnd⟩ := hW
  have hA : DataW.TrodAll enc Try.prog W 0 (fun _ => true) true Try.f3.params.toList args.toList ds p := hA0
  rw [Try.params3] at hA hval
  obtain ⟨v0, vs0, d0, ds0, p0, q0, hargs, rfl, rfl, h0, r0⟩ := trodAll_cons hA
  obtain ⟨v1, vs1, d1, ds1, p1, q1, rfl, rfl, rfl, h1, r1⟩ := trodAll_cons r0
  obtain ⟨v2, vs2, d2, ds2, p2, q2, rfl, rfl, rfl, h2, r2⟩ := trodAll_cons r1
  obtain ⟨rfl, rfl, rfl⟩ := trodAll_nil r2
  obtain rfl : args = #[v0, v1, v2] := by cases args; simp_all
  obtain ⟨rfl, rfl⟩ := trodVars_none hV
  have k0 := h0
  have lt0 : ∀ x ∈ p0, x.block < W.heap.size := by obtain ⟨m, hm⟩ := k0; exact DataW.trod_lt m _ _ _ hm
  obtain ⟨cs0, rfl, _⟩ := okWide_struct Try.underlying25 (hval 0 25 v0 rfl rfl)
  obtain ⟨fuel0, hf0⟩ := h0
  obtain ⟨x0, kx0, wx0⟩ := opens_T25 enc W 0 _ _ _ cs0.toList _ hf0
  have k1 := h1
  have lt1 : ∀ x ∈ p1, x.block < W.heap.size := by obtain ⟨m, hm⟩ := k1; exact DataW.trod_lt m _ _ _ hm
  obtain ⟨cs1, rfl, _⟩ := okWide_struct Try.underlying28 (hval 1 28 v1 rfl rfl)
  obtain ⟨fuel1, hf1⟩ := h1
  obtain ⟨x1, kx1, wx1⟩ := opens_T28 enc W 0 _ _ _ cs1.toList _ hf1
  have k2 := h2
  have lt2 : ∀ x ∈ p2, x.block < W.heap.size := by obtain ⟨m, hm⟩ := k2; exact DataW.trod_lt m _ _ _ hm
  obtain ⟨a2, len2, cap2, rfl⟩ := okWide_slice Try.underlying26 (hval 2 26 v2 rfl rfl)
  obtain ⟨fuel2, hf2⟩ := h2
  obtain ⟨x2, ⟨A2, c2, hcs2, hcl2, kx2⟩, wx2⟩ := (opens_slice Try.underlying26 (by kernel_rfl) (opens_int Try.underlying3)) enc W 0 _ _ _ [.slice a2 len2 cap2] _ hf2
  obtain ⟨rfl, rfl, rfl⟩ : a2 = A2 ∧ len2 = x2.length ∧ cap2 = c2 := by simpa using hcs2
  clear hA0 hval0 hsz0
  refine (laws_FnExactStepOpt.walk Pure.FnExactStepOpt x0 cs0 x1 cs1 x2 a2 cap2 W kx0 kx1 kx2 hcl2 wx0 wx1 wx2).mono fun e W' ⟨he, bel⟩ => ?_
  subst he
  exact ⟨_, rfl, _, _, _, [], _, [], hW', trodAll_mk1 (shut_bool Try.underlying4 _), (trodAll_cons_mk (Below.trod laidOut (by kernel_rfl) (of_decide_eq_true (by kernel_rfl)) k0 bel lt0) (trodAll_cons_mk (Below.trod laidOut (by kernel_rfl) (of_decide_eq_true (by kernel_rfl)) k1 bel lt1) (trodAll_cons_mk (Below.trod laidOut (by kernel_rfl) (of_decide_eq_true (by kernel_rfl)) k2 bel lt2) trodAll_mk0))), rfl, bel.frame _, fun h => by cases h⟩
theorem over : Rows.fnExactStepOptRow.holds Try.pinned (OpenSpec.ofChange Rows.fnExactStepOptSpec) :=
  OpenClaim.holds_of_wide 3 Try.f3 rfl rfl rfl rfl rfl rfl rfl ⟨rfl, rfl, rfl, rfl, rfl⟩ rfl rfl rfl rfl rfl (by kernel_rfl) Try.func3 (by kernel_rfl)
    (of_decide_eq_true (by kernel_rfl)) (by unfold Func.isWrapper; first | (rw [if_pos (by decide +kernel)]; kernel_rfl) | (rw [if_neg (by decide +kernel)]; exact ⟨rfl, rfl⟩))
    (fun os started H enc _ => lifted os started H enc)
theorem proved : Rows.FnExactStepOptSaid := over
#print axioms proved
end Go.Proofs.Ytodfhokndnmdoaa.fnExactStepOpt
namespace Go.Proofs.Ytodfhokndnmdoaa
/-- The row, under a short name, for the claim. -/
theorem fnExactStepOpt_holds : Rows.FnExactStepOptSaid := fnExactStepOpt.proved
end Go.Proofs.Ytodfhokndnmdoaa
