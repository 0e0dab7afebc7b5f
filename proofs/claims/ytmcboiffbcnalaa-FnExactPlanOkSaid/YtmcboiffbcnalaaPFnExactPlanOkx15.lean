-- Printed out of the translation by this session's own turned copy of a printer; Lean checks it.
import Derived.Test.YtmcboiffbcnalaaPFnExactPlanOkx0
import Derived.Test.YtmcboiffbcnalaaPFnExactPlanOkx14
namespace Go.Proofs.Ytmcboiffbcnalaa.PFnExactPlanOk
open Go.RowKit Go.Proofs.YtmcboiffbcnalaaW.PrintWords Go.Proofs.YtmcboiffbcnalaaW.PrintLast Go.Proofs.YtmcboiffbcnalaaW.PrintMore
attribute [local go_sem] max2_int min2_int max_two min_two max_three min_three max_four min_four
set_option linter.unusedVariables false
set_option linter.unusedSimpArgs false
set_option maxHeartbeats 8000000
set_option maxRecDepth 100000
/-- May a buffer be taken. -/
def impl_Nest_given.takeB (o : List Bool) (b : Int) : Bool := decide (0 ≤ b) && decide (b < (o.length : Int)) && !(rdOf false o b)
theorem impl_Nest_given.take_no (b : Int) (g : Nat) (v : Value) (o : List Bool) (base : Nat) (ok : Nat → Prop) (w : World) (hk : w.heap[g]? = some (.cells #[v] 58 (0, 0))) (hR : Kd.R Kd.bool 4 w base ok v o) (h : impl_Nest_given.takeB o b = false) :
 Calls Try.prog 65 #[.int .i64 b, .pointer (some ⟨g, 0, none⟩)] w fun e w' => e = .returned (.bool false) ∧ w = w' := by
 obtain ⟨A, c, rfl⟩ := Kd.R_slice hR
 have hx : w.cell? ⟨g, 0, none⟩ = some (.slice A o.length c) := by have := zc hk 0; simpa using this
 have HR := zK hR
 have HK := zK hk
 clear hR hk
 by_cases a : b < 0
 · have c1b : decide (b < 0) = true := z1 a
   clear a h
   go_enter Try.func65, Try.ntmps65
   go_wp2
   go_ret
   exact ⟨rfl, rfl⟩
 have c1b := z2 a
 by_cases l : (o.length : Int) ≤ b
 · have c2b : decide ((o.length : Int) ≤ b) = true := z1 l
   clear a l h
   go_enter Try.func65, Try.ntmps65
   go_wp2
   go_ret
   exact ⟨rfl, rfl⟩
 have c2b := z2 l
 have q : rdOf false o b = true := by
  unfold impl_Nest_given.takeB at h
  rw [z1 (by omega), z1 (by omega)] at h
  simpa using h
 obtain ⟨go, co, eo, gb, gl, cl, HG⟩ := Kd.R_form HR.out (by omega)
 cases eo
 obtain ⟨u, hf1⟩ := Kd.R_celln false HR.out b (by omega) (by omega)
 rw [q] at u
 have x := eq_true (show 0 ≤ b by omega)
 have y := eq_true (show b < (o.length : Int) by omega)
 clear HG gb gl h q hf1 a l
 go_enter Try.func65, Try.ntmps65
 go_wp2
 go_ret
 exact ⟨rfl, rfl⟩
theorem impl_Nest_given.take_yes (b : Int) (g : Nat) (v : Value) (o : List Bool) (w0 : World) (ok : Nat → Prop) (w : World) (hB : Below w0.heap.size w0 w) (hk : w.heap[g]? = some (.cells #[v] 58 (0, 0))) (hR : Kd.R Kd.bool 4 w w0.heap.size ok v o) (h : impl_Nest_given.takeB o b = true) :
 Calls Try.prog 65 #[.int .i64 b, .pointer (some ⟨g, 0, none⟩)] w fun e w' => e = .returned (.bool true) ∧ Kd.R Kd.bool 4 w' w0.heap.size ok v (o.set b.toNat true) ∧ (∀ k, some k ≠ v.ownBlock → w'.heap[k]? = w.heap[k]?) ∧ Below w0.heap.size w0 w' := by
 obtain ⟨A, c, rfl⟩ := Kd.R_slice hR
 have hx : w.cell? ⟨g, 0, none⟩ = some (.slice A o.length c) := by have := zc hk 0; simpa using this
 have HR := zK hR
 have HB := zK hB
 clear hR hk hB
 unfold impl_Nest_given.takeB at h
 simp only [Bool.and_eq_true, decide_eq_true_eq, Bool.not_eq_true'] at h
 obtain ⟨⟨a, h1⟩, l⟩ := h
 have c1b : decide (b < 0) = false := z2 (by omega)
 have c2b : decide ((o.length : Int) ≤ b) = false := z2 (by omega)
 obtain ⟨go, co, eo, gb, gl, cl, HG⟩ := Kd.R_form HR.out (by omega)
 cases eo
 obtain ⟨q, hf1⟩ := Kd.R_celln false HR.out b (by omega) (by omega)
 have HP := zK (Kd.R_putg HR.out b true)
 have GB := zK gb
 rw [l] at q
 have u := eq_true a
 have x := eq_true h1
 clear HG gb gl l a h1
 go_enter Try.func65, Try.ntmps65
 go_wp2
 go_ret
 exact ⟨rfl, HP.out.1, fun k hk => Below.heap_setCell _ _ _ k (fun e => hk (by rw [e]; rfl)), zs HB.out GB.out⟩
def impl_Nest_given.insL : List Int → List Bool → Option (List Bool)
 | [], o => some o
 | b :: r, o => if impl_Nest_given.takeB o b = true then impl_Nest_given.insL r (o.set b.toNat true) else none
def impl_Nest_given.numsB (l : List Int) : Bool := l.all fun x => decide (0 ≤ x) && decide (x < 2147483647)
def impl_Nest_given.fixL (sizes : List Int) : List S71 → List Bool → Option (List Bool)
 | [], o => some o
 | f :: r, o => if impl_Nest_given.takeB o f.f0 = true then (if (f.f1.length : Int) = rd sizes f.f0 then (if impl_Nest_given.numsB f.f1 = true then impl_Nest_given.fixL sizes r (o.set f.f0.toNat true) else none) else none) else none
def impl_Nest_given.given_f (a l : List Int) (q : List S71) : List Bool × Bool :=
 match impl_Nest_given.insL l (List.replicate a.length false) with
 | none => ([], false)
 | some o => match impl_Nest_given.fixL a q o with
  | none => ([], false)
  | some o => (o, true)
theorem impl_Nest_given.isNum_ok (a : Int) : impl_isNum.f a = some (decide (0 ≤ a) && decide (a < 2147483647)) := by
 unfold impl_isNum.f
 split
 · rw [z1 (by omega : (0 : Int) ≤ a)]; rfl
 · rw [z2 (by omega : ¬ (0 : Int) ≤ a)]; rfl
theorem impl_Nest_given.allNums_l (l : List Int) (hl : l.length ≤ 9223372036854775807) : ∀ (k : Nat) (i : Nat), l.length < k + i → i ≤ l.length → impl_allNums.l0 k l (l.length : Int) (i : Int) = some (impl_Nest_given.numsB (l.drop i)) := by
 intro k
 induction k with
 | zero => intro i h1 a; omega
 | succ k ih =>
  intro i h1 a
  unfold impl_allNums.l0
  by_cases h : i < l.length
  · rw [if_pos (by omega), if_pos (by omega), if_pos (by omega), List.drop_eq_getElem_cons h, impl_Nest_given.isNum_ok]
    have e : rd l (i : Int) = l[i] := by unfold rd; simp [List.getD, h]
    rw [e]
    show (if _ then _ else _) = _
    rw [IntWalk.wrap64_in _ (by omega), show ((i : Int) + 1) = ((i + 1 : Nat) : Int) by omega, ih (i + 1) (by omega) (by omega)]
    unfold impl_Nest_given.numsB
    rw [List.all_cons]
    by_cases hh : (decide (0 ≤ l[i]) && decide (l[i] < 2147483647)) = true
    · rw [if_pos hh, hh]; rfl
    · rw [if_neg hh, Bool.eq_false_iff.mpr hh]; rfl
  · rw [if_neg (by omega), List.drop_eq_nil_of_le (by omega)]; rfl
theorem impl_Nest_given.allNums_ok (l : List Int) (hl : l.length ≤ 9223372036854775807) : impl_allNums.f (l.length + 1) l = some (impl_Nest_given.numsB l) := impl_Nest_given.allNums_l l hl (l.length + 1) 0 (by omega) (by omega)
def impl_Nest_given.given_T12 : Bool × List (List Nat × List Nat) := (true, [([], []), ([], []), ([1], [1]), ([0, 2], [0, 2]), ([3], [3]), ([4, 3], [4]), ([5], [5]), ([6, 5], [5, 6]), ([7, 5], [5, 7]), ([5], [5]), ([9, 5], [5, 9]), ([5], [5]), ([11, 5], [5, 11]), ([10, 12, 5], [5, 10, 12]), ([13, 5], [5, 13]), ([8, 14, 5], [5, 8, 14]), ([5, 15], [5, 15]), ([16, 5], [16]), ([17], [17]), ([18, 17], [17, 18]), ([19, 17, 17], [17, 19]), ([20, 17], [17, 20]), ([17, 21], [17, 21])])
def impl_Nest_given.given_B12 : List Nat := [0, 0, 2, 7, 15, 31, 63, 127, 255, 63, 575, 63, 2111, 7743, 15935, 32767, 65535, 131071, 262143, 524287, 1048575, 2097151, 4194303]
theorem impl_Nest_given.given_tab12 : rtab .any (opsOf Try.f47 12) = impl_Nest_given.given_T12 := by kernel_rfl
theorem impl_Nest_given.given_bits12 : waitsOk impl_Nest_given.given_T12.2 impl_Nest_given.given_B12 = true := by kernel_rfl
theorem impl_Nest_given.given_no1 {a b : List Int} {c : List S71} (h : impl_Nest_given.insL b (List.replicate a.length false) = none) : impl_Nest_given.given_f a b c = ([], false) := by unfold impl_Nest_given.given_f; rw [h]
theorem impl_Nest_given.given_no2 {a b : List Int} {c : List S71} {o : List Bool} (h : impl_Nest_given.insL b (List.replicate a.length false) = some o) (l : impl_Nest_given.fixL a c o = none) : impl_Nest_given.given_f a b c = ([], false) := by unfold impl_Nest_given.given_f; rw [h]; simp only [l]
theorem impl_Nest_given.given_yes {a b : List Int} {c : List S71} {o l : List Bool} (h : impl_Nest_given.insL b (List.replicate a.length false) = some o) (q : impl_Nest_given.fixL a c o = some l) : impl_Nest_given.given_f a b c = (l, true) := by unfold impl_Nest_given.given_f; rw [h]; simp only [q]
theorem impl_Nest_given.given_walk (X : Option Addr) (B : Nat) (a : List Int) (d0 : Option Addr) (j0 : Nat) (l : List Int) (e0 : Option Addr) (l0 : Nat) (q : List S71) (q0 : Option Addr) (t0 : Nat) (x0 : List S79) (y0 : Option Addr) (A0 : Nat) (B0 : List Int) (w : World) (E0 : Kd.C (Kd.int .i64) w X a.length a) (F0 : Kd.C (Kd.int .i64) w d0 l.length l) (G0 : Kd.C k71 w e0 q.length q) (hL : a.length ≤ 281474976710656) :
 Calls Try.prog 47 #[.agg #[.slice X a.length B, .slice d0 l.length j0, .slice e0 q.length l0, .slice q0 x0.length t0, .slice y0 B0.length A0]] w fun e w' => ∃ v0_ : Value, e = .returned (.tuple #[v0_, .bool (impl_Nest_given.given_f a l q).2]) ∧ Kd.R Kd.bool 4 w' w.heap.size (fun _ => True) v0_ (impl_Nest_given.given_f a l q).1 ∧ Below w.heap.size w w' := by
 have I0 := zK E0
 have J0 := zK F0
 have M0 := zK G0
 have HL := zK hL
 clear E0 F0 G0 hL
 have hmf : ∀ (fn : Fn) (first cap : Array Value) (w : World), (Instr.makeFunc fn first cap).run Try.prog w = .ok (.func fn first cap) w := fun _ _ _ _ => rfl
 go_enter Try.func47, Try.ntmps47
 go_wp2_with (first | ((with_reducible refine gd 1 rfl ?_); refine zJ 1 #[.slice X a.length B, .slice d0 l.length j0, .slice e0 q.length l0, .slice q0 x0.length t0, .slice y0 B0.length A0] 34 ?_; intro A hg1 w1 hbox1 hb1; have A1 : w1.cell? ⟨A, 0, none⟩ = some (.slice X a.length B) := (zc hbox1 0); have x := zK hbox1; have HB := zK hb1; clear hbox1 hb1 hg1) | ((with_reducible refine gd 13 rfl ?_); refine Kd.R_make Kd.bool _ 4 rfl (N := 13) rfl 58 _ _ rfl (a.length : Int) rfl rfl Try.underlying58 (.bool false) 1 info4 rfl (by decide) (by omega) false (ok := fun _ => True) (okp := fun _ => True) rfl (fun _ hk => hk) trivial (by omega) (by have := HL.out; omega) HB.out HB.out.size ?_; intro v13 w2 N0 hb2 hg2 hnew2; clear hnew2 A1; simp only [Int.toNat_natCast] at N0; obtain ⟨E, I, e1⟩ := Kd.R_slice N0; rw [List.length_replicate] at e1; subst e1; have HO := zK N0; have x := zK (blk_grown x.out hg2 nofun); have HB := zK hb2; clear N0 hb2 hg2) | ((with_reducible refine gd 4 rfl ?_); refine zJ 4 #[.slice none 0 0] 58 ?_; intro z hg4 w3 hbox4 hb4; have HO := zK (Kd.R_below HO.out hb4); have x := zK (zg x.out hb4); have u := zK hbox4; have G4 := zK (Nat.le_trans HB.out.size (Nat.le_of_eq hg4.symm) : w.heap.size ≤ z); have HB := zK (below_then HB.out HB.out.size hb4); clear hbox4 hb4 hg4) | ((with_reducible refine gate_store (t := 58) (p := 4) (v := ?vo_) ?ho_ ?_); (case ho_ => rfl); refine store_event (t := 58) (p := 4) (v := ?vo_) (w1 := w3.setCell ⟨z, 0, none⟩ (.slice E a.length I)) ?hg ?ho ?hn ?hr ?_; (case ho => rfl); (case hg => rfl); (case hn => rfl); (case hr => have hcell := zc u.out 0; have hfro := zf u.out 0; first | (go_simp; done) | (go_simp; rfl)); intro w4 hw; have NE4 := Kd.R_ne HO.out u.out (by decide); have g1 := blk_ne x.out u.out (by decide); have HO := zK (show Kd.R Kd.bool 4 w4 w.heap.size (fun _ => True) (.slice E a.length I) _ from hw ▸ Kd.R_set HO.out u.out (by decide) 0 (.slice E a.length I)); have x := zK (show w4.heap[A]? = _ from hw ▸ blk_far x.out g1 _); have u := zK (show w4.heap[z]? = some (.cells #[.slice E a.length I] 58 (0, 0)) from hw ▸ blk_put u.out 0 _ rfl); have HB := zK (show Below w.heap.size w w4 from hw ▸ zs HB.out G4.out); clear hw NE4 g1; have B1 : w4.cell? ⟨A, 1, none⟩ = some (.slice d0 l.length j0) := zc x.out 1))
 obtain ⟨o0, O0⟩ : ∃ o0, o0 = List.replicate a.length false := ⟨_, rfl⟩
 rw [← O0] at HO
 have L0 := zK (show o0.length = a.length by rw [O0]; simp)
 have EO := zK O0
 clear O0 B1
 have M1 := zK (Kd.C_max J0.out)
 go_loopg [18] l.length (fun kq v18 w' => ∃ (i : Int) (o : List Bool), v18 = .int .i64 i ∧ Aside0 (0 ≤ i ∧ i + kq = l.length) ∧ Aside0 (o.length = a.length) ∧ Aside0 (impl_Nest_given.insL (l.drop i.toNat) o = impl_Nest_given.insL l o0) ∧ Aside0 (Kd.R Kd.bool 4 w' w.heap.size (fun _ => True) (.slice E a.length I) o) ∧ Aside0 (w'.heap[A]? = some (.cells #[.slice X a.length B, .slice d0 l.length j0, .slice e0 q.length l0, .slice q0 x0.length t0, .slice y0 B0.length A0] 34 (0, 0))) ∧ Aside0 (w'.heap[z]? = some (.cells #[.slice E a.length I] 58 (0, 0))) ∧ Aside0 (Below w.heap.size w w'))
 case atStart => exact ⟨0, o0, rfl, ⟨by omega⟩, L0, ⟨rfl⟩, HO, x, u, HB⟩
 clear HO x u HB
 obtain ⟨i, o, rfl, HI, HL1, HE, HO, x, u, HB⟩ := hrel
 by_cases D : i < (l.length : Int)
 · have c1b : decide (i < (l.length : Int)) = true := z1 D
   obtain ⟨adi, ei, hxi⟩ := Kd.at_int (z4 J0.out HB.out) i HI.out.1 D
   have HE2 := zK (show impl_Nest_given.insL (rd l i :: l.drop (i.toNat + 1)) o = impl_Nest_given.insL l o0 by
    have := HE.out
    rw [List.drop_eq_getElem_cons (by have := HI.out.1; omega)] at this
    rw [← this]
    congr 2
    unfold rd
    simp [List.getD, show i.toNat < l.length by have := HI.out.1; omega])
   cases ei
   have p1 := eq_true HI.out.1
   replace D := eq_true D
   by_cases ct : impl_Nest_given.takeB o (rd l i) = true
   rotate_left
   · have CT := zK (Bool.eq_false_iff.mpr ct)
     clear ct
     go_wp2_with (first | (go_at_call 65; fail))
     refine (impl_Nest_given.take_no (rd l i) z _ o _ _ _ u.out HO.out CT.out).mono ?_
     rintro e w5 ⟨rfl, rfl⟩
     go_wp2
     go_ret2
     have hno := impl_Nest_given.given_no1 (c := q) (show impl_Nest_given.insL l (List.replicate a.length false) = none by rw [← EO.out, ← HE2.out, impl_Nest_given.insL, if_neg (by rw [CT.out]; decide)])
     refine ⟨.slice none 0 0, by rw [hno]; rfl, ?_, HB.out⟩
     rw [hno]
     exact Kd.R_nil _ _ _ _ _
   have CT := zK ct
   clear ct
   go_wp2_with (first | (go_at_call 65; fail))
   refine (impl_Nest_given.take_yes (rd l i) z _ o w _ _ HB.out u.out HO.out CT.out).mono ?_
   rintro e w5 ⟨rfl, hR5, hk5, hB5⟩
   have BK1' := zK ((hk5 A (Kd.R_ne HO.out x.out (by decide))).trans x.out)
   have BK4' := zK ((hk5 z (Kd.R_ne HO.out u.out (by decide))).trans u.out)
   have HO' := zK hR5
   have HB' := zK hB5
   clear hk5 hR5 hB5
   go_wp2
   have T0 : wrap64 (i + 1) = i + 1 := IntWalk.wrap64_in _ (by have := HI.out; have := M1.out; have := of_eq_true D; omega)
   go_roundg (gk - 1)
   case measure => have := HI.out; have := of_eq_true D; omega
   case rel => exact ⟨i + 1, _, (by rw [T0]), ⟨by have := HI.out; have := of_eq_true D; omega⟩, ⟨by rw [List.length_set]; exact HL1.out⟩, ⟨by have h3 := HE2.out; rw [impl_Nest_given.insL, if_pos CT.out] at h3; rw [← h3, show (i + 1).toNat = i.toNat + 1 by have := HI.out; omega]⟩, HO', BK1', BK4', HB'⟩
 have c1b := z2 D
 have E1 := zK (show impl_Nest_given.insL l (List.replicate a.length false) = some o by
  rw [← EO.out, ← HE.out, List.drop_eq_nil_of_le (by have := HI.out; omega)]; rfl)
 have C1 : wr.cell? ⟨A, 2, none⟩ = some (.slice e0 q.length l0) := zc x.out 2
 clear D
 go_wp2
 clear C1 HE HI
 have M2 := zK (Kd.C_max M0.out)
 go_loopg [9, 30] q.length (fun kq v9 v30 w' => ∃ (i : Int) (o' : List Bool), v30 = .int .i64 i ∧ Aside0 (0 ≤ i ∧ i + kq = q.length) ∧ Aside0 (o'.length = a.length) ∧ Aside0 (impl_Nest_given.fixL a (q.drop i.toNat) o' = impl_Nest_given.fixL a q o) ∧ Aside0 (Kd.R Kd.bool 4 w' w.heap.size (fun _ => True) (.slice E a.length I) o') ∧ Aside0 (w'.heap[A]? = some (.cells #[.slice X a.length B, .slice d0 l.length j0, .slice e0 q.length l0, .slice q0 x0.length t0, .slice y0 B0.length A0] 34 (0, 0))) ∧ Aside0 (w'.heap[z]? = some (.cells #[.slice E a.length I] 58 (0, 0))) ∧ Aside0 (Below w.heap.size w w'))
 case atStart => exact ⟨0, o, rfl, ⟨by omega⟩, HL1, ⟨rfl⟩, HO, x, u, HB⟩
 clear HO x u HB HL1
 obtain ⟨i, o', rfl, HI, HL1, HE, HO, x, u, HB⟩ := hrel
 by_cases D : i < (q.length : Int)
 rotate_left
 · have c1b : decide (i < (q.length : Int)) = false := z2 D
   have E2 := zK (show impl_Nest_given.fixL a q o = some o' by
    rw [← HE.out, List.drop_eq_nil_of_le (by have := HI.out; omega)]; rfl)
   have S1 : wr.cell? ⟨z, 0, none⟩ = some (.slice E a.length I) := zc u.out 0
   clear D
   go_wp2
   go_ret2
   have hy := impl_Nest_given.given_yes E1.out E2.out
   exact ⟨.slice E a.length I, by rw [hy]; rfl, by rw [hy]; exact HO.out, HB.out⟩
 have c1b := z1 D
 obtain ⟨adf, A9, c9, ef, V0, X0, i1, C0⟩ := at_T71 M0.out i HI.out.1 D
 have T1 := (HB.out.cell (World.block_lt_of_cell? w _ V0)).trans V0
 have U1 := (HB.out.cell (World.block_lt_of_cell? w _ X0)).trans X0
 clear V0 X0
 generalize hf : rd_T71 q i = f at *
 have HE2 := zK (show impl_Nest_given.fixL a (f :: q.drop (i.toNat + 1)) o' = impl_Nest_given.fixL a q o by
  have := HE.out
  rw [List.drop_eq_getElem_cons (by have := HI.out.1; omega)] at this
  rw [← this, ← hf]
  congr 2
  unfold rd_T71
  simp [List.getD, show i.toNat < q.length by have := HI.out.1; omega])
 clear hf
 cases ef
 have p1 := eq_true HI.out.1
 replace D := eq_true D
 go_wp2_with (first | ((with_reducible refine gd 9 rfl ?_); refine zJ 9 #[.int .i64 0, .slice none 0 0] 71 ?_; intro y hg9 w6 hbox9 hb9; have HO := zK (Kd.R_below HO.out hb9); have x := zK (zg x.out hb9); have u := zK (zg u.out hb9); have U := zK hbox9; have G9 := zK (Nat.le_trans HB.out.size (Nat.le_of_eq hg9.symm) : w.heap.size ≤ y); have HB := zK (below_then HB.out HB.out.size hb9); have j1 : w6.cell? ⟨y, 0, none⟩ = some (.int .i64 0) := zc U.out 0; have l1 : w6.cell? ⟨y, 1, none⟩ = some (.slice none 0 0) := zc U.out 1; have o1 := zf U.out 0; have q1 := zf U.out 1; clear hbox9 hb9 hg9))
 have a1 := blk_ne x.out U.out (by decide)
 have b1 := blk_ne u.out U.out (by decide)
 have n0 : Aside0 (Kd.R Kd.bool 4 ((w6.setCell ⟨y, 0, none⟩ (.int .i64 f.f0)).setCell ⟨y, 1, none⟩ (.slice A9 f.f1.length c9)) w.heap.size (fun _ => True) (.slice E a.length I) o') := ⟨Kd.R_set (Kd.R_set HO.out U.out (by decide) 0 (.int .i64 f.f0)) (blk_set U.out 0 _) (by decide) 1 (.slice A9 f.f1.length c9)⟩
 have n1 := zK (blk_far (blk_far x.out a1 (p := ⟨y, 0, none⟩) (.int .i64 f.f0)) a1 (p := ⟨y, 1, none⟩) (.slice A9 f.f1.length c9))
 have n4 := zK (blk_far (blk_far u.out b1 (p := ⟨y, 0, none⟩) (.int .i64 f.f0)) b1 (p := ⟨y, 1, none⟩) (.slice A9 f.f1.length c9))
 have J := zK (blk_put (blk_put U.out 0 (.int .i64 f.f0) rfl) 1 (.slice A9 f.f1.length c9) rfl)
 have nB := zK (zs (zs HB.out G9.out (j := 0) (v := .int .i64 f.f0)) G9.out (j := 1) (v := .slice A9 f.f1.length c9))
 generalize (w6.setCell ⟨y, 0, none⟩ (.int .i64 f.f0)).setCell ⟨y, 1, none⟩ (.slice A9 f.f1.length c9) = w7 at n0 n1 n4 J nB ⊢
 clear HO x u U HB a1 b1 j1 l1 o1 q1
 by_cases ct : impl_Nest_given.takeB o' f.f0 = true
 rotate_left
 · have CT := zK (Bool.eq_false_iff.mpr ct)
   clear ct
   refine start_ (n := 23) (S := fun w' => w'.cell? ⟨y, 0, none⟩ = some (.int .i64 f.f0) ∧ w'.cell? ⟨y, 1, none⟩ = some (.slice A9 f.f1.length c9) ∧ w'.cell? ⟨A, 0, none⟩ = some (.slice X a.length B)) (ds := []) (bl 23 0) (by kernel_rfl) rfl (by kernel_rfl) ⟨(zc (zd J.out) 0).trans rfl, (zc (zd J.out) 1).trans rfl, (zc (zd n1.out) 0).trans rfl⟩ (fun hHeld => ?_)
   refine with_tabW impl_Nest_given.given_tab12 impl_Nest_given.given_bits12 (fun HT_ HW_ => ?_)
   refine zP 0 34 (bl 23 1) HT_ ?_
   refine zP 1 35 (bl 23 3) HT_ ?_
   refine zT 2 36 (bl 23 7) rfl rfl HT_ HW_ hHeld (by rintro w' ⟨L, M, O⟩; go_simp; with_reducible rfl) ?_
   refine one_ (i := 3) (N := some 37) (bl 23 15) rfl rfl (one_of HT_.out (by kernel_rfl)) (by decide) (fun K hK => ?_)
   refine call_ 65 #[.int .i64 f.f0, .pointer (some ⟨z, 0, none⟩)] (by rfl) rfl (by go_simp) ?_
   refine (impl_Nest_given.take_no f.f0 z _ o' _ _ _ (zd n4.out) (Kd.R_drew n0.out) CT.out).mono ?_
   rintro e w8 ⟨rfl, rfl⟩
   refine ⟨_, rfl, ?_⟩
   refine hK.out _ _ ⟨(zc (zd J.out) 0).trans rfl, (zc (zd J.out) 1).trans rfl, (zc (zd n1.out) 0).trans rfl⟩ (fun hHeld => ?_)
   clear hK K
   refine zU 37 ?_
   refine zP 4 38 (bl 23 31) HT_ ?_
   refine zP 5 39 (bl 23 63) HT_ ?_
   refine zO 6 40 (bl 23 127) HT_ ?_
   refine zO 7 41 (bl 23 255) HT_ ?_
   refine zO 8 42 (bl 23 511) HT_ ?_
   refine zO 9 43 (bl 23 1023) HT_ ?_
   refine zO 10 44 (bl 23 2047) HT_ ?_
   refine zO 11 45 (bl 23 4095) HT_ ?_
   refine zO 12 46 (bl 23 8191) HT_ ?_
   refine zO 13 47 (bl 23 16383) HT_ ?_
   refine zO 14 48 (bl 23 32767) HT_ ?_
   refine zO 15 49 (bl 23 65535) HT_ ?_
   refine zP 16 50 (bl 23 131071) HT_ ?_
   refine zP 17 51 (bl 23 262143) HT_ ?_
   refine zO 18 52 (bl 23 524287) HT_ ?_
   refine zO 19 53 (bl 23 1048575) HT_ ?_
   refine zO 20 54 (bl 23 2097151) HT_ ?_
   refine zO 21 55 (bl 23 4194303) HT_ ?_
   refine zP 22 56 (bl 23 8388607) HT_ ?_
   refine done_ (done_of HT_.out (by kernel_rfl)) ?_
   go_wp2
   go_ret2
   have hno := impl_Nest_given.given_no2 E1.out (show impl_Nest_given.fixL a q o = none by rw [← HE2.out, impl_Nest_given.fixL, if_neg (by rw [CT.out]; decide)])
   refine ⟨.slice none 0 0, by rw [hno]; rfl, ?_, ze nB.out⟩
   rw [hno]
   exact Kd.R_nil _ _ _ _ _
 have CT := zK ct
 have hf := ct
 unfold impl_Nest_given.takeB at hf
 simp only [Bool.and_eq_true, decide_eq_true_eq, Bool.not_eq_true'] at hf
 obtain ⟨⟨f0, f1⟩, _⟩ := hf
 rw [HL1.out] at f1
 clear ct
 obtain ⟨adz, ez, hxz⟩ := Kd.at_int I0.out f.f0 f0 f1
 have hz0 : ∀ w', Below w.heap.size w w' → w'.cell? (adz.add f.f0.toNat) = some (.int .i64 (rd a f.f0)) := fun w' hb => by
  obtain ⟨V1, e2, h2⟩ := Kd.at_int (z4 I0.out hb) f.f0 f0 f1
  rw [ez] at e2
  cases e2
  exact h2
 have p3 := eq_true f0
 have q3 := eq_true f1
 clear f0 f1 hxz
 subst ez
 by_cases cz : (f.f1.length : Int) = rd a f.f0
 rotate_left
 · have hz := hz0
   clear hz0
   have CZ := zK cz
   have czb := bne_iff_ne.mpr cz
   clear cz
   refine start_ (n := 23) (S := fun w' => w'.cell? ⟨y, 0, none⟩ = some (.int .i64 f.f0) ∧ w'.cell? ⟨y, 1, none⟩ = some (.slice A9 f.f1.length c9) ∧ w'.cell? ⟨A, 0, none⟩ = some (.slice (some adz) a.length B) ∧ w'.cell? (adz.add f.f0.toNat) = some (.int .i64 (rd a f.f0))) (ds := []) (bl 23 0) (by kernel_rfl) rfl (by kernel_rfl) ⟨(zc (zd J.out) 0).trans rfl, (zc (zd J.out) 1).trans rfl, (zc (zd n1.out) 0).trans rfl, hz _ (ze nB.out)⟩ (fun hHeld => ?_)
   refine with_tabW impl_Nest_given.given_tab12 impl_Nest_given.given_bits12 (fun HT_ HW_ => ?_)
   refine zP 0 34 (bl 23 1) HT_ ?_
   refine zP 1 35 (bl 23 3) HT_ ?_
   refine zT 2 36 (bl 23 7) rfl rfl HT_ HW_ hHeld (by rintro w' ⟨L, M, O, T⟩; go_simp; with_reducible rfl) ?_
   refine one_ (i := 3) (N := some 37) (bl 23 15) rfl rfl (one_of HT_.out (by kernel_rfl)) (by decide) (fun K hK => ?_)
   refine call_ 65 #[.int .i64 f.f0, .pointer (some ⟨z, 0, none⟩)] (by rfl) rfl (by go_simp) ?_
   refine (impl_Nest_given.take_yes f.f0 z _ o' w _ _ (ze nB.out) (zd n4.out) (Kd.R_drew n0.out) CT.out).mono ?_
   rintro e w8 ⟨rfl, hR8, hk8, hB8⟩
   refine ⟨_, rfl, ?_⟩
   have m1 := zK ((hk8 A (Kd.R_ne n0.out n1.out (by decide))).trans n1.out)
   have m4 := zK ((hk8 z (Kd.R_ne n0.out n4.out (by decide))).trans n4.out)
   have m9 := zK ((hk8 y (Kd.R_ne n0.out J.out (by decide))).trans J.out)
   have m0 := zK hR8
   have mB := zK hB8
   clear hk8 hR8 hB8
   refine hK.out _ _ ⟨zy m9 0, zy m9 1, zy m1 0, hz _ mB.out⟩ (fun hHeld => ?_)
   clear hK K
   refine zU 37 ?_
   refine zP 4 38 (bl 23 31) HT_ ?_
   refine zP 5 39 (bl 23 63) HT_ ?_
   refine zP 6 40 (bl 23 127) HT_ ?_
   refine zT 7 41 (bl 23 255) rfl rfl HT_ HW_ hHeld (by rintro w' ⟨L, M, O, T⟩; go_simp; with_reducible rfl) ?_
   refine zP 8 42 (bl 23 511) HT_ ?_
   refine zP 9 43 (bl 23 1023) HT_ ?_
   refine zT 10 44 (bl 23 2047) rfl rfl HT_ HW_ hHeld (by rintro w' ⟨L, M, O, T⟩; go_simp; with_reducible rfl) ?_
   refine zP 11 45 (bl 23 4095) HT_ ?_
   refine zT 12 46 (bl 23 8191) rfl rfl HT_ HW_ hHeld (by rintro w' ⟨L, M, O, T⟩; go_simp; with_reducible rfl) ?_
   refine zP 13 47 (bl 23 16383) HT_ ?_
   refine zT 14 48 (bl 23 32767) rfl rfl HT_ HW_ hHeld (by rintro w' ⟨L, M, O, T⟩; go_simp; with_reducible rfl) ?_
   refine zP 15 49 (bl 23 65535) HT_ ?_
   refine zP 16 50 (bl 23 131071) HT_ ?_
   refine zP 17 51 (bl 23 262143) HT_ ?_
   refine zO 18 52 (bl 23 524287) HT_ ?_
   refine zO 19 53 (bl 23 1048575) HT_ ?_
   refine zO 20 54 (bl 23 2097151) HT_ ?_
   refine zO 21 55 (bl 23 4194303) HT_ ?_
   refine zP 22 56 (bl 23 8388607) HT_ ?_
   refine done_ (done_of HT_.out (by kernel_rfl)) ?_
   go_wp2
   go_ret2
   have hno := impl_Nest_given.given_no2 E1.out (show impl_Nest_given.fixL a q o = none by rw [← HE2.out, impl_Nest_given.fixL, if_pos CT.out, if_neg CZ.out])
   refine ⟨.slice none 0 0, by rw [hno]; rfl, ?_, mB.out⟩
   rw [hno]
   exact Kd.R_nil _ _ _ _ _
 have CZ := zK cz
 have hz : ∀ w', Below w.heap.size w w' → w'.cell? (adz.add f.f0.toNat) = some (.int .i64 (f.f1.length : Int)) := fun w' hb => by rw [CZ.out]; exact hz0 w' hb
 clear hz0 cz
 have NK := zK (impl_Nest_given.allNums_ok f.f1 (Kd.C_max C0))
 have C0 := zK C0
 have HL9 := zK i1
 clear i1
 by_cases cn : impl_Nest_given.numsB f.f1 = true
 rotate_left
 · replace cn := Bool.eq_false_iff.mpr cn
   rw [cn] at NK
   have CN := zK cn
   clear cn
   refine start_ (n := 23) (S := fun w' => w'.cell? ⟨y, 0, none⟩ = some (.int .i64 f.f0) ∧ w'.cell? ⟨y, 1, none⟩ = some (.slice A9 f.f1.length c9) ∧ w'.cell? ⟨A, 0, none⟩ = some (.slice (some adz) a.length B) ∧ w'.cell? (adz.add f.f0.toNat) = some (.int .i64 (f.f1.length : Int))) (ds := []) (bl 23 0) (by kernel_rfl) rfl (by kernel_rfl) ⟨(zc (zd J.out) 0).trans rfl, (zc (zd J.out) 1).trans rfl, (zc (zd n1.out) 0).trans rfl, hz _ (ze nB.out)⟩ (fun hHeld => ?_)
   refine with_tabW impl_Nest_given.given_tab12 impl_Nest_given.given_bits12 (fun HT_ HW_ => ?_)
   refine zP 0 34 (bl 23 1) HT_ ?_
   refine zP 1 35 (bl 23 3) HT_ ?_
   refine zT 2 36 (bl 23 7) rfl rfl HT_ HW_ hHeld (by rintro w' ⟨L, M, O, T⟩; go_simp; with_reducible rfl) ?_
   refine one_ (i := 3) (N := some 37) (bl 23 15) rfl rfl (one_of HT_.out (by kernel_rfl)) (by decide) (fun K hK => ?_)
   refine call_ 65 #[.int .i64 f.f0, .pointer (some ⟨z, 0, none⟩)] (by rfl) rfl (by go_simp) ?_
   refine (impl_Nest_given.take_yes f.f0 z _ o' w _ _ (ze nB.out) (zd n4.out) (Kd.R_drew n0.out) CT.out).mono ?_
   rintro e w8 ⟨rfl, hR8, hk8, hB8⟩
   refine ⟨_, rfl, ?_⟩
   have m1 := zK ((hk8 A (Kd.R_ne n0.out n1.out (by decide))).trans n1.out)
   have m4 := zK ((hk8 z (Kd.R_ne n0.out n4.out (by decide))).trans n4.out)
   have m9 := zK ((hk8 y (Kd.R_ne n0.out J.out (by decide))).trans J.out)
   have m0 := zK hR8
   have mB := zK hB8
   clear hk8 hR8 hB8
   refine hK.out _ _ ⟨zy m9 0, zy m9 1, zy m1 0, hz _ mB.out⟩ (fun hHeld => ?_)
   clear hK K
   refine zU 37 ?_
   refine zP 4 38 (bl 23 31) HT_ ?_
   refine zP 5 39 (bl 23 63) HT_ ?_
   refine zP 6 40 (bl 23 127) HT_ ?_
   refine zT 7 41 (bl 23 255) rfl rfl HT_ HW_ hHeld (by rintro w' ⟨L, M, O, T⟩; go_simp; with_reducible rfl) ?_
   refine zP 8 42 (bl 23 511) HT_ ?_
   refine zP 9 43 (bl 23 1023) HT_ ?_
   refine zT 10 44 (bl 23 2047) rfl rfl HT_ HW_ hHeld (by rintro w' ⟨L, M, O, T⟩; go_simp; with_reducible rfl) ?_
   refine zP 11 45 (bl 23 4095) HT_ ?_
   refine zT 12 46 (bl 23 8191) rfl rfl HT_ HW_ hHeld (by rintro w' ⟨L, M, O, T⟩; go_simp; with_reducible rfl) ?_
   refine zP 13 47 (bl 23 16383) HT_ ?_
   refine zT 14 48 (bl 23 32767) rfl rfl HT_ HW_ hHeld (by rintro w' ⟨L, M, O, T⟩; go_simp; with_reducible rfl) ?_
   refine zP 15 49 (bl 23 65535) HT_ ?_
   refine zP 16 50 (bl 23 131071) HT_ ?_
   refine zP 17 51 (bl 23 262143) HT_ ?_
   refine zP 18 52 (bl 23 524287) HT_ ?_
   refine zT 19 53 (bl 23 1048575) rfl rfl HT_ HW_ hHeld (by rintro w' ⟨L, M, O, T⟩; go_simp; with_reducible rfl) ?_
   refine one_ (i := 20) (N := some 54) (bl 23 2097151) rfl rfl (one_of HT_.out (by kernel_rfl)) (by decide) (fun K hK => ?_)
   refine call_ 66 #[.slice A9 f.f1.length c9] (by rfl) rfl (by go_simp) ?_
   refine (impl_allNums.calls _ A9 c9 f.f1 false _ (z4 C0.out mB.out) HL9.out NK.out).mono ?_
   rintro e w9 ⟨rfl, ⟨nd, rfl⟩⟩
   refine ⟨_, rfl, ?_⟩
   refine hK.out _ _ ⟨(zc (zn m9.out nd) 0).trans rfl, (zc (zn m9.out nd) 1).trans rfl, (zc (zn m1.out nd) 0).trans rfl, hz _ (zw mB.out nd)⟩ (fun hHeld => ?_)
   clear hK K
   refine zU 54 ?_
   refine zP 21 55 (bl 23 4194303) HT_ ?_
   refine zP 22 56 (bl 23 8388607) HT_ ?_
   refine done_ (done_of HT_.out (by kernel_rfl)) ?_
   go_wp2
   go_ret2
   have hno := impl_Nest_given.given_no2 E1.out (show impl_Nest_given.fixL a q o = none by rw [← HE2.out, impl_Nest_given.fixL, if_pos CT.out, if_pos CZ.out, if_neg (by rw [CN.out]; decide)])
   refine ⟨.slice none 0 0, by rw [hno]; rfl, ?_, zw mB.out nd⟩
   rw [hno]
   exact Kd.R_nil _ _ _ _ _
 rw [cn] at NK
 have CN := zK cn
 clear cn
 refine start_ (n := 23) (S := fun w' => w'.cell? ⟨y, 0, none⟩ = some (.int .i64 f.f0) ∧ w'.cell? ⟨y, 1, none⟩ = some (.slice A9 f.f1.length c9) ∧ w'.cell? ⟨A, 0, none⟩ = some (.slice (some adz) a.length B) ∧ w'.cell? (adz.add f.f0.toNat) = some (.int .i64 (f.f1.length : Int))) (ds := []) (bl 23 0) (by kernel_rfl) rfl (by kernel_rfl) ⟨(zc (zd J.out) 0).trans rfl, (zc (zd J.out) 1).trans rfl, (zc (zd n1.out) 0).trans rfl, hz _ (ze nB.out)⟩ (fun hHeld => ?_)
 refine with_tabW impl_Nest_given.given_tab12 impl_Nest_given.given_bits12 (fun HT_ HW_ => ?_)
 refine zP 0 34 (bl 23 1) HT_ ?_
 refine zP 1 35 (bl 23 3) HT_ ?_
 refine zT 2 36 (bl 23 7) rfl rfl HT_ HW_ hHeld (by rintro w' ⟨L, M, O, T⟩; go_simp; with_reducible rfl) ?_
 refine one_ (i := 3) (N := some 37) (bl 23 15) rfl rfl (one_of HT_.out (by kernel_rfl)) (by decide) (fun K hK => ?_)
 refine call_ 65 #[.int .i64 f.f0, .pointer (some ⟨z, 0, none⟩)] (by rfl) rfl (by go_simp) ?_
 refine (impl_Nest_given.take_yes f.f0 z _ o' w _ _ (ze nB.out) (zd n4.out) (Kd.R_drew n0.out) CT.out).mono ?_
 rintro e w8 ⟨rfl, hR8, hk8, hB8⟩
 refine ⟨_, rfl, ?_⟩
 have m1 := zK ((hk8 A (Kd.R_ne n0.out n1.out (by decide))).trans n1.out)
 have m4 := zK ((hk8 z (Kd.R_ne n0.out n4.out (by decide))).trans n4.out)
 have m9 := zK ((hk8 y (Kd.R_ne n0.out J.out (by decide))).trans J.out)
 have m0 := zK hR8
 have mB := zK hB8
 clear hk8 hR8 hB8
 refine hK.out _ _ ⟨zy m9 0, zy m9 1, zy m1 0, hz _ mB.out⟩ (fun hHeld => ?_)
 clear hK K
 refine zU 37 ?_
 refine zP 4 38 (bl 23 31) HT_ ?_
 refine zP 5 39 (bl 23 63) HT_ ?_
 refine zP 6 40 (bl 23 127) HT_ ?_
 refine zT 7 41 (bl 23 255) rfl rfl HT_ HW_ hHeld (by rintro w' ⟨L, M, O, T⟩; go_simp; with_reducible rfl) ?_
 refine zP 8 42 (bl 23 511) HT_ ?_
 refine zP 9 43 (bl 23 1023) HT_ ?_
 refine zT 10 44 (bl 23 2047) rfl rfl HT_ HW_ hHeld (by rintro w' ⟨L, M, O, T⟩; go_simp; with_reducible rfl) ?_
 refine zP 11 45 (bl 23 4095) HT_ ?_
 refine zT 12 46 (bl 23 8191) rfl rfl HT_ HW_ hHeld (by rintro w' ⟨L, M, O, T⟩; go_simp; with_reducible rfl) ?_
 refine zP 13 47 (bl 23 16383) HT_ ?_
 refine zT 14 48 (bl 23 32767) rfl rfl HT_ HW_ hHeld (by rintro w' ⟨L, M, O, T⟩; go_simp; with_reducible rfl) ?_
 refine zP 15 49 (bl 23 65535) HT_ ?_
 refine zP 16 50 (bl 23 131071) HT_ ?_
 refine zP 17 51 (bl 23 262143) HT_ ?_
 refine zP 18 52 (bl 23 524287) HT_ ?_
 refine zT 19 53 (bl 23 1048575) rfl rfl HT_ HW_ hHeld (by rintro w' ⟨L, M, O, T⟩; go_simp; with_reducible rfl) ?_
 refine one_ (i := 20) (N := some 54) (bl 23 2097151) rfl rfl (one_of HT_.out (by kernel_rfl)) (by decide) (fun K hK => ?_)
 refine call_ 66 #[.slice A9 f.f1.length c9] (by rfl) rfl (by go_simp) ?_
 refine (impl_allNums.calls _ A9 c9 f.f1 true _ (z4 C0.out mB.out) HL9.out NK.out).mono ?_
 rintro e w9 ⟨rfl, ⟨nd, rfl⟩⟩
 refine ⟨_, rfl, ?_⟩
 refine hK.out _ _ ⟨(zc (zn m9.out nd) 0).trans rfl, (zc (zn m9.out nd) 1).trans rfl, (zc (zn m1.out nd) 0).trans rfl, hz _ (zw mB.out nd)⟩ (fun hHeld => ?_)
 clear hK K
 refine zU 54 ?_
 refine zP 21 55 (bl 23 4194303) HT_ ?_
 refine zP 22 56 (bl 23 8388607) HT_ ?_
 refine done_ (done_of HT_.out (by kernel_rfl)) ?_
 go_wp2
 have T0 : wrap64 (i + 1) = i + 1 := IntWalk.wrap64_in _ (by have := HI.out; have := M2.out; have := of_eq_true D; omega)
 go_roundg (gk - 1)
 case measure => have := HI.out; have := of_eq_true D; omega
 case rel => exact ⟨i + 1, _, (by rw [T0]), ⟨by have := HI.out; have := of_eq_true D; omega⟩, ⟨by rw [List.length_set]; exact HL1.out⟩, ⟨by have h3 := HE2.out; rw [impl_Nest_given.fixL, if_pos CT.out, if_pos CZ.out, if_pos CN.out] at h3; rw [← h3, show (i + 1).toNat = i.toNat + 1 by have := HI.out; omega]⟩, ⟨Kd.R_drewN m0.out nd⟩, ⟨zn m1.out nd⟩, ⟨zn m4.out nd⟩, ⟨zw mB.out nd⟩⟩
def impl_Nest_given.f (a : List Int) (l : List Int) (q : List (S71)) (u : List (S79)) (x : List Int) : Option (List Bool × Bool) := if a.length ≤ 281474976710656 then some (impl_Nest_given.given_f a l q) else none
theorem impl_Nest_given.calls (y) (z) (a : List Int) (A) (B) (l : List Int) (D) (E) (q : List (S71)) (I) (J) (u : List (S79)) (L) (M) (x : List Int) (r1 : List Bool) (r2 : Bool) (w) (O : Kd.C (Kd.int .i64) w y a.length a) (X : a.length ≤ z) (T : Kd.C (Kd.int .i64) w A l.length l) (a0 : l.length ≤ B) (U : Kd.C k71 w D q.length q) (b0 : q.length ≤ E) (c0 : Kd.C k79 w I u.length u) (d0 : u.length ≤ J) (e0 : Kd.C (Kd.int .i64) w L x.length x) (f0 : x.length ≤ M) (h : impl_Nest_given.f a l q u x = some (r1, r2)) :
 Calls Try.prog 47 #[.agg #[.slice y a.length z, .slice A l.length B, .slice D q.length E, .slice I u.length J, .slice L x.length M]] w fun e w' => ∃ v0_ : Value, e = .returned (.tuple #[v0_, .bool r2]) ∧ Kd.R Kd.bool 4 w' w.heap.size (fun _ => True) v0_ r1 ∧ Below w.heap.size w w' := by
 unfold impl_Nest_given.f at h
 by_cases c : a.length ≤ 281474976710656
 rotate_left
 · rw [if_neg c] at h
   cases h
 rw [if_pos c] at h
 have e := z5 h
 have hh := impl_Nest_given.given_walk y z a A B l D E q I J u L M x w O T U c
 rw [e] at hh
 exact hh
end Go.Proofs.Ytmcboiffbcnalaa.PFnExactPlanOk
