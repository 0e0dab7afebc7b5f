-- Printed out of the translation by this session's own turned copy of a printer; Lean checks it.
import Derived.Test.YtmcboiffbcnalaaPFnExactLivesx0
import Derived.Test.YtmcboiffbcnalaaPFnExactLivesx10
namespace Go.Proofs.Ytmcboiffbcnalaa.PFnExactLives
open Go.RowKit Go.Proofs.YtmcboiffbcnalaaW.PrintWords Go.Proofs.YtmcboiffbcnalaaW.PrintLast Go.Proofs.YtmcboiffbcnalaaW.PrintMore
attribute [local go_sem] max2_int min2_int max_two min_two max_three min_three max_four min_four
set_option linter.unusedVariables false
set_option linter.unusedSimpArgs false
set_option maxHeartbeats 8000000
set_option maxRecDepth 100000
/-- May a buffer be taken. -/
def impl_Nest_given.takeB (o : List Bool) (b : Int) : Bool := decide (0 ≤ b) && decide (b < (o.length : Int)) && !(rdOf false o b)
theorem impl_Nest_given.take_no (b : Int) (g : Nat) (v : Value) (o : List Bool) (base : Nat) (ok : Nat → Prop) (w : World) (hk : w.heap[g]? = some (.cells #[v] 58 (0, 0))) (hR : Kd.R Kd.bool 4 w base ok v o) (h : impl_Nest_given.takeB o b = false) :
 Calls Try.prog 65 #[.int .i64 b, .pointer (some ⟨g, 0, none⟩)] w fun e w' => e = .returned (.bool false) ∧ w = w' := by
 obtain ⟨A, c, rfl⟩ := Kd.R_slice hR
 have hx : w.cell? ⟨g, 0, none⟩ = some (.slice A o.length c) := by have := zc hk 0; simpa using this
 have HR := zK hR
 have HK := zK hk
 clear hR hk
 by_cases l : b < 0
 · have c1b : decide (b < 0) = true := z1 l
   clear l h
   go_enter Try.func65, Try.ntmps65
   go_wp2
   go_ret
   exact ⟨rfl, rfl⟩
 have c1b := z2 l
 by_cases q : (o.length : Int) ≤ b
 · have c2b : decide ((o.length : Int) ≤ b) = true := z1 q
   clear l q h
   go_enter Try.func65, Try.ntmps65
   go_wp2
   go_ret
   exact ⟨rfl, rfl⟩
 have c2b := z2 q
 have u : rdOf false o b = true := by
  unfold impl_Nest_given.takeB at h
  rw [z1 (by omega), z1 (by omega)] at h
  simpa using h
 obtain ⟨go, co, eo, gb, gl, cl, HG⟩ := Kd.R_form HR.out (by omega)
 cases eo
 obtain ⟨y, hf1⟩ := Kd.R_celln false HR.out b (by omega) (by omega)
 rw [u] at y
 have z := eq_true (show 0 ≤ b by omega)
 have B := eq_true (show b < (o.length : Int) by omega)
 clear HG gb gl h u hf1 l q
 go_enter Try.func65, Try.ntmps65
 go_wp2
 go_ret
 exact ⟨rfl, rfl⟩
theorem impl_Nest_given.take_yes (b : Int) (g : Nat) (v : Value) (o : List Bool) (w0 : World) (ok : Nat → Prop) (w : World) (hB : Below w0.heap.size w0 w) (hk : w.heap[g]? = some (.cells #[v] 58 (0, 0))) (hR : Kd.R Kd.bool 4 w w0.heap.size ok v o) (h : impl_Nest_given.takeB o b = true) :
 Calls Try.prog 65 #[.int .i64 b, .pointer (some ⟨g, 0, none⟩)] w fun e w' => e = .returned (.bool true) ∧ Kd.R Kd.bool 4 w' w0.heap.size ok v (o.set b.toNat true) ∧ (∀ k, some k ≠ v.ownBlock → w'.heap[k]? = w.heap[k]?) ∧ Below w0.heap.size w0 w' := by
 obtain ⟨A, c, rfl⟩ := Kd.R_slice hR
 have hx : w.cell? ⟨g, 0, none⟩ = some (.slice A o.length c) := by have := zc hk 0; simpa using this
 have HR := zK hR
 have HB := zK hB
 clear hR hk hB
 unfold impl_Nest_given.takeB at h
 simp only [Bool.and_eq_true, decide_eq_true_eq, Bool.not_eq_true'] at h
 obtain ⟨⟨l, h1⟩, q⟩ := h
 have c1b : decide (b < 0) = false := z2 (by omega)
 have c2b : decide ((o.length : Int) ≤ b) = false := z2 (by omega)
 obtain ⟨go, co, eo, gb, gl, cl, HG⟩ := Kd.R_form HR.out (by omega)
 cases eo
 obtain ⟨u, hf1⟩ := Kd.R_celln false HR.out b (by omega) (by omega)
 have HP := zK (Kd.R_putg HR.out b true)
 have GB := zK gb
 rw [q] at u
 have y := eq_true l
 have z := eq_true h1
 clear HG gb gl q l h1
 go_enter Try.func65, Try.ntmps65
 go_wp2
 go_ret
 exact ⟨rfl, HP.out.1, fun k hk => Below.heap_setCell _ _ _ k (fun e => hk (by rw [e]; rfl)), zs HB.out GB.out⟩
def impl_Nest_given.insL : List Int → List Bool → Option (List Bool)
 | [], o => some o
 | b :: r, o => if impl_Nest_given.takeB o b = true then impl_Nest_given.insL r (o.set b.toNat true) else none
def impl_Nest_given.numsB (l : List Int) : Bool := l.all fun x => decide (0 ≤ x) && decide (x < 2147483647)
def impl_Nest_given.fixL (sizes : List Int) : List S71 → List Bool → Option (List Bool)
 | [], o => some o
 | f :: r, o => if impl_Nest_given.takeB o f.f0 = true then (if (f.f1.length : Int) = rd sizes f.f0 then (if impl_Nest_given.numsB f.f1 = true then impl_Nest_given.fixL sizes r (o.set f.f0.toNat true) else none) else none) else none
def impl_Nest_given.given_f (l q : List Int) (u : List S71) : List Bool × Bool :=
 match impl_Nest_given.insL q (List.replicate l.length false) with
 | none => ([], false)
 | some o => match impl_Nest_given.fixL l u o with
  | none => ([], false)
  | some o => (o, true)
theorem impl_Nest_given.isNum_ok (a : Int) : impl_isNum.f a = some (decide (0 ≤ a) && decide (a < 2147483647)) := by
 unfold impl_isNum.f
 split
 · rw [z1 (by omega : (0 : Int) ≤ a)]; rfl
 · rw [z2 (by omega : ¬ (0 : Int) ≤ a)]; rfl
theorem impl_Nest_given.allNums_l (l : List Int) (hl : l.length ≤ 9223372036854775807) : ∀ (k : Nat) (i : Nat), l.length < k + i → i ≤ l.length → impl_allNums.l0 k l (l.length : Int) (i : Int) = some (impl_Nest_given.numsB (l.drop i)) := by
 intro k
 induction k with
 | zero => intro i h1 q; omega
 | succ k ih =>
  intro i h1 q
  unfold impl_allNums.l0
  by_cases h : i < l.length
  · rw [if_pos (by omega), if_pos (by omega), if_pos (by omega), List.drop_eq_getElem_cons h, impl_Nest_given.isNum_ok]
    have e : rd l (i : Int) = l[i] := by unfold rd; simp [List.getD, h]
    rw [e]
    show (if _ then _ else _) = _
    rw [IntWalk.wrap64_in _ (by omega), show ((i : Int) + 1) = ((i + 1 : Nat) : Int) by omega, ih (i + 1) (by omega) (by omega)]
    unfold impl_Nest_given.numsB
    rw [List.all_cons]
    by_cases hh : (decide (0 ≤ l[i]) && decide (l[i] < 2147483647)) = true
    · rw [if_pos hh, hh]; rfl
    · rw [if_neg hh, Bool.eq_false_iff.mpr hh]; rfl
  · rw [if_neg (by omega), List.drop_eq_nil_of_le (by omega)]; rfl
theorem impl_Nest_given.allNums_ok (l : List Int) (hl : l.length ≤ 9223372036854775807) : impl_allNums.f (l.length + 1) l = some (impl_Nest_given.numsB l) := impl_Nest_given.allNums_l l hl (l.length + 1) 0 (by omega) (by omega)
def impl_Nest_given.given_T12 : Bool × List (List Nat × List Nat) := (true, [([], []), ([], []), ([1], [1]), ([0, 2], [0, 2]), ([3], [3]), ([4, 3], [4]), ([5], [5]), ([6, 5], [5, 6]), ([7, 5], [5, 7]), ([5], [5]), ([9, 5], [5, 9]), ([5], [5]), ([11, 5], [5, 11]), ([10, 12, 5], [5, 10, 12]), ([13, 5], [5, 13]), ([8, 14, 5], [5, 8, 14]), ([5, 15], [5, 15]), ([16, 5], [16]), ([17], [17]), ([18, 17], [17, 18]), ([19, 17, 17], [17, 19]), ([20, 17], [17, 20]), ([17, 21], [17, 21])])
def impl_Nest_given.given_B12 : List Nat := [0, 0, 2, 7, 15, 31, 63, 127, 255, 63, 575, 63, 2111, 7743, 15935, 32767, 65535, 131071, 262143, 524287, 1048575, 2097151, 4194303]
theorem impl_Nest_given.given_tab12 : rtab .any (opsOf Try.f47 12) = impl_Nest_given.given_T12 := by kernel_rfl
theorem impl_Nest_given.given_bits12 : waitsOk impl_Nest_given.given_T12.2 impl_Nest_given.given_B12 = true := by kernel_rfl
theorem impl_Nest_given.given_no1 {a b : List Int} {c : List S71} (h : impl_Nest_given.insL b (List.replicate a.length false) = none) : impl_Nest_given.given_f a b c = ([], false) := by unfold impl_Nest_given.given_f; rw [h]
theorem impl_Nest_given.given_no2 {a b : List Int} {c : List S71} {o : List Bool} (h : impl_Nest_given.insL b (List.replicate a.length false) = some o) (l : impl_Nest_given.fixL a c o = none) : impl_Nest_given.given_f a b c = ([], false) := by unfold impl_Nest_given.given_f; rw [h]; simp only [l]
theorem impl_Nest_given.given_yes {a b : List Int} {c : List S71} {o l : List Bool} (h : impl_Nest_given.insL b (List.replicate a.length false) = some o) (q : impl_Nest_given.fixL a c o = some l) : impl_Nest_given.given_f a b c = (l, true) := by unfold impl_Nest_given.given_f; rw [h]; simp only [q]
theorem impl_Nest_given.given_walk (c0 : Option Addr) (I : Nat) (l : List Int) (i0 : Option Addr) (q0 : Nat) (q : List Int) (j0 : Option Addr) (t0 : Nat) (u : List S71) (y0 : Option Addr) (A0 : Nat) (B0 : List S79) (C0 : Option Addr) (D0 : Nat) (E0 : List Int) (w : World) (I0 : Kd.C (Kd.int .i64) w c0 l.length l) (J0 : Kd.C (Kd.int .i64) w i0 q.length q) (M0 : Kd.C k71 w j0 u.length u) (hL : l.length ≤ 281474976710656) :
 Calls Try.prog 47 #[.agg #[.slice c0 l.length I, .slice i0 q.length q0, .slice j0 u.length t0, .slice y0 B0.length A0, .slice C0 E0.length D0]] w fun e w' => ∃ v0_ : Value, e = .returned (.tuple #[v0_, .bool (impl_Nest_given.given_f l q u).2]) ∧ Kd.R Kd.bool 4 w' w.heap.size (fun _ => True) v0_ (impl_Nest_given.given_f l q u).1 ∧ Below w.heap.size w w' := by
 have N0 := zK I0
 have O0 := zK J0
 have R0 := zK M0
 have HL := zK hL
 clear I0 J0 M0 hL
 have hmf : ∀ (fn : Fn) (first cap : Array Value) (w : World), (Instr.makeFunc fn first cap).run Try.prog w = .ok (.func fn first cap) w := fun _ _ _ _ => rfl
 go_enter Try.func47, Try.ntmps47
 go_wp2_with (first | ((with_reducible refine gd 1 rfl ?_); refine zJ 1 #[.slice c0 l.length I, .slice i0 q.length q0, .slice j0 u.length t0, .slice y0 B0.length A0, .slice C0 E0.length D0] 34 ?_; intro E hg1 w1 hbox1 hb1; have D1 : w1.cell? ⟨E, 0, none⟩ = some (.slice c0 l.length I) := (zc hbox1 0); have z := zK hbox1; have HB := zK hb1; clear hbox1 hb1 hg1) | ((with_reducible refine gd 13 rfl ?_); refine Kd.R_make Kd.bool _ 4 rfl (N := 13) rfl 58 _ _ rfl (l.length : Int) rfl rfl Try.underlying58 (.bool false) 1 info4 rfl (by decide) (by omega) false (ok := fun _ => True) (okp := fun _ => True) rfl (fun _ hk => hk) trivial (by omega) (by have := HL.out; omega) HB.out HB.out.size ?_; intro v13 w2 S0 hb2 hg2 hnew2; clear hnew2 D1; simp only [Int.toNat_natCast] at S0; obtain ⟨L, M, j1⟩ := Kd.R_slice S0; rw [List.length_replicate] at j1; subst j1; have HO := zK S0; have z := zK (blk_grown z.out hg2 nofun); have HB := zK hb2; clear S0 hb2 hg2) | ((with_reducible refine gd 4 rfl ?_); refine zJ 4 #[.slice none 0 0] 58 ?_; intro B hg4 w3 hbox4 hb4; have HO := zK (Kd.R_below HO.out hb4); have z := zK (zg z.out hb4); have y := zK hbox4; have G4 := zK (Nat.le_trans HB.out.size (Nat.le_of_eq hg4.symm) : w.heap.size ≤ B); have HB := zK (below_then HB.out HB.out.size hb4); clear hbox4 hb4 hg4) | ((with_reducible refine gate_store (t := 58) (p := 4) (v := ?vo_) ?ho_ ?_); (case ho_ => rfl); refine store_event (t := 58) (p := 4) (v := ?vo_) (w1 := w3.setCell ⟨B, 0, none⟩ (.slice L l.length M)) ?hg ?ho ?hn ?hr ?_; (case ho => rfl); (case hg => rfl); (case hn => rfl); (case hr => have hcell := zc y.out 0; have hfro := zf y.out 0; first | (go_simp; done) | (go_simp; rfl)); intro w4 hw; have NE4 := Kd.R_ne HO.out y.out (by decide); have l1 := blk_ne z.out y.out (by decide); have HO := zK (show Kd.R Kd.bool 4 w4 w.heap.size (fun _ => True) (.slice L l.length M) _ from hw ▸ Kd.R_set HO.out y.out (by decide) 0 (.slice L l.length M)); have z := zK (show w4.heap[E]? = _ from hw ▸ blk_far z.out l1 _); have y := zK (show w4.heap[B]? = some (.cells #[.slice L l.length M] 58 (0, 0)) from hw ▸ blk_put y.out 0 _ rfl); have HB := zK (show Below w.heap.size w w4 from hw ▸ zs HB.out G4.out); clear hw NE4 l1; have F1 : w4.cell? ⟨E, 1, none⟩ = some (.slice i0 q.length q0) := zc z.out 1))
 obtain ⟨o0, T0⟩ : ∃ o0, o0 = List.replicate l.length false := ⟨_, rfl⟩
 rw [← T0] at HO
 have L0 := zK (show o0.length = l.length by rw [T0]; simp)
 have EO := zK T0
 clear T0 F1
 have M1 := zK (Kd.C_max O0.out)
 go_loopg [18] q.length (fun kq v18 w' => ∃ (i : Int) (o : List Bool), v18 = .int .i64 i ∧ Aside0 (0 ≤ i ∧ i + kq = q.length) ∧ Aside0 (o.length = l.length) ∧ Aside0 (impl_Nest_given.insL (q.drop i.toNat) o = impl_Nest_given.insL q o0) ∧ Aside0 (Kd.R Kd.bool 4 w' w.heap.size (fun _ => True) (.slice L l.length M) o) ∧ Aside0 (w'.heap[E]? = some (.cells #[.slice c0 l.length I, .slice i0 q.length q0, .slice j0 u.length t0, .slice y0 B0.length A0, .slice C0 E0.length D0] 34 (0, 0))) ∧ Aside0 (w'.heap[B]? = some (.cells #[.slice L l.length M] 58 (0, 0))) ∧ Aside0 (Below w.heap.size w w'))
 case atStart => exact ⟨0, o0, rfl, ⟨by omega⟩, L0, ⟨rfl⟩, HO, z, y, HB⟩
 clear HO z y HB
 obtain ⟨i, o, rfl, HI, HL1, HE, HO, z, y, HB⟩ := hrel
 by_cases J : i < (q.length : Int)
 · have c1b : decide (i < (q.length : Int)) = true := z1 J
   obtain ⟨adi, ei, hxi⟩ := Kd.at_int (z4 O0.out HB.out) i HI.out.1 J
   have HE2 := zK (show impl_Nest_given.insL (rd q i :: q.drop (i.toNat + 1)) o = impl_Nest_given.insL q o0 by
    have := HE.out
    rw [List.drop_eq_getElem_cons (by have := HI.out.1; omega)] at this
    rw [← this]
    congr 2
    unfold rd
    simp [List.getD, show i.toNat < q.length by have := HI.out.1; omega])
   cases ei
   have p1 := eq_true HI.out.1
   replace J := eq_true J
   by_cases ct : impl_Nest_given.takeB o (rd q i) = true
   rotate_left
   · have CT := zK (Bool.eq_false_iff.mpr ct)
     clear ct
     go_wp2_with (first | (go_at_call 65; fail))
     refine (impl_Nest_given.take_no (rd q i) B _ o _ _ _ y.out HO.out CT.out).mono ?_
     rintro e w5 ⟨rfl, rfl⟩
     go_wp2
     go_ret2
     have hno := impl_Nest_given.given_no1 (c := u) (show impl_Nest_given.insL q (List.replicate l.length false) = none by rw [← EO.out, ← HE2.out, impl_Nest_given.insL, if_neg (by rw [CT.out]; decide)])
     refine ⟨.slice none 0 0, by rw [hno]; rfl, ?_, HB.out⟩
     rw [hno]
     exact Kd.R_nil _ _ _ _ _
   have CT := zK ct
   clear ct
   go_wp2_with (first | (go_at_call 65; fail))
   refine (impl_Nest_given.take_yes (rd q i) B _ o w _ _ HB.out y.out HO.out CT.out).mono ?_
   rintro e w5 ⟨rfl, hR5, hk5, hB5⟩
   have BK1' := zK ((hk5 E (Kd.R_ne HO.out z.out (by decide))).trans z.out)
   have BK4' := zK ((hk5 B (Kd.R_ne HO.out y.out (by decide))).trans y.out)
   have HO' := zK hR5
   have HB' := zK hB5
   clear hk5 hR5 hB5
   go_wp2
   have X0 : wrap64 (i + 1) = i + 1 := IntWalk.wrap64_in _ (by have := HI.out; have := M1.out; have := of_eq_true J; omega)
   go_roundg (gk - 1)
   case measure => have := HI.out; have := of_eq_true J; omega
   case rel => exact ⟨i + 1, _, (by rw [X0]), ⟨by have := HI.out; have := of_eq_true J; omega⟩, ⟨by rw [List.length_set]; exact HL1.out⟩, ⟨by have h3 := HE2.out; rw [impl_Nest_given.insL, if_pos CT.out] at h3; rw [← h3, show (i + 1).toNat = i.toNat + 1 by have := HI.out; omega]⟩, HO', BK1', BK4', HB'⟩
 have c1b := z2 J
 have E1 := zK (show impl_Nest_given.insL q (List.replicate l.length false) = some o by
  rw [← EO.out, ← HE.out, List.drop_eq_nil_of_le (by have := HI.out; omega)]; rfl)
 have G1 : wr.cell? ⟨E, 2, none⟩ = some (.slice j0 u.length t0) := zc z.out 2
 clear J
 go_wp2
 clear G1 HE HI
 have M2 := zK (Kd.C_max R0.out)
 go_loopg [9, 30] u.length (fun kq v9 v30 w' => ∃ (i : Int) (o' : List Bool), v30 = .int .i64 i ∧ Aside0 (0 ≤ i ∧ i + kq = u.length) ∧ Aside0 (o'.length = l.length) ∧ Aside0 (impl_Nest_given.fixL l (u.drop i.toNat) o' = impl_Nest_given.fixL l u o) ∧ Aside0 (Kd.R Kd.bool 4 w' w.heap.size (fun _ => True) (.slice L l.length M) o') ∧ Aside0 (w'.heap[E]? = some (.cells #[.slice c0 l.length I, .slice i0 q.length q0, .slice j0 u.length t0, .slice y0 B0.length A0, .slice C0 E0.length D0] 34 (0, 0))) ∧ Aside0 (w'.heap[B]? = some (.cells #[.slice L l.length M] 58 (0, 0))) ∧ Aside0 (Below w.heap.size w w'))
 case atStart => exact ⟨0, o, rfl, ⟨by omega⟩, HL1, ⟨rfl⟩, HO, z, y, HB⟩
 clear HO z y HB HL1
 obtain ⟨i, o', rfl, HI, HL1, HE, HO, z, y, HB⟩ := hrel
 by_cases J : i < (u.length : Int)
 rotate_left
 · have c1b : decide (i < (u.length : Int)) = false := z2 J
   have E2 := zK (show impl_Nest_given.fixL l u o = some o' by
    rw [← HE.out, List.drop_eq_nil_of_le (by have := HI.out; omega)]; rfl)
   have V1 : wr.cell? ⟨B, 0, none⟩ = some (.slice L l.length M) := zc y.out 0
   clear J
   go_wp2
   go_ret2
   have hy := impl_Nest_given.given_yes E1.out E2.out
   exact ⟨.slice L l.length M, by rw [hy]; rfl, by rw [hy]; exact HO.out, HB.out⟩
 have c1b := z1 J
 obtain ⟨adf, A9, c9, ef, b1, d1, o1, F0⟩ := at_T71 R0.out i HI.out.1 J
 have X1 := (HB.out.cell (World.block_lt_of_cell? w _ b1)).trans b1
 have a2 := (HB.out.cell (World.block_lt_of_cell? w _ d1)).trans d1
 clear b1 d1
 generalize hf : rd_T71 u i = f at *
 have HE2 := zK (show impl_Nest_given.fixL l (f :: u.drop (i.toNat + 1)) o' = impl_Nest_given.fixL l u o by
  have := HE.out
  rw [List.drop_eq_getElem_cons (by have := HI.out.1; omega)] at this
  rw [← this, ← hf]
  congr 2
  unfold rd_T71
  simp [List.getD, show i.toNat < u.length by have := HI.out.1; omega])
 clear hf
 cases ef
 have p1 := eq_true HI.out.1
 replace J := eq_true J
 go_wp2_with (first | ((with_reducible refine gd 9 rfl ?_); refine zJ 9 #[.int .i64 0, .slice none 0 0] 71 ?_; intro A hg9 w6 hbox9 hb9; have HO := zK (Kd.R_below HO.out hb9); have z := zK (zg z.out hb9); have y := zK (zg y.out hb9); have b0 := zK hbox9; have G9 := zK (Nat.le_trans HB.out.size (Nat.le_of_eq hg9.symm) : w.heap.size ≤ A); have HB := zK (below_then HB.out HB.out.size hb9); have q1 : w6.cell? ⟨A, 0, none⟩ = some (.int .i64 0) := zc b0.out 0; have t1 : w6.cell? ⟨A, 1, none⟩ = some (.slice none 0 0) := zc b0.out 1; have x1 := zf b0.out 0; have y1 := zf b0.out 1; clear hbox9 hb9 hg9))
 have e1 := blk_ne z.out b0.out (by decide)
 have g1 := blk_ne y.out b0.out (by decide)
 have n0 : Aside0 (Kd.R Kd.bool 4 ((w6.setCell ⟨A, 0, none⟩ (.int .i64 f.f0)).setCell ⟨A, 1, none⟩ (.slice A9 f.f1.length c9)) w.heap.size (fun _ => True) (.slice L l.length M) o') := ⟨Kd.R_set (Kd.R_set HO.out b0.out (by decide) 0 (.int .i64 f.f0)) (blk_set b0.out 0 _) (by decide) 1 (.slice A9 f.f1.length c9)⟩
 have n1 := zK (blk_far (blk_far z.out e1 (p := ⟨A, 0, none⟩) (.int .i64 f.f0)) e1 (p := ⟨A, 1, none⟩) (.slice A9 f.f1.length c9))
 have n4 := zK (blk_far (blk_far y.out g1 (p := ⟨A, 0, none⟩) (.int .i64 f.f0)) g1 (p := ⟨A, 1, none⟩) (.slice A9 f.f1.length c9))
 have O := zK (blk_put (blk_put b0.out 0 (.int .i64 f.f0) rfl) 1 (.slice A9 f.f1.length c9) rfl)
 have nB := zK (zs (zs HB.out G9.out (j := 0) (v := .int .i64 f.f0)) G9.out (j := 1) (v := .slice A9 f.f1.length c9))
 generalize (w6.setCell ⟨A, 0, none⟩ (.int .i64 f.f0)).setCell ⟨A, 1, none⟩ (.slice A9 f.f1.length c9) = w7 at n0 n1 n4 O nB ⊢
 clear HO z y b0 HB e1 g1 q1 t1 x1 y1
 by_cases ct : impl_Nest_given.takeB o' f.f0 = true
 rotate_left
 · have CT := zK (Bool.eq_false_iff.mpr ct)
   clear ct
   refine start_ (n := 23) (S := fun w' => w'.cell? ⟨A, 0, none⟩ = some (.int .i64 f.f0) ∧ w'.cell? ⟨A, 1, none⟩ = some (.slice A9 f.f1.length c9) ∧ w'.cell? ⟨E, 0, none⟩ = some (.slice c0 l.length I)) (ds := []) (bl 23 0) (by kernel_rfl) rfl (by kernel_rfl) ⟨(zc (zd O.out) 0).trans rfl, (zc (zd O.out) 1).trans rfl, (zc (zd n1.out) 0).trans rfl⟩ (fun hHeld => ?_)
   refine with_tabW impl_Nest_given.given_tab12 impl_Nest_given.given_bits12 (fun HT_ HW_ => ?_)
   refine zP 0 34 (bl 23 1) HT_ ?_
   refine zP 1 35 (bl 23 3) HT_ ?_
   refine zT 2 36 (bl 23 7) rfl rfl HT_ HW_ hHeld (by rintro w' ⟨T, U, X⟩; go_simp; with_reducible rfl) ?_
   refine one_ (i := 3) (N := some 37) (bl 23 15) rfl rfl (one_of HT_.out (by kernel_rfl)) (by decide) (fun K hK => ?_)
   refine call_ 65 #[.int .i64 f.f0, .pointer (some ⟨B, 0, none⟩)] (by rfl) rfl (by go_simp) ?_
   refine (impl_Nest_given.take_no f.f0 B _ o' _ _ _ (zd n4.out) (Kd.R_drew n0.out) CT.out).mono ?_
   rintro e w8 ⟨rfl, rfl⟩
   refine ⟨_, rfl, ?_⟩
   refine hK.out _ _ ⟨(zc (zd O.out) 0).trans rfl, (zc (zd O.out) 1).trans rfl, (zc (zd n1.out) 0).trans rfl⟩ (fun hHeld => ?_)
   clear hK K
   refine zU 37 ?_
   refine zP 4 38 (bl 23 31) HT_ ?_
   refine zP 5 39 (bl 23 63) HT_ ?_
   refine zO 6 40 (bl 23 127) HT_ ?_
   refine zO 7 41 (bl 23 255) HT_ ?_
   refine zO 8 42 (bl 23 511) HT_ ?_
   refine zO 9 43 (bl 23 1023) HT_ ?_
   refine zO 10 44 (bl 23 2047) HT_ ?_
   refine zO 11 45 (bl 23 4095) HT_ ?_
   refine zO 12 46 (bl 23 8191) HT_ ?_
   refine zO 13 47 (bl 23 16383) HT_ ?_
   refine zO 14 48 (bl 23 32767) HT_ ?_
   refine zO 15 49 (bl 23 65535) HT_ ?_
   refine zP 16 50 (bl 23 131071) HT_ ?_
   refine zP 17 51 (bl 23 262143) HT_ ?_
   refine zO 18 52 (bl 23 524287) HT_ ?_
   refine zO 19 53 (bl 23 1048575) HT_ ?_
   refine zO 20 54 (bl 23 2097151) HT_ ?_
   refine zO 21 55 (bl 23 4194303) HT_ ?_
   refine zP 22 56 (bl 23 8388607) HT_ ?_
   refine done_ (done_of HT_.out (by kernel_rfl)) ?_
   go_wp2
   go_ret2
   have hno := impl_Nest_given.given_no2 E1.out (show impl_Nest_given.fixL l u o = none by rw [← HE2.out, impl_Nest_given.fixL, if_neg (by rw [CT.out]; decide)])
   refine ⟨.slice none 0 0, by rw [hno]; rfl, ?_, ze nB.out⟩
   rw [hno]
   exact Kd.R_nil _ _ _ _ _
 have CT := zK ct
 have hf := ct
 unfold impl_Nest_given.takeB at hf
 simp only [Bool.and_eq_true, decide_eq_true_eq, Bool.not_eq_true'] at hf
 obtain ⟨⟨f0, f1⟩, _⟩ := hf
 rw [HL1.out] at f1
 clear ct
 obtain ⟨adz, ez, hxz⟩ := Kd.at_int N0.out f.f0 f0 f1
 have hz0 : ∀ w', Below w.heap.size w w' → w'.cell? (adz.add f.f0.toNat) = some (.int .i64 (rd l f.f0)) := fun w' hb => by
  obtain ⟨b2, e2, h2⟩ := Kd.at_int (z4 N0.out hb) f.f0 f0 f1
  rw [ez] at e2
  cases e2
  exact h2
 have p3 := eq_true f0
 have q3 := eq_true f1
 clear f0 f1 hxz
 subst ez
 by_cases cz : (f.f1.length : Int) = rd l f.f0
 rotate_left
 · have hz := hz0
   clear hz0
   have CZ := zK cz
   have czb := bne_iff_ne.mpr cz
   clear cz
   refine start_ (n := 23) (S := fun w' => w'.cell? ⟨A, 0, none⟩ = some (.int .i64 f.f0) ∧ w'.cell? ⟨A, 1, none⟩ = some (.slice A9 f.f1.length c9) ∧ w'.cell? ⟨E, 0, none⟩ = some (.slice (some adz) l.length I) ∧ w'.cell? (adz.add f.f0.toNat) = some (.int .i64 (rd l f.f0))) (ds := []) (bl 23 0) (by kernel_rfl) rfl (by kernel_rfl) ⟨(zc (zd O.out) 0).trans rfl, (zc (zd O.out) 1).trans rfl, (zc (zd n1.out) 0).trans rfl, hz _ (ze nB.out)⟩ (fun hHeld => ?_)
   refine with_tabW impl_Nest_given.given_tab12 impl_Nest_given.given_bits12 (fun HT_ HW_ => ?_)
   refine zP 0 34 (bl 23 1) HT_ ?_
   refine zP 1 35 (bl 23 3) HT_ ?_
   refine zT 2 36 (bl 23 7) rfl rfl HT_ HW_ hHeld (by rintro w' ⟨T, U, X, s3⟩; go_simp; with_reducible rfl) ?_
   refine one_ (i := 3) (N := some 37) (bl 23 15) rfl rfl (one_of HT_.out (by kernel_rfl)) (by decide) (fun K hK => ?_)
   refine call_ 65 #[.int .i64 f.f0, .pointer (some ⟨B, 0, none⟩)] (by rfl) rfl (by go_simp) ?_
   refine (impl_Nest_given.take_yes f.f0 B _ o' w _ _ (ze nB.out) (zd n4.out) (Kd.R_drew n0.out) CT.out).mono ?_
   rintro e w8 ⟨rfl, hR8, hk8, hB8⟩
   refine ⟨_, rfl, ?_⟩
   have m1 := zK ((hk8 E (Kd.R_ne n0.out n1.out (by decide))).trans n1.out)
   have m4 := zK ((hk8 B (Kd.R_ne n0.out n4.out (by decide))).trans n4.out)
   have m9 := zK ((hk8 A (Kd.R_ne n0.out O.out (by decide))).trans O.out)
   have m0 := zK hR8
   have mB := zK hB8
   clear hk8 hR8 hB8
   refine hK.out _ _ ⟨zy m9 0, zy m9 1, zy m1 0, hz _ mB.out⟩ (fun hHeld => ?_)
   clear hK K
   refine zU 37 ?_
   refine zP 4 38 (bl 23 31) HT_ ?_
   refine zP 5 39 (bl 23 63) HT_ ?_
   refine zP 6 40 (bl 23 127) HT_ ?_
   refine zT 7 41 (bl 23 255) rfl rfl HT_ HW_ hHeld (by rintro w' ⟨T, U, X, s3⟩; go_simp; with_reducible rfl) ?_
   refine zP 8 42 (bl 23 511) HT_ ?_
   refine zP 9 43 (bl 23 1023) HT_ ?_
   refine zT 10 44 (bl 23 2047) rfl rfl HT_ HW_ hHeld (by rintro w' ⟨T, U, X, s3⟩; go_simp; with_reducible rfl) ?_
   refine zP 11 45 (bl 23 4095) HT_ ?_
   refine zT 12 46 (bl 23 8191) rfl rfl HT_ HW_ hHeld (by rintro w' ⟨T, U, X, s3⟩; go_simp; with_reducible rfl) ?_
   refine zP 13 47 (bl 23 16383) HT_ ?_
   refine zT 14 48 (bl 23 32767) rfl rfl HT_ HW_ hHeld (by rintro w' ⟨T, U, X, s3⟩; go_simp; with_reducible rfl) ?_
   refine zP 15 49 (bl 23 65535) HT_ ?_
   refine zP 16 50 (bl 23 131071) HT_ ?_
   refine zP 17 51 (bl 23 262143) HT_ ?_
   refine zO 18 52 (bl 23 524287) HT_ ?_
   refine zO 19 53 (bl 23 1048575) HT_ ?_
   refine zO 20 54 (bl 23 2097151) HT_ ?_
   refine zO 21 55 (bl 23 4194303) HT_ ?_
   refine zP 22 56 (bl 23 8388607) HT_ ?_
   refine done_ (done_of HT_.out (by kernel_rfl)) ?_
   go_wp2
   go_ret2
   have hno := impl_Nest_given.given_no2 E1.out (show impl_Nest_given.fixL l u o = none by rw [← HE2.out, impl_Nest_given.fixL, if_pos CT.out, if_neg CZ.out])
   refine ⟨.slice none 0 0, by rw [hno]; rfl, ?_, mB.out⟩
   rw [hno]
   exact Kd.R_nil _ _ _ _ _
 have CZ := zK cz
 have hz : ∀ w', Below w.heap.size w w' → w'.cell? (adz.add f.f0.toNat) = some (.int .i64 (f.f1.length : Int)) := fun w' hb => by rw [CZ.out]; exact hz0 w' hb
 clear hz0 cz
 have NK := zK (impl_Nest_given.allNums_ok f.f1 (Kd.C_max F0))
 have F0 := zK F0
 have HL9 := zK o1
 clear o1
 by_cases cn : impl_Nest_given.numsB f.f1 = true
 rotate_left
 · replace cn := Bool.eq_false_iff.mpr cn
   rw [cn] at NK
   have CN := zK cn
   clear cn
   refine start_ (n := 23) (S := fun w' => w'.cell? ⟨A, 0, none⟩ = some (.int .i64 f.f0) ∧ w'.cell? ⟨A, 1, none⟩ = some (.slice A9 f.f1.length c9) ∧ w'.cell? ⟨E, 0, none⟩ = some (.slice (some adz) l.length I) ∧ w'.cell? (adz.add f.f0.toNat) = some (.int .i64 (f.f1.length : Int))) (ds := []) (bl 23 0) (by kernel_rfl) rfl (by kernel_rfl) ⟨(zc (zd O.out) 0).trans rfl, (zc (zd O.out) 1).trans rfl, (zc (zd n1.out) 0).trans rfl, hz _ (ze nB.out)⟩ (fun hHeld => ?_)
   refine with_tabW impl_Nest_given.given_tab12 impl_Nest_given.given_bits12 (fun HT_ HW_ => ?_)
   refine zP 0 34 (bl 23 1) HT_ ?_
   refine zP 1 35 (bl 23 3) HT_ ?_
   refine zT 2 36 (bl 23 7) rfl rfl HT_ HW_ hHeld (by rintro w' ⟨T, U, X, s3⟩; go_simp; with_reducible rfl) ?_
   refine one_ (i := 3) (N := some 37) (bl 23 15) rfl rfl (one_of HT_.out (by kernel_rfl)) (by decide) (fun K hK => ?_)
   refine call_ 65 #[.int .i64 f.f0, .pointer (some ⟨B, 0, none⟩)] (by rfl) rfl (by go_simp) ?_
   refine (impl_Nest_given.take_yes f.f0 B _ o' w _ _ (ze nB.out) (zd n4.out) (Kd.R_drew n0.out) CT.out).mono ?_
   rintro e w8 ⟨rfl, hR8, hk8, hB8⟩
   refine ⟨_, rfl, ?_⟩
   have m1 := zK ((hk8 E (Kd.R_ne n0.out n1.out (by decide))).trans n1.out)
   have m4 := zK ((hk8 B (Kd.R_ne n0.out n4.out (by decide))).trans n4.out)
   have m9 := zK ((hk8 A (Kd.R_ne n0.out O.out (by decide))).trans O.out)
   have m0 := zK hR8
   have mB := zK hB8
   clear hk8 hR8 hB8
   refine hK.out _ _ ⟨zy m9 0, zy m9 1, zy m1 0, hz _ mB.out⟩ (fun hHeld => ?_)
   clear hK K
   refine zU 37 ?_
   refine zP 4 38 (bl 23 31) HT_ ?_
   refine zP 5 39 (bl 23 63) HT_ ?_
   refine zP 6 40 (bl 23 127) HT_ ?_
   refine zT 7 41 (bl 23 255) rfl rfl HT_ HW_ hHeld (by rintro w' ⟨T, U, X, s3⟩; go_simp; with_reducible rfl) ?_
   refine zP 8 42 (bl 23 511) HT_ ?_
   refine zP 9 43 (bl 23 1023) HT_ ?_
   refine zT 10 44 (bl 23 2047) rfl rfl HT_ HW_ hHeld (by rintro w' ⟨T, U, X, s3⟩; go_simp; with_reducible rfl) ?_
   refine zP 11 45 (bl 23 4095) HT_ ?_
   refine zT 12 46 (bl 23 8191) rfl rfl HT_ HW_ hHeld (by rintro w' ⟨T, U, X, s3⟩; go_simp; with_reducible rfl) ?_
   refine zP 13 47 (bl 23 16383) HT_ ?_
   refine zT 14 48 (bl 23 32767) rfl rfl HT_ HW_ hHeld (by rintro w' ⟨T, U, X, s3⟩; go_simp; with_reducible rfl) ?_
   refine zP 15 49 (bl 23 65535) HT_ ?_
   refine zP 16 50 (bl 23 131071) HT_ ?_
   refine zP 17 51 (bl 23 262143) HT_ ?_
   refine zP 18 52 (bl 23 524287) HT_ ?_
   refine zT 19 53 (bl 23 1048575) rfl rfl HT_ HW_ hHeld (by rintro w' ⟨T, U, X, s3⟩; go_simp; with_reducible rfl) ?_
   refine one_ (i := 20) (N := some 54) (bl 23 2097151) rfl rfl (one_of HT_.out (by kernel_rfl)) (by decide) (fun K hK => ?_)
   refine call_ 66 #[.slice A9 f.f1.length c9] (by rfl) rfl (by go_simp) ?_
   refine (impl_allNums.calls _ A9 c9 f.f1 false _ (z4 F0.out mB.out) HL9.out NK.out).mono ?_
   rintro e w9 ⟨rfl, ⟨nd, rfl⟩⟩
   refine ⟨_, rfl, ?_⟩
   refine hK.out _ _ ⟨(zc (zn m9.out nd) 0).trans rfl, (zc (zn m9.out nd) 1).trans rfl, (zc (zn m1.out nd) 0).trans rfl, hz _ (zw mB.out nd)⟩ (fun hHeld => ?_)
   clear hK K
   refine zU 54 ?_
   refine zP 21 55 (bl 23 4194303) HT_ ?_
   refine zP 22 56 (bl 23 8388607) HT_ ?_
   refine done_ (done_of HT_.out (by kernel_rfl)) ?_
   go_wp2
   go_ret2
   have hno := impl_Nest_given.given_no2 E1.out (show impl_Nest_given.fixL l u o = none by rw [← HE2.out, impl_Nest_given.fixL, if_pos CT.out, if_pos CZ.out, if_neg (by rw [CN.out]; decide)])
   refine ⟨.slice none 0 0, by rw [hno]; rfl, ?_, zw mB.out nd⟩
   rw [hno]
   exact Kd.R_nil _ _ _ _ _
 rw [cn] at NK
 have CN := zK cn
 clear cn
 refine start_ (n := 23) (S := fun w' => w'.cell? ⟨A, 0, none⟩ = some (.int .i64 f.f0) ∧ w'.cell? ⟨A, 1, none⟩ = some (.slice A9 f.f1.length c9) ∧ w'.cell? ⟨E, 0, none⟩ = some (.slice (some adz) l.length I) ∧ w'.cell? (adz.add f.f0.toNat) = some (.int .i64 (f.f1.length : Int))) (ds := []) (bl 23 0) (by kernel_rfl) rfl (by kernel_rfl) ⟨(zc (zd O.out) 0).trans rfl, (zc (zd O.out) 1).trans rfl, (zc (zd n1.out) 0).trans rfl, hz _ (ze nB.out)⟩ (fun hHeld => ?_)
 refine with_tabW impl_Nest_given.given_tab12 impl_Nest_given.given_bits12 (fun HT_ HW_ => ?_)
 refine zP 0 34 (bl 23 1) HT_ ?_
 refine zP 1 35 (bl 23 3) HT_ ?_
 refine zT 2 36 (bl 23 7) rfl rfl HT_ HW_ hHeld (by rintro w' ⟨T, U, X, s3⟩; go_simp; with_reducible rfl) ?_
 refine one_ (i := 3) (N := some 37) (bl 23 15) rfl rfl (one_of HT_.out (by kernel_rfl)) (by decide) (fun K hK => ?_)
 refine call_ 65 #[.int .i64 f.f0, .pointer (some ⟨B, 0, none⟩)] (by rfl) rfl (by go_simp) ?_
 refine (impl_Nest_given.take_yes f.f0 B _ o' w _ _ (ze nB.out) (zd n4.out) (Kd.R_drew n0.out) CT.out).mono ?_
 rintro e w8 ⟨rfl, hR8, hk8, hB8⟩
 refine ⟨_, rfl, ?_⟩
 have m1 := zK ((hk8 E (Kd.R_ne n0.out n1.out (by decide))).trans n1.out)
 have m4 := zK ((hk8 B (Kd.R_ne n0.out n4.out (by decide))).trans n4.out)
 have m9 := zK ((hk8 A (Kd.R_ne n0.out O.out (by decide))).trans O.out)
 have m0 := zK hR8
 have mB := zK hB8
 clear hk8 hR8 hB8
 refine hK.out _ _ ⟨zy m9 0, zy m9 1, zy m1 0, hz _ mB.out⟩ (fun hHeld => ?_)
 clear hK K
 refine zU 37 ?_
 refine zP 4 38 (bl 23 31) HT_ ?_
 refine zP 5 39 (bl 23 63) HT_ ?_
 refine zP 6 40 (bl 23 127) HT_ ?_
 refine zT 7 41 (bl 23 255) rfl rfl HT_ HW_ hHeld (by rintro w' ⟨T, U, X, s3⟩; go_simp; with_reducible rfl) ?_
 refine zP 8 42 (bl 23 511) HT_ ?_
 refine zP 9 43 (bl 23 1023) HT_ ?_
 refine zT 10 44 (bl 23 2047) rfl rfl HT_ HW_ hHeld (by rintro w' ⟨T, U, X, s3⟩; go_simp; with_reducible rfl) ?_
 refine zP 11 45 (bl 23 4095) HT_ ?_
 refine zT 12 46 (bl 23 8191) rfl rfl HT_ HW_ hHeld (by rintro w' ⟨T, U, X, s3⟩; go_simp; with_reducible rfl) ?_
 refine zP 13 47 (bl 23 16383) HT_ ?_
 refine zT 14 48 (bl 23 32767) rfl rfl HT_ HW_ hHeld (by rintro w' ⟨T, U, X, s3⟩; go_simp; with_reducible rfl) ?_
 refine zP 15 49 (bl 23 65535) HT_ ?_
 refine zP 16 50 (bl 23 131071) HT_ ?_
 refine zP 17 51 (bl 23 262143) HT_ ?_
 refine zP 18 52 (bl 23 524287) HT_ ?_
 refine zT 19 53 (bl 23 1048575) rfl rfl HT_ HW_ hHeld (by rintro w' ⟨T, U, X, s3⟩; go_simp; with_reducible rfl) ?_
 refine one_ (i := 20) (N := some 54) (bl 23 2097151) rfl rfl (one_of HT_.out (by kernel_rfl)) (by decide) (fun K hK => ?_)
 refine call_ 66 #[.slice A9 f.f1.length c9] (by rfl) rfl (by go_simp) ?_
 refine (impl_allNums.calls _ A9 c9 f.f1 true _ (z4 F0.out mB.out) HL9.out NK.out).mono ?_
 rintro e w9 ⟨rfl, ⟨nd, rfl⟩⟩
 refine ⟨_, rfl, ?_⟩
 refine hK.out _ _ ⟨(zc (zn m9.out nd) 0).trans rfl, (zc (zn m9.out nd) 1).trans rfl, (zc (zn m1.out nd) 0).trans rfl, hz _ (zw mB.out nd)⟩ (fun hHeld => ?_)
 clear hK K
 refine zU 54 ?_
 refine zP 21 55 (bl 23 4194303) HT_ ?_
 refine zP 22 56 (bl 23 8388607) HT_ ?_
 refine done_ (done_of HT_.out (by kernel_rfl)) ?_
 go_wp2
 have X0 : wrap64 (i + 1) = i + 1 := IntWalk.wrap64_in _ (by have := HI.out; have := M2.out; have := of_eq_true J; omega)
 go_roundg (gk - 1)
 case measure => have := HI.out; have := of_eq_true J; omega
 case rel => exact ⟨i + 1, _, (by rw [X0]), ⟨by have := HI.out; have := of_eq_true J; omega⟩, ⟨by rw [List.length_set]; exact HL1.out⟩, ⟨by have h3 := HE2.out; rw [impl_Nest_given.fixL, if_pos CT.out, if_pos CZ.out, if_pos CN.out] at h3; rw [← h3, show (i + 1).toNat = i.toNat + 1 by have := HI.out; omega]⟩, ⟨Kd.R_drewN m0.out nd⟩, ⟨zn m1.out nd⟩, ⟨zn m4.out nd⟩, ⟨zw mB.out nd⟩⟩
def impl_Nest_given.f (l : List Int) (q : List Int) (u : List (S71)) (y : List (S79)) (z : List Int) : Option (List Bool × Bool) := if l.length ≤ 281474976710656 then some (impl_Nest_given.given_f l q u) else none
theorem impl_Nest_given.calls (A) (B) (l : List Int) (E) (I) (q : List Int) (J) (L) (u : List (S71)) (M) (O) (y : List (S79)) (T) (U) (z : List Int) (r1 : List Bool) (r2 : Bool) (w) (X : Kd.C (Kd.int .i64) w A l.length l) (c0 : l.length ≤ B) (a0 : Kd.C (Kd.int .i64) w E q.length q) (d0 : q.length ≤ I) (b0 : Kd.C k71 w J u.length u) (e0 : u.length ≤ L) (f0 : Kd.C k79 w M y.length y) (g0 : y.length ≤ O) (i0 : Kd.C (Kd.int .i64) w T z.length z) (j0 : z.length ≤ U) (h : impl_Nest_given.f l q u y z = some (r1, r2)) :
 Calls Try.prog 47 #[.agg #[.slice A l.length B, .slice E q.length I, .slice J u.length L, .slice M y.length O, .slice T z.length U]] w fun e w' => ∃ v0_ : Value, e = .returned (.tuple #[v0_, .bool r2]) ∧ Kd.R Kd.bool 4 w' w.heap.size (fun _ => True) v0_ r1 ∧ Below w.heap.size w w' := by
 unfold impl_Nest_given.f at h
 by_cases c : l.length ≤ 281474976710656
 rotate_left
 · rw [if_neg c] at h
   cases h
 rw [if_pos c] at h
 have e := z5 h
 have hh := impl_Nest_given.given_walk A B l E I q J L u M O y T U z w X a0 b0 c
 rw [e] at hh
 exact hh
end Go.Proofs.Ytmcboiffbcnalaa.PFnExactLives
