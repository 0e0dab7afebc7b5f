-- Printed out of the translation by this session's own turned copy of a printer; Lean checks it.
import Derived.Test.YtkfagiojcjnfkaaPFnExactNestOkx0
namespace Go.Proofs.Ytkfagiojcjnfkaa.PFnExactNestOk
open Go.RowKit Go.Proofs.YtkfagiojcjnfkaaW.PrintWords Go.Proofs.YtkfagiojcjnfkaaW.PrintLast Go.Proofs.YtkfagiojcjnfkaaW.PrintMore
attribute [local go_sem] max2_int min2_int max_two min_two max_three min_three max_four min_four   -- for this text's walks alone
set_option linter.unusedVariables false
set_option linter.unusedSimpArgs false

/-! ### impl_Access: function 153 -/
def impl_Access.f (l0 : List (S129)) : Option ((List (S129))) := (some (([] : List (S129)) : List (S129))).bind fun y286 => (if y286.length + l0.length < 3518437208883 then (some (y286 ++ l0)) else (none))
set_option maxHeartbeats 8000000 in
set_option maxRecDepth 100000 in
theorem impl_Access.calls_some (P0_ : Nat → Prop) (A0 : Option Addr) (c0 : Nat) (l0 : List (S129)) (r : List (S129)) (w : World) (hs0 : Kd.V k129 129 w w.heap.size (fun k_ => P0_ k_) (.slice A0 l0.length c0) l0) (h : impl_Access.f l0 = some r) (hA0 : A0 ≠ none) :
    Calls Try.prog 153 #[.slice A0 l0.length c0] w fun e w' => ∃ v0_ : Value, e = .returned (v0_) ∧ Kd.N k129 129 w' w.heap.size (fun k_ => (P0_ k_ ∨ w.heap.size ≤ k_)) v0_ r ∧ Below w.heap.size w w' := by
  obtain ⟨ad0, rfl⟩ := Option.ne_none_iff_exists'.1 hA0
  clear hA0
  have hq := fun (w : World) (a : Option Addr) (n c n' c' : Nat) => Lib.run_eql_slice_nil w 127 129 a n c n' c' Try.underlying127
  have HO0 := zK (show Kd.V k129 129 w w.heap.size (fun k_ => (P0_ k_ ∨ w.heap.size ≤ k_)) (.slice (some ad0) l0.length c0) l0 from Kd.V_mono hs0 (fun k_ hk => .inl hk))
  have HB := zK (Below.refl w.heap.size w)
  have H : ((some (([] : List (S129)) : List (S129))).bind fun y286 => (if y286.length + l0.length < 3518437208883 then (some (y286 ++ l0)) else (none))) = some r := h
  clear h
  obtain ⟨y286, hy286⟩ : ∃ y_ : List (S129), y_ = (([] : List (S129))) := ⟨_, rfl⟩
  replace H : (if y286.length + l0.length < 3518437208883 then (some (y286 ++ l0)) else (none)) = some r := by first | (rw [hy286]; with_reducible exact H) | (have H2_ := (Option.bind_some _ _).symm.trans H; rw [hy286]; with_reducible exact H2_) | (have H2_ := (Option.bind_some _ _).symm.trans H; with_reducible exact H2_) | with_reducible exact H | (rw [hy286]; exact H) | exact H
  have Ny286 := zK hy286
  clear hy286
  by_cases c2 : y286.length + l0.length < 3518437208883
  rotate_left
  · rw [if_neg c2] at H
    exact absurd H (by simp)
  rw [if_pos c2] at H
  have LMc2 := zK c2
  clear c2
  obtain ⟨y289, hy289⟩ : ∃ y_ : List (S129), y_ = (y286 ++ l0) := ⟨_, rfl⟩
  replace H : (some y289) = some r := by first | (rw [hy289]; with_reducible exact H) | (have H2_ := (Option.bind_some _ _).symm.trans H; rw [hy289]; with_reducible exact H2_) | (have H2_ := (Option.bind_some _ _).symm.trans H; with_reducible exact H2_) | with_reducible exact H | (rw [hy289]; exact H) | exact H
  have Ny289 := zK hy289
  clear hy289
  obtain rfl := Option.some.inj H
  go_enter Try.func153, Try.ntmps153
  go_wp2_with (first | ((with_reducible refine gate_dst (N := 5) rfl ?_); refine Kd.N_lit k129 _ 129 ?hg (N' := 5) ?hd (xs := ([] : List (S129))) (inner := []) (ok := (fun k_ => (P0_ k_ ∨ w.heap.size ≤ k_))) (okp := (fun k_ => (P0_ k_ ∨ w.heap.size ≤ k_))) ?hr ?hp (fun _ hk => hk) ((show ∀ k_, w.heap.size ≤ k_ → (fun k_ => (P0_ k_ ∨ w.heap.size ≤ k_)) k_ from fun k_ hk => (.inr (Nat.le_trans (zz zB) hk))) _ (Nat.le_refl _)) (Below.refl _ _) (Nat.le_refl _) (by simp) ?_; (case hd => rfl); (case hg => rfl); (case hr => first | (go_simp; done) | (go_simp; rfl)); (case hp => exact (Reps.none _ _)); intro v287 w3 ho4 hb hg_ hnew_; clear hg_ hnew_; (first | rw [← Ny286.out] at ho4 | (simp only [Int.reduceToNat] at ho4; rw [← Ny286.out] at ho4)); have n0_ := zK (Kd.V_elder' (zkV HO0) (Kd.N_base ho4) hb); have n1_ := zK (Kd.N_lower ho4 (zz zB)); have n2_ := zK (zp zB hb); clear HO0; clear HB; have HO0 := n0_; have HO288 := n1_; have HB := n2_; clear n0_ n1_ n2_; clear hb ho4) | ((with_reducible refine gate_builtin (b := .append) (xs := #[.tmp 5, .tmp 6]) rfl ?_); at_builtin; refine Kd.N_append_rows k129 (w0 := w) w.heap.size rfl (.tmp 5) (.tmp 6) 127 129 (.agg #[(.int .i64 0), (.int .i64 0), (.slice none 0 0)]) 40 rfl Try.underlying127 info129 rfl (by decide) (by omega) v287 y286 l0 _ _ _ (fun k_ => (P0_ k_ ∨ w.heap.size ≤ k_)) (fun k_ => ((fun k_ => (P0_ k_ ∨ w.heap.size ≤ k_))) k_ ∧ some k_ ≠ (v287 : Value).ownBlock) rfl rfl ?aO ?aR (fun _ hk => hk) ?aF ?aB ?aS ?aL ?_; (case aR => exact (by skip; exact Kd.V_F (Kd.V_mono (ok' := (fun k_ => ((fun k_ => (P0_ k_ ∨ w.heap.size ≤ k_))) k_ ∧ some k_ ≠ (v287 : Value).ownBlock)) (HO0.out) (fun k_ hk => ⟨hk.1, hk.2⟩)))); (case aB => exact zB); (case aF => exact (fun k_ hk => (.inr (Nat.le_trans (zz zB) hk)))); (case aO => exact (zkN HO288)); (case aS => exact (zz zB)); (case aL => have := LMc2.out; omega); intro v290 w5 ho hb hg hat; rw [← Ny289.out] at ho; have n0_ := zK (Kd.V_afterv (ok := (fun k_ => (P0_ k_ ∨ w.heap.size ≤ k_))) (zkV HO0) hg hat); have n1_ := zK (hb); have n2_ := zK (ho); clear HO0; clear HB; clear HO288; have HO0 := n0_; have HB := n1_; have HO291 := n2_; clear n0_ n1_ n2_; clear ho hb hg hat))
  go_ret
  exact ⟨_, zE, by (with_reducible repeat (first | apply Kd.N_alloc | apply Kd.N_drewN | apply Kd.N_drew)); exact HO291.out, zB⟩

set_option maxHeartbeats 8000000 in
set_option maxRecDepth 100000 in
theorem impl_Access.calls (P0_ : Nat → Prop) (A0 : Option Addr) (c0 : Nat) (l0 : List (S129)) (r : List (S129)) (w : World) (hs0 : Kd.V k129 129 w w.heap.size (fun k_ => P0_ k_) (.slice A0 l0.length c0) l0) (h : impl_Access.f l0 = some r) :
    Calls Try.prog 153 #[.slice A0 l0.length c0] w fun e w' => ∃ v0_ : Value, e = .returned (v0_) ∧ Kd.N k129 129 w' w.heap.size (fun k_ => (P0_ k_ ∨ w.heap.size ≤ k_)) v0_ r ∧ Below w.heap.size w w' := by
  rcases A0 with _ | ad0
  · obtain rfl : l0 = [] := by
     rcases Nat.eq_zero_or_pos l0.length with h0 | h0
     · exact List.eq_nil_of_length_eq_zero h0
     · obtain ⟨_, h1, _⟩ := (by first | exact hr0 | exact (Kd.V_reads' hs0).2.2 : Kd.C k129 w none l0.length l0).2.2 h0
       cases h1
    obtain rfl : r = [] := by simp [impl_Access.f] at h; first | exact h.symm | exact h
    have hq := fun (w : World) (a : Option Addr) (n c n' c' : Nat) => Lib.run_eql_slice_nil w 127 129 a n c n' c' Try.underlying127
    go_enter Try.func153, Try.ntmps153
    go_wp2
    go_ret
    exact ⟨_, rfl, (by first | exact Kd.R_nil _ _ _ _ _ | exact Kd.N_nil _ _ _ _ _ | exact Kd.V_nil _ _ _ _ _ | exact Kd.Q_nil _ _ _ _ _ | exact Kd.S_nil _ _ _ _ _), Below.refl _ _⟩
  · exact impl_Access.calls_some P0_ (some ad0) c0 l0 r w hs0 h (by simp)

/-! ### impl_Access_fitsIn: function 154 -/
mutual
def impl_Access_fitsIn.j0 : Nat → List Int → Int → Bool → Int → Int → List Int → Option (Bool)
  | 0, _, _, _, _, _, _ => none
  | k + 1, x1, x2, x27, x293000, x293001, x293002 => if x27 = true then (some false) else (impl_Access_fitsIn.l0 k x1 x2 x293001 x293001 x293002 (x293002.length : Int) 0)
def impl_Access_fitsIn.l0 : Nat → List Int → Int → Int → Int → List Int → Int → Int → Option (Bool)
  | 0, _, _, _, _, _, _, _ => none
  | k + 1, x1, x2, x7, x8, x33, x34, x35 => if x35 < x34 then (if 0 ≤ x35 then (if x35 < (x33.length : Int) then (if (rd x33 x35) < (-4096) then (impl_Access_fitsIn.j2 k x1 x2 x7 x8 x35 (rd x33 x35) x33 x34 x35 true) else (if (rd x33 x35) > 4096 then (impl_Access_fitsIn.j2 k x1 x2 x7 x8 x35 (rd x33 x35) x33 x34 x35 true) else (if x35 < (x1.length : Int) then (if (rd x1 x35) = 1 then (impl_Access_fitsIn.j2 k x1 x2 x7 x8 x35 (rd x33 x35) x33 x34 x35 ((rd x33 x35) != 0)) else (impl_Access_fitsIn.j2 k x1 x2 x7 x8 x35 (rd x33 x35) x33 x34 x35 false)) else (none)))) else (none)) else (none)) else (if x7 ≥ 0 then (some (decide (x8 < x2))) else (some false))
def impl_Access_fitsIn.j2 : Nat → List Int → Int → Int → Int → Int → Int → List Int → Int → Int → Bool → Option (Bool)
  | 0, _, _, _, _, _, _, _, _, _, _ => none
  | k + 1, x1, x2, x7, x8, x9, x10, x33, x34, x35, x56 => if x56 = true then (some false) else (if 0 ≤ x9 then (if x9 < (x1.length : Int) then (impl_Access_fitsIn.l0 k x1 x2 (wrap64 (x7 + (mn 0 (wrap64 (x10 * (wrap64 ((rd x1 x9) - 1))))))) (wrap64 (x8 + (mx 0 (wrap64 (x10 * (wrap64 ((rd x1 x9) - 1))))))) x33 x34 (wrap64 (x35 + 1))) else (none)) else (none))
end
def impl_Access_fitsIn.f (k : Nat) (a0_0 : Int) (a0_1 : Int) (l0_2 : List Int) (l1 : List Int) (a2 : Int) : Option (Bool) := if (l0_2.length : Int) = (l1.length : Int) then (if a0_1 < 0 then (impl_Access_fitsIn.j0 k l1 a2 true a0_0 a0_1 l0_2) else (impl_Access_fitsIn.j0 k l1 a2 (decide (a0_1 ≥ a2)) a0_0 a0_1 l0_2)) else (impl_Access_fitsIn.j0 k l1 a2 true a0_0 a0_1 l0_2)
theorem impl_Access_fitsIn.mono_l : ∀ k, (∀ y0 y1 y2 y3 y4 y5, LeO (impl_Access_fitsIn.j0 k y0 y1 y2 y3 y4 y5) (impl_Access_fitsIn.j0 (k + 1) y0 y1 y2 y3 y4 y5)) ∧ (∀ y0 y1 y2 y3 y4 y5 y6, LeO (impl_Access_fitsIn.l0 k y0 y1 y2 y3 y4 y5 y6) (impl_Access_fitsIn.l0 (k + 1) y0 y1 y2 y3 y4 y5 y6)) ∧ (∀ y0 y1 y2 y3 y4 y5 y6 y7 y8 y9, LeO (impl_Access_fitsIn.j2 k y0 y1 y2 y3 y4 y5 y6 y7 y8 y9) (impl_Access_fitsIn.j2 (k + 1) y0 y1 y2 y3 y4 y5 y6 y7 y8 y9))
  | 0 => ⟨fun _ _ _ _ _ _ r h => by simp [impl_Access_fitsIn.j0] at h, fun _ _ _ _ _ _ _ r h => by simp [impl_Access_fitsIn.l0] at h, fun _ _ _ _ _ _ _ _ _ _ r h => by simp [impl_Access_fitsIn.j2] at h⟩
  | k + 1 => by
    obtain ⟨ih0, ih1, ih2⟩ := impl_Access_fitsIn.mono_l k
    refine ⟨?_, ?_, ?_⟩
    all_goals (intros; first | unfold impl_Access_fitsIn.j0 | unfold impl_Access_fitsIn.l0 | unfold impl_Access_fitsIn.j2)
    all_goals repeat' first
      | (with_reducible exact ih0 _ _ _ _ _ _)
      | (with_reducible exact ih1 _ _ _ _ _ _ _)
      | (with_reducible exact ih2 _ _ _ _ _ _ _ _ _ _)
      | (with_reducible exact LeO.refl _)
      | (with_reducible exact LeO.none _)
      | (with_reducible refine LeO.ite ?_ ?_)
      | (with_reducible refine LeO.bind ?_ (fun _ => ?_))
      | exact ih0 _ _ _ _ _ _
      | exact ih1 _ _ _ _ _ _ _
      | exact ih2 _ _ _ _ _ _ _ _ _ _
      | exact LeO.none _
      | refine LeO.ite ?_ ?_
      | refine LeO.bind ?_ (fun _ => ?_)
theorem impl_Access_fitsIn.mono : ∀ a0 a1 a2 a3 a4 k, LeO (impl_Access_fitsIn.f k a0 a1 a2 a3 a4) (impl_Access_fitsIn.f (k + 1) a0 a1 a2 a3 a4) := by
  intro a0 a1 a2 a3 a4 k
  obtain ⟨ih0, ih1, ih2⟩ := impl_Access_fitsIn.mono_l k
  unfold impl_Access_fitsIn.f
  repeat' first
      | (with_reducible exact ih0 _ _ _ _ _ _)
      | (with_reducible exact ih1 _ _ _ _ _ _ _)
      | (with_reducible exact ih2 _ _ _ _ _ _ _ _ _ _)
      | (with_reducible exact LeO.refl _)
      | (with_reducible exact LeO.none _)
      | (with_reducible refine LeO.ite ?_ ?_)
      | (with_reducible refine LeO.bind ?_ (fun _ => ?_))
      | exact ih0 _ _ _ _ _ _
      | exact ih1 _ _ _ _ _ _ _
      | exact ih2 _ _ _ _ _ _ _ _ _ _
      | exact LeO.none _
      | refine LeO.ite ?_ ?_
      | refine LeO.bind ?_ (fun _ => ?_)
set_option maxHeartbeats 8000000 in
set_option maxRecDepth 100000 in
theorem impl_Access_fitsIn.calls (k : Nat) (a0_0 : Int) (a0_1 : Int) (A0_2 : Option Addr) (c0_2 : Nat) (l0_2 : List Int) (A1 : Option Addr) (c1 : Nat) (l1 : List Int) (a2 : Int) (r : Bool) (w : World) (hr0_2 : Kd.C (Kd.int .i64) w A0_2 l0_2.length l0_2) (hc0_2 : l0_2.length ≤ c0_2) (hr1 : Kd.C (Kd.int .i64) w A1 l1.length l1) (hc1 : l1.length ≤ c1) (h : impl_Access_fitsIn.f k a0_0 a0_1 l0_2 l1 a2 = some r) :
    Calls Try.prog 154 #[.agg #[.int .i64 a0_0, .int .i64 a0_1, .slice A0_2 l0_2.length c0_2], .slice A1 l1.length c1, .int .i64 a2] w fun e w' => e = .returned (.bool r) ∧ Below w.heap.size w w' := by
  have hu129 := Try.underlying129
  have HR0_2 := zK hr0_2
  have HC0_2 := zK hc0_2
  clear hr0_2 hc0_2
  have HR1 := zK hr1
  have HC1 := zK hc1
  clear hr1 hc1
  have HB := zK (Below.refl w.heap.size w)
  have H : (if (l0_2.length : Int) = (l1.length : Int) then (if a0_1 < 0 then (impl_Access_fitsIn.j0 k l1 a2 true a0_0 a0_1 l0_2) else (impl_Access_fitsIn.j0 k l1 a2 (decide (a0_1 ≥ a2)) a0_0 a0_1 l0_2)) else (impl_Access_fitsIn.j0 k l1 a2 true a0_0 a0_1 l0_2)) = some r := h
  clear h
  have HC4 := zK H
  clear H
  go_enter Try.func154, Try.ntmps154
  go_upto_region 1 with (first | ((with_reducible refine gate_dst (N := 3) rfl ?_); refine zJ 3 #[.int .i64 a0_0, .int .i64 a0_1, .slice A0_2 l0_2.length c0_2] 129 ?_; intro gb292 hg w5 hbox hb; have n0_ := zK (zp zB hb); have n1_ := zK (hbox); have n2_ := zK (zI hg zB); have n3_ := zK (zI hg zB); clear HB; have HB := n0_; have BK292 := n1_; have GW292 := n2_; have GE292 := n3_; clear n0_ n1_ n2_ n3_; clear hb hbox hg))
  repeat (go_quiet (first | ((with_reducible refine gate_dst (N := 3) rfl ?_); refine zJ 3 #[.int .i64 a0_0, .int .i64 a0_1, .slice A0_2 l0_2.length c0_2] 129 ?_; intro gb292 hg w5 hbox hb; have n0_ := zK (zp zB hb); have n1_ := zK (hbox); have n2_ := zK (zI hg zB); have n3_ := zK (zI hg zB); clear HB; have HB := n0_; have BK292 := n1_; have GW292 := n2_; have GE292 := n3_; clear n0_ n1_ n2_ n3_; clear hb hbox hg)); go_upto_region 1 with (first | ((with_reducible refine gate_dst (N := 3) rfl ?_); refine zJ 3 #[.int .i64 a0_0, .int .i64 a0_1, .slice A0_2 l0_2.length c0_2] 129 ?_; intro gb292 hg w5 hbox hb; have n0_ := zK (zp zB hb); have n1_ := zK (hbox); have n2_ := zK (zI hg zB); have n3_ := zK (zI hg zB); clear HB; have HB := n0_; have BK292 := n1_; have GW292 := n2_; have GE292 := n3_; clear n0_ n1_ n2_ n3_; clear hb hbox hg)))
  (try simp only [Act.put, zq1, zq2, zq3])
  go_cut [27] (fun v27 wc => ∃ (kq : Nat) (x27_3 : Bool), v27 = .bool x27_3 ∧ Aside0 (impl_Access_fitsIn.j0 kq l1 a2 x27_3 a0_0 a0_1 l0_2 = some r) ∧ Aside0 (kq ≤ k) ∧ Aside0 (wc.heap[gb292]? = some (.cells #[.int .i64 a0_0, .int .i64 a0_1, (.slice A0_2 l0_2.length c0_2)] 129 (0, 0))) ∧ Aside0 (Below w.heap.size w wc))
  case first =>
   have H := HC4.out
   clear HC4
   by_cases c6 : (l0_2.length : Int) = (l1.length : Int)
   rotate_left
   · rw [if_neg c6] at H
     have c6b0 : ((l0_2.length : Int) == (l1.length : Int)) = false := beq_eq_false_iff_ne.mpr c6
     have c6b1 : ((l0_2.length : Int) != (l1.length : Int)) = true := bne_iff_ne.mpr c6
     have c6b2 : (l0_2.length == l1.length) = false := by first | simpa using c6 | (simp at c6 ⊢; omega)
     (first | rw [c6b0] | (simp only [i64_w, i32_w]; rw [c6b0]) | skip)
     have H' := zK H
     clear H
     obtain ⟨hcz10_0, hcz10_1, hcz10_2, hfz10_0, hfz10_1, hfz10_2⟩ := zc3 BK292
     go_wp2
     repeat (go_quiet (fail); try go_wp2)
     go_meet
     case rel => exact ⟨_, (true), zR, H', ⟨by first | omega | exact Nat.le_refl _⟩, ⟨zM BK292⟩, ⟨zB⟩⟩
   rw [if_pos c6] at H
   have c6b0 : ((l0_2.length : Int) == (l1.length : Int)) = true := beq_iff_eq.mpr c6
   have c6b1 : ((l0_2.length : Int) != (l1.length : Int)) = false := bne_eq_false_iff_eq.mpr c6
   have c6b2 : (l0_2.length == l1.length) = true := by first | simpa using c6 | (simp at c6 ⊢; omega)
   clear c6
   (first | rw [c6b0] | (simp only [i64_w, i32_w]; rw [c6b0]) | skip)
   by_cases c7 : a0_1 < 0
   · rw [if_pos c7] at H
     have c7b0 : decide (a0_1 < 0) = true := decide_eq_true c7
     clear c7
     have H' := zK H
     clear H
     obtain ⟨hcz8_0, hcz8_1, hcz8_2, hfz8_0, hfz8_1, hfz8_2⟩ := zc3 BK292
     go_wp2
     repeat (go_quiet (fail); try go_wp2)
     go_meet
     case rel => exact ⟨_, (true), zR, H', ⟨by first | omega | exact Nat.le_refl _⟩, ⟨zM BK292⟩, ⟨zB⟩⟩
   rw [if_neg c7] at H
   have c7b0 : decide (a0_1 < 0) = false := decide_eq_false c7
   clear c7
   have H' := zK H
   clear H
   obtain ⟨hcz9_0, hcz9_1, hcz9_2, hfz9_0, hfz9_1, hfz9_2⟩ := zc3 BK292
   go_wp2
   repeat (go_quiet (fail); try go_wp2)
   go_meet
   case rel => exact ⟨_, (decide (a0_1 ≥ a2)), zR, H', ⟨by first | omega | exact Nat.le_refl _⟩, ⟨zM BK292⟩, ⟨zB⟩⟩
  case rest =>
   clear HC4
   try clear c1
   try clear p2
   try clear c6
   try clear c6b0
   try clear c6b1
   try clear c6b2
   try clear c7
   try clear c7b0
   try clear hcz10_0 hcz10_1 hcz10_2 hfz10_0 hfz10_1 hfz10_2
   try clear hcz8_0 hcz8_1 hcz8_2 hfz8_0 hfz8_1 hfz8_2
   try clear hcz9_0 hcz9_1 hcz9_2 hfz9_0 hfz9_1 hfz9_2
   obtain ⟨kq, x27_3, rfl, HA, HJ3, BK292, HB⟩ := hcut
   cases kq with
   | zero => exact absurd HA.out (by simp [impl_Access_fitsIn.j0])
   | succ kj3 =>
    have H := HA.out
    clear HA
    simp only [impl_Access_fitsIn.j0] at H
    by_cases c11 : x27_3 = true
    · subst c11
      have H1 : (some false) = some r := by rw [if_pos rfl] at H; exact H
      clear H
      have H := H1
      clear H1
      obtain rfl := Option.some.inj H
      go_wp2
      repeat (go_quiet (fail); try go_wp2)
      go_ret
      exact ⟨zE, zB⟩
    replace c11 := Bool.eq_false_iff.mpr c11
    subst c11
    have H1 : (impl_Access_fitsIn.l0 kj3 l1 a2 a0_1 a0_1 l0_2 (l0_2.length : Int) 0) = some r := by rw [if_neg (show ¬ (false = true) by decide)] at H; exact H
    clear H
    have H := H1
    clear H1
    have H' := zK H
    clear H
    obtain ⟨hcz12_0, hcz12_1, hcz12_2, hfz12_0, hfz12_1, hfz12_2⟩ := zc3 BK292
    go_wp2
    repeat (go_quiet (fail); try go_wp2)
    go_loopg [7, 8, 35] kj3 (fun kq v7 v8 v35 w' => ∃ (x7_2 : Int) (x8_2 : Int) (x35_2 : Int), v7 = .int .i64 x7_2 ∧ v8 = .int .i64 x8_2 ∧ v35 = .int .i64 x35_2 ∧ Aside0 (impl_Access_fitsIn.l0 kq l1 a2 x7_2 x8_2 l0_2 (l0_2.length : Int) x35_2 = some r) ∧ Aside0 (kq ≤ kj3) ∧ Aside0 (w'.heap[gb292]? = some (.cells #[.int .i64 a0_0, .int .i64 a0_1, (.slice A0_2 l0_2.length c0_2)] 129 (0, 0))) ∧ Aside0 (Below w.heap.size w w'))
    case atStart => exact ⟨(a0_1), (a0_1), (0), zR, zR, zR, H', ⟨Nat.le_refl _⟩, ⟨zM BK292⟩, ⟨zB⟩⟩
    clear H'
    try clear c1
    try clear p2
    try clear c6
    try clear c6b0
    try clear c6b1
    try clear c6b2
    try clear c7
    try clear c7b0
    try clear c11
    try clear hcz10_0 hcz10_1 hcz10_2 hfz10_0 hfz10_1 hfz10_2
    try clear hcz12_0 hcz12_1 hcz12_2 hfz12_0 hfz12_1 hfz12_2
    try clear hcz8_0 hcz8_1 hcz8_2 hfz8_0 hfz8_1 hfz8_2
    try clear hcz9_0 hcz9_1 hcz9_2 hfz9_0 hfz9_1 hfz9_2
    try clear p2
    obtain ⟨x7_2, x8_2, x35_2, rfl, rfl, rfl, HA, HK2, BK292, HB⟩ := hrel
    rcases gk with _ | k2
    · exact absurd HA.out (by simp [impl_Access_fitsIn.l0])
    have H := HA.out
    clear HA
    simp only [impl_Access_fitsIn.l0] at H
    by_cases c13 : x35_2 < (l0_2.length : Int)
    rotate_left
    · rw [if_neg c13] at H
      have c13b0 : decide (x35_2 < (l0_2.length : Int)) = false := decide_eq_false c13
      clear c13
      by_cases c26 : x7_2 ≥ 0
      · rw [if_pos c26] at H
        have c26b0 : decide (0 ≤ x7_2) = true := decide_eq_true c26
        clear c26
        obtain rfl := Option.some.inj H
        go_wp2
        repeat (go_quiet (fail); try go_wp2)
        go_ret
        exact ⟨zE, zB⟩
      rw [if_neg c26] at H
      have c26b0 : decide (0 ≤ x7_2) = false := decide_eq_false c26
      clear c26
      obtain rfl := Option.some.inj H
      go_wp2
      repeat (go_quiet (fail); try go_wp2)
      go_ret
      exact ⟨zE, zB⟩
    rw [if_pos c13] at H
    have c13b0 : decide (x35_2 < (l0_2.length : Int)) = true := decide_eq_true c13
    clear c13
    by_cases c14 : 0 ≤ x35_2
    rotate_left
    · rw [if_neg c14] at H
      exact absurd H (by simp)
    rw [if_pos c14] at H
    have c14b0 : decide (0 ≤ x35_2) = true := decide_eq_true c14
    clear c14
    by_cases c15 : x35_2 < (l0_2.length : Int)
    rotate_left
    · rw [if_neg c15] at H
      exact absurd H (by simp)
    rw [if_pos c15] at H
    have c15b0 : decide (x35_2 < (l0_2.length : Int)) = true := decide_eq_true c15
    clear c15
    have HC16 := zK H
    clear H
    have p293 : 0 ≤ (x35_2 : Int) := of_decide_eq_true zA
    have q293 : x35_2 < (l0_2.length : Int) := of_decide_eq_true zA
    obtain ⟨ad293, e293, hx293_0⟩ := Kd.at_int HR0_2.out x35_2 p293 q293
    cases e293
    (try replace hx293_0 := zX HB hx293_0)
    replace p293 := eq_true p293
    replace q293 := eq_true q293
    go_upto_region 7 with (fail)
    repeat (go_quiet (fail); go_upto_region 7 with (fail))
    go_cut [56] (fun v56 wc => ∃ (kq : Nat) (x56_15 : Bool), v56 = .bool x56_15 ∧ Aside0 (impl_Access_fitsIn.j2 kq l1 a2 x7_2 x8_2 x35_2 (rd l0_2 x35_2) l0_2 (l0_2.length : Int) x35_2 x56_15 = some r) ∧ Aside0 (kq ≤ k2) ∧ Aside0 (wc.heap[gb292]? = some (.cells #[.int .i64 a0_0, .int .i64 a0_1, (.slice (some ad293) l0_2.length c0_2)] 129 (0, 0))) ∧ Aside0 (Below w.heap.size w wc))
    case first =>
     have H := HC16.out
     clear HC16
     by_cases c17 : (rd l0_2 x35_2) < (-4096)
     · rw [if_pos c17] at H
       have c17b0 : decide ((rd l0_2 x35_2) < (-4096)) = true := decide_eq_true c17
       clear c17
       (first | rw [c17b0] | (simp only [i64_w, i32_w]; rw [c17b0]) | skip)
       have H' := zK H
       clear H
       go_wp2
       repeat (go_quiet (fail); try go_wp2)
       go_meet
       case rel => exact ⟨_, (true), zR, H', ⟨by have := HJ3.out; have := HK2.out; first | omega | exact Nat.le_refl _⟩, ⟨zM BK292⟩, ⟨zB⟩⟩
     rw [if_neg c17] at H
     have c17b0 : decide ((rd l0_2 x35_2) < (-4096)) = false := decide_eq_false c17
     clear c17
     (first | rw [c17b0] | (simp only [i64_w, i32_w]; rw [c17b0]) | skip)
     by_cases c18 : (rd l0_2 x35_2) > 4096
     · rw [if_pos c18] at H
       have c18b0 : decide (4096 < (rd l0_2 x35_2)) = true := decide_eq_true c18
       clear c18
       have H' := zK H
       clear H
       go_wp2
       repeat (go_quiet (fail); try go_wp2)
       go_meet
       case rel => exact ⟨_, (true), zR, H', ⟨by have := HJ3.out; have := HK2.out; first | omega | exact Nat.le_refl _⟩, ⟨zM BK292⟩, ⟨zB⟩⟩
     rw [if_neg c18] at H
     have c18b0 : decide (4096 < (rd l0_2 x35_2)) = false := decide_eq_false c18
     clear c18
     by_cases c19 : x35_2 < (l1.length : Int)
     rotate_left
     · rw [if_neg c19] at H
       exact absurd H (by simp)
     rw [if_pos c19] at H
     have c19b0 : decide (x35_2 < (l1.length : Int)) = true := decide_eq_true c19
     clear c19
     by_cases c20 : (rd l1 x35_2) = 1
     rotate_left
     · rw [if_neg c20] at H
       have c20b0 : ((rd l1 x35_2) == 1) = false := beq_eq_false_iff_ne.mpr c20
       have c20b1 : ((rd l1 x35_2) != 1) = true := bne_iff_ne.mpr c20
       have H' := zK H
       clear H
       have p294 : 0 ≤ (x35_2 : Int) := of_decide_eq_true zA
       have q294 : x35_2 < (l1.length : Int) := of_decide_eq_true zA
       obtain ⟨ad294, e294, hx294_0⟩ := Kd.at_int HR1.out x35_2 p294 q294
       cases e294
       (try replace hx294_0 := zX HB hx294_0)
       replace p294 := eq_true p294
       replace q294 := eq_true q294
       go_wp2
       repeat (go_quiet (fail); try go_wp2)
       go_meet
       case rel => exact ⟨_, (false), zR, H', ⟨by have := HJ3.out; have := HK2.out; first | omega | exact Nat.le_refl _⟩, ⟨zM BK292⟩, ⟨zB⟩⟩
     rw [if_pos c20] at H
     have c20b0 : ((rd l1 x35_2) == 1) = true := beq_iff_eq.mpr c20
     have c20b1 : ((rd l1 x35_2) != 1) = false := bne_eq_false_iff_eq.mpr c20
     clear c20
     have H' := zK H
     clear H
     have p294 : 0 ≤ (x35_2 : Int) := of_decide_eq_true zA
     have q294 : x35_2 < (l1.length : Int) := of_decide_eq_true zA
     obtain ⟨ad294, e294, hx294_0⟩ := Kd.at_int HR1.out x35_2 p294 q294
     cases e294
     (try replace hx294_0 := zX HB hx294_0)
     replace p294 := eq_true p294
     replace q294 := eq_true q294
     go_wp2
     repeat (go_quiet (fail); try go_wp2)
     go_meet
     case rel => exact ⟨_, (((rd l0_2 x35_2) != 0)), zR, H', ⟨by have := HJ3.out; have := HK2.out; first | omega | exact Nat.le_refl _⟩, ⟨zM BK292⟩, ⟨zB⟩⟩
    case rest =>
     clear HC16
     try clear c1
     try clear c2
     try clear p2
     try clear q2
     try clear hx2
     try clear c6
     try clear c6b0
     try clear c6b1
     try clear c6b2
     try clear c7
     try clear c7b0
     try clear c11
     try clear c13
     try clear c13b0
     try clear c14
     try clear c14b0
     try clear c15
     try clear c15b0
     try clear c17
     try clear c17b0
     try clear c18
     try clear c18b0
     try clear c19
     try clear c19b0
     try clear c20
     try clear c20b0
     try clear c20b1
     try clear hcz10_0 hcz10_1 hcz10_2 hfz10_0 hfz10_1 hfz10_2
     try clear hcz12_0 hcz12_1 hcz12_2 hfz12_0 hfz12_1 hfz12_2
     try clear hcz8_0 hcz8_1 hcz8_2 hfz8_0 hfz8_1 hfz8_2
     try clear hcz9_0 hcz9_1 hcz9_2 hfz9_0 hfz9_1 hfz9_2
     try clear hx293_0
     try clear hx294_0
     try clear p2
     try clear p293
     try clear p294
     try clear q293
     try clear q294
     obtain ⟨kq, x56_15, rfl, HA, HJ15, BK292, HB⟩ := hcut
     cases kq with
     | zero => exact absurd HA.out (by simp [impl_Access_fitsIn.j2])
     | succ kj15 =>
      have H := HA.out
      clear HA
      simp only [impl_Access_fitsIn.j2] at H
      by_cases c21 : x56_15 = true
      · subst c21
        have H1 : (some false) = some r := by rw [if_pos rfl] at H; exact H
        clear H
        have H := H1
        clear H1
        obtain rfl := Option.some.inj H
        go_wp2
        repeat (go_quiet (fail); try go_wp2)
        go_ret
        exact ⟨zE, zB⟩
      replace c21 := Bool.eq_false_iff.mpr c21
      subst c21
      have H1 : (if 0 ≤ x35_2 then (if x35_2 < (l1.length : Int) then (impl_Access_fitsIn.l0 kj15 l1 a2 (wrap64 (x7_2 + (mn 0 (wrap64 ((rd l0_2 x35_2) * (wrap64 ((rd l1 x35_2) - 1))))))) (wrap64 (x8_2 + (mx 0 (wrap64 ((rd l0_2 x35_2) * (wrap64 ((rd l1 x35_2) - 1))))))) l0_2 (l0_2.length : Int) (wrap64 (x35_2 + 1))) else (none)) else (none)) = some r := by rw [if_neg (show ¬ (false = true) by decide)] at H; exact H
      clear H
      have H := H1
      clear H1
      by_cases c22 : 0 ≤ x35_2
      rotate_left
      · rw [if_neg c22] at H
        exact absurd H (by simp)
      rw [if_pos c22] at H
      have c22b0 : decide (0 ≤ x35_2) = true := decide_eq_true c22
      clear c22
      by_cases c23 : x35_2 < (l1.length : Int)
      rotate_left
      · rw [if_neg c23] at H
        exact absurd H (by simp)
      rw [if_pos c23] at H
      have c23b0 : decide (x35_2 < (l1.length : Int)) = true := decide_eq_true c23
      clear c23
      obtain ⟨ji24, hji24⟩ : ∃ j_ : Int, (mn 0 (wrap64 ((rd l0_2 x35_2) * (wrap64 ((rd l1 x35_2) - 1))))) = j_ := ⟨_, rfl⟩
      replace H : (impl_Access_fitsIn.l0 kj15 l1 a2 (wrap64 (x7_2 + (ji24))) (wrap64 (x8_2 + (mx 0 (wrap64 ((rd l0_2 x35_2) * (wrap64 ((rd l1 x35_2) - 1))))))) l0_2 (l0_2.length : Int) (wrap64 (x35_2 + 1))) = some r := by first | (rw [hji24] at H; exact H) | (simp only [hji24] at H ⊢; exact H)
      have hji24_ : (if (wrap64 ((rd l0_2 x35_2) * (wrap64 ((rd l1 x35_2) - 1)))) < 0 then (wrap64 ((rd l0_2 x35_2) * (wrap64 ((rd l1 x35_2) - 1)))) else 0) = ji24 := hji24
      obtain ⟨ji25, hji25⟩ : ∃ j_ : Int, (mx 0 (wrap64 ((rd l0_2 x35_2) * (wrap64 ((rd l1 x35_2) - 1))))) = j_ := ⟨_, rfl⟩
      replace H : (impl_Access_fitsIn.l0 kj15 l1 a2 (wrap64 (x7_2 + (ji24))) (wrap64 (x8_2 + (ji25))) l0_2 (l0_2.length : Int) (wrap64 (x35_2 + 1))) = some r := by first | (rw [hji25] at H; exact H) | (simp only [hji25] at H ⊢; exact H)
      have hji25_ : (if 0 < (wrap64 ((rd l0_2 x35_2) * (wrap64 ((rd l1 x35_2) - 1)))) then (wrap64 ((rd l0_2 x35_2) * (wrap64 ((rd l1 x35_2) - 1)))) else 0) = ji25 := hji25
      have H' := zK H
      clear H
      have p295 : 0 ≤ (x35_2 : Int) := of_decide_eq_true zA
      have q295 : x35_2 < (l1.length : Int) := of_decide_eq_true zA
      obtain ⟨ad295, e295, hx295_0⟩ := Kd.at_int HR1.out x35_2 p295 q295
      cases e295
      (try replace hx295_0 := zX HB hx295_0)
      replace p295 := eq_true p295
      replace q295 := eq_true q295
      have p296 : 0 ≤ (x35_2 : Int) := of_decide_eq_true zA
      have q296 : x35_2 < (l1.length : Int) := of_decide_eq_true zA
      obtain ⟨ad296, e296, hx296_0⟩ := Kd.at_int HR1.out x35_2 p296 q296
      obtain rfl : ad295 = ad296 := (by injection e296)
      (try replace hx296_0 := zX HB hx296_0)
      replace p296 := eq_true p296
      replace q296 := eq_true q296
      go_wp2
      repeat (go_quiet (fail); try go_wp2)
      go_roundg kj15
      case measure => have := HJ3.out; have := HK2.out; have := HJ15.out; omega
      case rel => exact ⟨(wrap64 (x7_2 + (ji24))), (wrap64 (x8_2 + (ji25))), (wrap64 (x35_2 + 1)), (by first | rfl | (simp; done) | (simp only [← hji24] <;> (first | rfl | simp)) | (simp [*]; done)), (by first | rfl | (simp; done) | (simp only [← hji25] <;> (first | rfl | simp)) | (simp [*]; done)), zR, H', ⟨by have := HJ3.out; have := HK2.out; have := HJ15.out; omega⟩, ⟨zM BK292⟩, ⟨zB⟩⟩

end Go.Proofs.Ytkfagiojcjnfkaa.PFnExactNestOk
