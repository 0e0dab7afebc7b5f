-- Printed out of the translation by this session's own turned copy of a printer; Lean checks it.
import Derived.Test.YtmcboiffbcnalaaPFnExactLivesx0
namespace Go.Proofs.Ytmcboiffbcnalaa.PFnExactLives
open Go.RowKit Go.Proofs.YtmcboiffbcnalaaW.PrintWords Go.Proofs.YtmcboiffbcnalaaW.PrintLast Go.Proofs.YtmcboiffbcnalaaW.PrintMore
attribute [local go_sem] max2_int min2_int max_two min_two max_three min_three max_four min_four
set_option linter.unusedVariables false
set_option linter.unusedSimpArgs false
set_option maxHeartbeats 8000000
set_option maxRecDepth 100000
def impl_Access.f (q : List (S76)) : Option ((List (S76))) := (some (([] : List (S76)) : List (S76))).bind fun l => (if l.length + q.length < 3518437208883 then (some (l ++ q)) else (none))
theorem impl_Access.calls_some (q : Nat → Prop) (U) (X) (z : List (S76)) (r : List (S76)) (w) (b0 : Kd.V k76 76 w w.heap.size (fun k_ => q k_) (.slice U z.length X) z) (h : impl_Access.f z = some r) (hA0 : U ≠ none) :
 Calls Try.prog 69 #[.slice U z.length X] w fun e w' => ∃ v0_ : Value, e = .returned (v0_) ∧ Kd.N k76 76 w' w.heap.size (fun k_ => (q k_ ∨ w.heap.size ≤ k_)) v0_ r ∧ Below w.heap.size w w' := by
 obtain ⟨d0, rfl⟩ := Option.ne_none_iff_exists'.1 hA0
 clear hA0
 have hq := fun (w : World) (a : Option Addr) (n c n' c' : Nat) => Lib.run_eql_slice_nil w 74 76 a n c n' c' Try.underlying74
 have A := zK (show Kd.V k76 76 w w.heap.size (fun k_ => (q k_ ∨ w.heap.size ≤ k_)) (.slice (some d0) z.length X) z from Kd.V_mono b0 (fun k_ hk => .inl hk))
 have HB := zK (Below.refl w.heap.size w)
 have H : ((some (([] : List (S76)) : List (S76))).bind fun l => (if l.length + z.length < 3518437208883 then (some (l ++ z)) else (none))) = some r := h
 clear h
 obtain ⟨l, u⟩ : ∃ y_ : List (S76), y_ = (([] : List (S76))) := ⟨_, rfl⟩
 replace H : (if l.length + z.length < 3518437208883 then (some (l ++ z)) else (none)) = some r := by first | (rw [u]; with_reducible exact H) | (have B := (Option.bind_some _ _).symm.trans H; rw [u]; with_reducible exact B) | (have B := (Option.bind_some _ _).symm.trans H; with_reducible exact B) | with_reducible exact H | (rw [u]; exact H) | exact H
 have Ny323 := zK u
 clear u
 by_cases O : l.length + z.length < 3518437208883
 rotate_left
 · rw [if_neg O] at H
   exact absurd H (by simp)
 rw [if_pos O] at H
 have LMc2 := zK O
 clear O
 obtain ⟨a0, y⟩ : ∃ y_ : List (S76), y_ = (l ++ z) := ⟨_, rfl⟩
 replace H : (some a0) = some r := by first | (rw [y]; with_reducible exact H) | (have B := (Option.bind_some _ _).symm.trans H; rw [y]; with_reducible exact B) | (have B := (Option.bind_some _ _).symm.trans H; with_reducible exact B) | with_reducible exact H | (rw [y]; exact H) | exact H
 have Ny326 := zK y
 clear y
 obtain rfl := z5 H
 go_enter Try.func69, Try.ntmps69
 go_wp2_with (first | ((with_reducible refine gd 5 rfl ?_); refine Kd.N_lit k76 _ 76 ?hg (N' := 5) ?hd (xs := ([] : List (S76))) (inner := []) (ok := (fun k_ => (q k_ ∨ w.heap.size ≤ k_))) (okp := (fun k_ => (q k_ ∨ w.heap.size ≤ k_))) ?hr ?hp (fun _ hk => hk) ((show ∀ k_, w.heap.size ≤ k_ → (fun k_ => (q k_ ∨ w.heap.size ≤ k_)) k_ from fun k_ hk => (.inr (Nat.le_trans (zz zB) hk))) _ (Nat.le_refl _)) (Below.refl _ _) (Nat.le_refl _) (by simp) ?_; (case hd => rfl); (case hg => rfl); (case hr => first | (go_simp; done) | (go_simp; rfl)); (case hp => exact (Reps.none _ _)); intro v324 w3 E hb hg_ hnew_; clear hg_ hnew_; (first | rw [← Ny323.out] at E | (simp only [Int.reduceToNat] at E; rw [← Ny323.out] at E)); have J := zK (Kd.V_elder' (zkV A) (Kd.N_base E) hb); have L := zK (Kd.N_lower E (zz zB)); have M := z8 hb; revert J L M; clear A HB; intro A I HB; clear hb E) | ((with_reducible refine gate_builtin (b := .append) (xs := #[.tmp 5, .tmp 6]) rfl ?_); at_builtin; refine Kd.N_append_rows k76 (w0 := w) w.heap.size rfl (.tmp 5) (.tmp 6) 74 76 (.agg #[(.int .i64 0), (.int .i64 0), (.slice none 0 0)]) 40 rfl Try.underlying74 info76 rfl (by decide) (by omega) v324 l z _ _ _ (fun k_ => (q k_ ∨ w.heap.size ≤ k_)) (fun k_ => ((fun k_ => (q k_ ∨ w.heap.size ≤ k_))) k_ ∧ some k_ ≠ (v324 : Value).ownBlock) rfl rfl ?aO ?aR (fun _ hk => hk) ?aF ?aB ?aS ?aL ?_; (case aR => exact (by skip; exact Kd.V_F (Kd.V_mono (ok' := (fun k_ => ((fun k_ => (q k_ ∨ w.heap.size ≤ k_))) k_ ∧ some k_ ≠ (v324 : Value).ownBlock)) (A.out) (fun k_ hk => ⟨hk.1, hk.2⟩)))); (case aB => exact zB); (case aF => exact (fun k_ hk => (.inr (Nat.le_trans (zz zB) hk)))); (case aO => exact (zkN I)); (case aS => exact (zz zB)); (case aL => have := LMc2.out; omega); intro v327 w5 ho hb hg hat; rw [← Ny326.out] at ho; have J := zK (Kd.V_afterv (ok := (fun k_ => (q k_ ∨ w.heap.size ≤ k_))) (zkV A) hg hat); have L := zK (hb); have M := zK (ho); revert J L M; clear A HB I; intro A HB T; clear ho hb hg hat))
 go_ret
 exact ⟨_, zE, zkN T, zB⟩
theorem impl_Access.calls (q : Nat → Prop) (y) (z) (l : List (S76)) (r : List (S76)) (w) (u : Kd.V k76 76 w w.heap.size (fun k_ => q k_) (.slice y l.length z) l) (h : impl_Access.f l = some r) :
 Calls Try.prog 69 #[.slice y l.length z] w fun e w' => ∃ v0_ : Value, e = .returned (v0_) ∧ Kd.N k76 76 w' w.heap.size (fun k_ => (q k_ ∨ w.heap.size ≤ k_)) v0_ r ∧ Below w.heap.size w w' := by
 rcases y with _ | B
 · obtain rfl : l = [] := by
    rcases Nat.eq_zero_or_pos l.length with A | A
    · exact List.eq_nil_of_length_eq_zero A
    · obtain ⟨_, h1, _⟩ := (by first | exact E | exact (Kd.V_reads' u).2.2 : Kd.C k76 w none l.length l).2.2 A
      cases h1
   obtain rfl : r = [] := by simp [impl_Access.f] at h; first | exact h.symm | exact h
   have hq := fun (w : World) (a : Option Addr) (n c n' c' : Nat) => Lib.run_eql_slice_nil w 74 76 a n c n' c' Try.underlying74
   go_enter Try.func69, Try.ntmps69
   go_wp2
   go_ret
   exact ⟨_, rfl, (by first | exact Kd.R_nil _ _ _ _ _ | exact Kd.N_nil _ _ _ _ _ | exact Kd.V_nil _ _ _ _ _ | exact Kd.Q_nil _ _ _ _ _ | exact Kd.S_nil _ _ _ _ _), Below.refl _ _⟩
 · exact impl_Access.calls_some q (some B) z l r w u h (by simp)
mutual
def impl_Access_fitsIn.j0 : Nat → List Int → Int → Bool → Int → Int → List Int → Option (Bool)
 | 0, _, _, _, _, _, _ => none
 | k + 1, z, A, y, u, l, q => if y = true then (some false) else (impl_Access_fitsIn.l0 k z A l l q (q.length : Int) 0)
def impl_Access_fitsIn.l0 : Nat → List Int → Int → Int → Int → List Int → Int → Int → Option (Bool)
 | 0, _, _, _, _, _, _, _ => none
 | k + 1, y, z, A, B, q, u, l => if l < u then (if 0 ≤ l then (if l < (q.length : Int) then (if (rd q l) < (-4096) then (impl_Access_fitsIn.j2 k y z A B l (rd q l) q u l true) else (if (rd q l) > 4096 then (impl_Access_fitsIn.j2 k y z A B l (rd q l) q u l true) else (if l < (y.length : Int) then (if (rd y l) = 1 then (impl_Access_fitsIn.j2 k y z A B l (rd q l) q u l ((rd q l) != 0)) else (impl_Access_fitsIn.j2 k y z A B l (rd q l) q u l false)) else (none)))) else (none)) else (none)) else (if A ≥ 0 then (some (decide (B < z))) else (some false))
def impl_Access_fitsIn.j2 : Nat → List Int → Int → Int → Int → Int → Int → List Int → Int → Int → Bool → Option (Bool)
 | 0, _, _, _, _, _, _, _, _, _, _ => none
 | k + 1, l, E, I, J, q, u, y, z, A, B => if B = true then (some false) else (if 0 ≤ q then (if q < (l.length : Int) then (impl_Access_fitsIn.l0 k l E (wrap64 (I + (mn 0 (wrap64 (u * (wrap64 ((rd l q) - 1))))))) (wrap64 (J + (mx 0 (wrap64 (u * (wrap64 ((rd l q) - 1))))))) y z (wrap64 (A + 1))) else (none)) else (none))
end
def impl_Access_fitsIn.f (k : Nat) (u : Int) (l : Int) (q : List Int) (y : List Int) (z : Int) : Option (Bool) := if (q.length : Int) = (y.length : Int) then (if l < 0 then (impl_Access_fitsIn.j0 k y z true u l q) else (impl_Access_fitsIn.j0 k y z (decide (l ≥ z)) u l q)) else (impl_Access_fitsIn.j0 k y z true u l q)
theorem impl_Access_fitsIn.calls (k) (A) (y) (T) (E) (q : List Int) (A1) (c1) (z : List Int) (a2) (r : Bool) (w) (I1 : Kd.C (Kd.int .i64) w T q.length q) (J1 : q.length ≤ E) (x2 : Kd.C (Kd.int .i64) w A1 z.length z) (y2 : z.length ≤ c1) (h : impl_Access_fitsIn.f k A y q z a2 = some r) :
 Calls Try.prog 70 #[.agg #[.int .i64 A, .int .i64 y, .slice T q.length E], .slice A1 z.length c1, .int .i64 a2] w fun e w' => e = .returned (.bool r) ∧ Below w.heap.size w w' := by
 have L2 := Try.underlying76
 have f2 := zK I1
 have G2 := zK J1
 clear I1 J1
 have L1 := zK x2
 have M2 := zK y2
 clear x2 y2
 have HB := zK (Below.refl w.heap.size w)
 have H : (if (q.length : Int) = (z.length : Int) then (if y < 0 then (impl_Access_fitsIn.j0 k z a2 true A y q) else (impl_Access_fitsIn.j0 k z a2 (decide (y ≥ a2)) A y q)) else (impl_Access_fitsIn.j0 k z a2 true A y q)) = some r := h
 clear h
 have d2 := zK H
 clear H
 go_enter Try.func70, Try.ntmps70
 go_upto_region 1 with (first | ((with_reducible refine gd 3 rfl ?_); refine zJ 3 #[.int .i64 A, .int .i64 y, .slice T q.length E] 76 ?_; intro X hg w5 hbox hb; have n1 := z8 hb; have o1 := zK (hbox); have p1 := z9 hg; have q1 := z9 hg; revert n1 o1 p1 q1; clear HB; intro HB u M1 N1; clear hb hbox hg))
 repeat (go_quiet (first | ((with_reducible refine gd 3 rfl ?_); refine zJ 3 #[.int .i64 A, .int .i64 y, .slice T q.length E] 76 ?_; intro X hg w5 hbox hb; have n1 := z8 hb; have o1 := zK (hbox); have p1 := z9 hg; have q1 := z9 hg; revert n1 o1 p1 q1; clear HB; intro HB u M1 N1; clear hb hbox hg)); go_upto_region 1 with (first | ((with_reducible refine gd 3 rfl ?_); refine zJ 3 #[.int .i64 A, .int .i64 y, .slice T q.length E] 76 ?_; intro X hg w5 hbox hb; have n1 := z8 hb; have o1 := zK (hbox); have p1 := z9 hg; have q1 := z9 hg; revert n1 o1 p1 q1; clear HB; intro HB u M1 N1; clear hb hbox hg)))
 (try simp only [Act.put, zq1, zq2, zq3])
 go_cut [27] (fun v27 wc => ∃ (kq : Nat) (p0 : Bool), v27 = .bool p0 ∧ Aside0 (impl_Access_fitsIn.j0 kq z a2 p0 A y q = some r) ∧ Aside0 (kq ≤ k) ∧ Aside0 (wc.heap[X]? = some (.cells #[.int .i64 A, .int .i64 y, (.slice T q.length E)] 76 (0, 0))) ∧ Aside0 (Below w.heap.size w wc))
 case first =>
  have H := d2.out
  clear d2
  by_cases c6 : (q.length : Int) = (z.length : Int)
  rotate_left
  · rw [if_neg c6] at H
    have I := beq_eq_false_iff_ne.mpr c6
    have e1 := bne_iff_ne.mpr c6
    have f1 : (q.length == z.length) = false := by first | simpa using c6 | (simp at c6 ⊢; omega)
    (first | rw [I] | (simp only [i64_w, i32_w]; rw [I]) | skip)
    have H' := zK H
    clear H
    obtain ⟨c0, d0, e0, f0, g0, i0⟩ := zc3 u
    go_wp2
    repeat (go_quiet (fail); try go_wp2)
    go_meet
    case rel => exact ⟨_, (true), zR, H', ⟨by first | omega | exact Nat.le_refl _⟩, ⟨zM u⟩, ⟨zB⟩⟩
  rw [if_pos c6] at H
  have I := beq_iff_eq.mpr c6
  have e1 := bne_eq_false_iff_eq.mpr c6
  have f1 : (q.length == z.length) = true := by first | simpa using c6 | (simp at c6 ⊢; omega)
  clear c6
  (first | rw [I] | (simp only [i64_w, i32_w]; rw [I]) | skip)
  by_cases c7 : y < 0
  · rw [if_pos c7] at H
    have i1 := z1 c7
    clear c7
    have H' := zK H
    clear H
    obtain ⟨q0, s0, t0, x0, y0, A0⟩ := zc3 u
    go_wp2
    repeat (go_quiet (fail); try go_wp2)
    go_meet
    case rel => exact ⟨_, (true), zR, H', ⟨by first | omega | exact Nat.le_refl _⟩, ⟨zM u⟩, ⟨zB⟩⟩
  rw [if_neg c7] at H
  have i1 := z2 c7
  clear c7
  have H' := zK H
  clear H
  obtain ⟨B0, C0, D0, E0, F0, G0⟩ := zc3 u
  go_wp2
  repeat (go_quiet (fail); try go_wp2)
  go_meet
  case rel => exact ⟨_, (decide (y ≥ a2)), zR, H', ⟨by first | omega | exact Nat.le_refl _⟩, ⟨zM u⟩, ⟨zB⟩⟩
 case rest =>
  clear d2
  try clear c1
  try clear p2
  try clear c6
  try clear I
  try clear e1
  try clear f1
  try clear c7
  try clear i1
  try clear c0 d0 e0 f0 g0 i0
  try clear q0 s0 t0 x0 y0 A0
  try clear B0 C0 D0 E0 F0 G0
  obtain ⟨kq, p0, rfl, HA, M0, u, HB⟩ := hcut
  cases kq with
  | zero => exact absurd HA.out (by simp [impl_Access_fitsIn.j0])
  | succ A2 =>
   have H := HA.out
   clear HA
   simp only [impl_Access_fitsIn.j0] at H
   by_cases N0 : p0 = true
   · subst N0
     rw [if_pos rfl] at H
     obtain rfl := z5 H
     go_wp2
     repeat (go_quiet (fail); try go_wp2)
     go_ret
     exact ⟨zE, zB⟩
   replace N0 := Bool.eq_false_iff.mpr N0
   subst N0
   rw [if_neg (show ¬ (false = true) by decide)] at H
   have H' := zK H
   clear H
   obtain ⟨O0, R0, S0, T0, U0, V0⟩ := zc3 u
   go_wp2
   repeat (go_quiet (fail); try go_wp2)
   go_loopg [7, 8, 35] A2 (fun kq v7 v8 v35 w' => ∃ (J : Int) (U : Int) (l : Int), v7 = .int .i64 J ∧ v8 = .int .i64 U ∧ v35 = .int .i64 l ∧ Aside0 (impl_Access_fitsIn.l0 kq z a2 J U q (q.length : Int) l = some r) ∧ Aside0 (kq ≤ A2) ∧ Aside0 (w'.heap[X]? = some (.cells #[.int .i64 A, .int .i64 y, (.slice T q.length E)] 76 (0, 0))) ∧ Aside0 (Below w.heap.size w w'))
   case atStart => exact ⟨(y), (y), (0), zR, zR, zR, H', ⟨Nat.le_refl _⟩, ⟨zM u⟩, ⟨zB⟩⟩
   clear H'
   try clear c1
   try clear p2
   try clear c6
   try clear I
   try clear e1
   try clear f1
   try clear c7
   try clear i1
   try clear N0
   try clear c0 d0 e0 f0 g0 i0
   try clear O0 R0 S0 T0 U0 V0
   try clear q0 s0 t0 x0 y0 A0
   try clear B0 C0 D0 E0 F0 G0
   try clear p2
   obtain ⟨J, U, l, rfl, rfl, rfl, HA, X0, u, HB⟩ := hrel
   rcases gk with _ | k2
   · exact absurd HA.out (by simp [impl_Access_fitsIn.l0])
   have H := HA.out
   clear HA
   simp only [impl_Access_fitsIn.l0] at H
   by_cases I0 : l < (q.length : Int)
   rotate_left
   · rw [if_neg I0] at H
     have O1 := z2 I0
     clear I0
     by_cases a1 : J ≥ 0
     · rw [if_pos a1] at H
       have i2 := z1 a1
       clear a1
       obtain rfl := z5 H
       go_wp2
       repeat (go_quiet (fail); try go_wp2)
       go_ret
       exact ⟨zE, zB⟩
     rw [if_neg a1] at H
     have i2 := z2 a1
     clear a1
     obtain rfl := z5 H
     go_wp2
     repeat (go_quiet (fail); try go_wp2)
     go_ret
     exact ⟨zE, zB⟩
   rw [if_pos I0] at H
   have O1 := z1 I0
   clear I0
   by_cases s1 : 0 ≤ l
   rotate_left
   · rw [if_neg s1] at H
     exact absurd H (by simp)
   rw [if_pos s1] at H
   have l2 := z1 s1
   clear s1
   by_cases t1 : l < (q.length : Int)
   rotate_left
   · rw [if_neg t1] at H
     exact absurd H (by simp)
   rw [if_pos t1] at H
   have m2 := z1 t1
   clear t1
   have y1 := zK H
   clear H
   have j1 : 0 ≤ (l : Int) := z3
   have m1 : l < (q.length : Int) := z3
   obtain ⟨n2, B2, m0⟩ := Kd.at_int f2.out l j1 m1
   cases B2
   (try replace m0 := zX HB m0)
   replace j1 := eq_true j1
   replace m1 := eq_true m1
   go_upto_region 7 with (fail)
   repeat (go_quiet (fail); go_upto_region 7 with (fail))
   go_cut [56] (fun v56 wc => ∃ (kq : Nat) (b0 : Bool), v56 = .bool b0 ∧ Aside0 (impl_Access_fitsIn.j2 kq z a2 J U l (rd q l) q (q.length : Int) l b0 = some r) ∧ Aside0 (kq ≤ k2) ∧ Aside0 (wc.heap[X]? = some (.cells #[.int .i64 A, .int .i64 y, (.slice (some n2) q.length E)] 76 (0, 0))) ∧ Aside0 (Below w.heap.size w wc))
   case first =>
    have H := y1.out
    clear y1
    by_cases J0 : (rd q l) < (-4096)
    · rw [if_pos J0] at H
      have O := z1 J0
      clear J0
      (first | rw [O] | (simp only [i64_w, i32_w]; rw [O]) | skip)
      have H' := zK H
      clear H
      go_wp2
      repeat (go_quiet (fail); try go_wp2)
      go_meet
      case rel => exact ⟨_, (true), zR, H', ⟨by have := M0.out; have := X0.out; first | omega | exact Nat.le_refl _⟩, ⟨zM u⟩, ⟨zB⟩⟩
    rw [if_neg J0] at H
    have O := z2 J0
    clear J0
    (first | rw [O] | (simp only [i64_w, i32_w]; rw [O]) | skip)
    by_cases L0 : (rd q l) > 4096
    · rw [if_pos L0] at H
      have R1 := z1 L0
      clear L0
      have H' := zK H
      clear H
      go_wp2
      repeat (go_quiet (fail); try go_wp2)
      go_meet
      case rel => exact ⟨_, (true), zR, H', ⟨by have := M0.out; have := X0.out; first | omega | exact Nat.le_refl _⟩, ⟨zM u⟩, ⟨zB⟩⟩
    rw [if_neg L0] at H
    have R1 := z2 L0
    clear L0
    by_cases x1 : l < (z.length : Int)
    rotate_left
    · rw [if_neg x1] at H
      exact absurd H (by simp)
    rw [if_pos x1] at H
    have o2 := z1 x1
    clear x1
    by_cases n0 : (rd z l) = 1
    rotate_left
    · rw [if_neg n0] at H
      have S1 := beq_eq_false_iff_ne.mpr n0
      have T1 := bne_iff_ne.mpr n0
      have H' := zK H
      clear H
      have L : 0 ≤ (l : Int) := z3
      have M : l < (z.length : Int) := z3
      obtain ⟨q2, B1, B⟩ := Kd.at_int L1.out l L M
      cases B1
      (try replace B := zX HB B)
      replace L := eq_true L
      replace M := eq_true M
      go_wp2
      repeat (go_quiet (fail); try go_wp2)
      go_meet
      case rel => exact ⟨_, (false), zR, H', ⟨by have := M0.out; have := X0.out; first | omega | exact Nat.le_refl _⟩, ⟨zM u⟩, ⟨zB⟩⟩
    rw [if_pos n0] at H
    have S1 := beq_iff_eq.mpr n0
    have T1 := bne_eq_false_iff_eq.mpr n0
    clear n0
    have H' := zK H
    clear H
    have L : 0 ≤ (l : Int) := z3
    have M : l < (z.length : Int) := z3
    obtain ⟨q2, B1, B⟩ := Kd.at_int L1.out l L M
    cases B1
    (try replace B := zX HB B)
    replace L := eq_true L
    replace M := eq_true M
    go_wp2
    repeat (go_quiet (fail); try go_wp2)
    go_meet
    case rel => exact ⟨_, (((rd q l) != 0)), zR, H', ⟨by have := M0.out; have := X0.out; first | omega | exact Nat.le_refl _⟩, ⟨zM u⟩, ⟨zB⟩⟩
   case rest =>
    clear y1
    try clear c1
    try clear c2
    try clear p2
    try clear p3
    try clear q3
    try clear N2
    try clear c6
    try clear I
    try clear e1
    try clear f1
    try clear c7
    try clear i1
    try clear N0
    try clear I0
    try clear O1
    try clear s1
    try clear l2
    try clear t1
    try clear m2
    try clear J0
    try clear O
    try clear L0
    try clear R1
    try clear x1
    try clear o2
    try clear n0
    try clear S1
    try clear T1
    try clear c0 d0 e0 f0 g0 i0
    try clear O0 R0 S0 T0 U0 V0
    try clear q0 s0 t0 x0 y0 A0
    try clear B0 C0 D0 E0 F0 G0
    try clear m0
    try clear B
    try clear p2
    try clear j1
    try clear L
    try clear m1
    try clear M
    obtain ⟨kq, b0, rfl, HA, e2, u, HB⟩ := hcut
    cases kq with
    | zero => exact absurd HA.out (by simp [impl_Access_fitsIn.j2])
    | succ C1 =>
     have H := HA.out
     clear HA
     simp only [impl_Access_fitsIn.j2] at H
     by_cases U1 : b0 = true
     · subst U1
       rw [if_pos rfl] at H
       obtain rfl := z5 H
       go_wp2
       repeat (go_quiet (fail); try go_wp2)
       go_ret
       exact ⟨zE, zB⟩
     replace U1 := Bool.eq_false_iff.mpr U1
     subst U1
     rw [if_neg (show ¬ (false = true) by decide)] at H
     by_cases V1 : 0 ≤ l
     rotate_left
     · rw [if_neg V1] at H
       exact absurd H (by simp)
     rw [if_pos V1] at H
     have I2 := z1 V1
     clear V1
     by_cases X1 : l < (z.length : Int)
     rotate_left
     · rw [if_neg X1] at H
       exact absurd H (by simp)
     rw [if_pos X1] at H
     have J2 := z1 X1
     clear X1
     obtain ⟨ji24, hji24⟩ : ∃ j_ : Int, (mn 0 (wrap64 ((rd q l) * (wrap64 ((rd z l) - 1))))) = j_ := ⟨_, rfl⟩
     replace H : (impl_Access_fitsIn.l0 C1 z a2 (wrap64 (J + (ji24))) (wrap64 (U + (mx 0 (wrap64 ((rd q l) * (wrap64 ((rd z l) - 1))))))) q (q.length : Int) (wrap64 (l + 1))) = some r := by first | (rw [hji24] at H; exact H) | (simp only [hji24] at H ⊢; exact H)
     have hji24_ : (if (wrap64 ((rd q l) * (wrap64 ((rd z l) - 1)))) < 0 then (wrap64 ((rd q l) * (wrap64 ((rd z l) - 1)))) else 0) = ji24 := hji24
     obtain ⟨ji25, hji25⟩ : ∃ j_ : Int, (mx 0 (wrap64 ((rd q l) * (wrap64 ((rd z l) - 1))))) = j_ := ⟨_, rfl⟩
     replace H : (impl_Access_fitsIn.l0 C1 z a2 (wrap64 (J + (ji24))) (wrap64 (U + (ji25))) q (q.length : Int) (wrap64 (l + 1))) = some r := by first | (rw [hji25] at H; exact H) | (simp only [hji25] at H ⊢; exact H)
     have hji25_ : (if 0 < (wrap64 ((rd q l) * (wrap64 ((rd z l) - 1)))) then (wrap64 ((rd q l) * (wrap64 ((rd z l) - 1)))) else 0) = ji25 := hji25
     have H' := zK H
     clear H
     have D1 : 0 ≤ (l : Int) := z3
     have E1 : l < (z.length : Int) := z3
     obtain ⟨s2, C2, b1⟩ := Kd.at_int L1.out l D1 E1
     cases C2
     (try replace b1 := zX HB b1)
     replace D1 := eq_true D1
     replace E1 := eq_true E1
     have F1 : 0 ≤ (l : Int) := z3
     have G1 : l < (z.length : Int) := z3
     obtain ⟨t2, D2, d1⟩ := Kd.at_int L1.out l F1 G1
     obtain rfl : s2 = t2 := (by injection D2)
     (try replace d1 := zX HB d1)
     replace F1 := eq_true F1
     replace G1 := eq_true G1
     go_wp2
     repeat (go_quiet (fail); try go_wp2)
     go_roundg C1
     case measure => have := M0.out; have := X0.out; have := e2.out; omega
     case rel => exact ⟨(wrap64 (J + (ji24))), (wrap64 (U + (ji25))), (wrap64 (l + 1)), (by first | rfl | (simp; done) | (simp only [← hji24] <;> (first | rfl | simp)) | (simp [*]; done)), (by first | rfl | (simp; done) | (simp only [← hji25] <;> (first | rfl | simp)) | (simp [*]; done)), zR, H', ⟨by have := M0.out; have := X0.out; have := e2.out; omega⟩, ⟨zM u⟩, ⟨zB⟩⟩
end Go.Proofs.Ytmcboiffbcnalaa.PFnExactLives
