-- Printed out of the translation by this session's own turned copy of a printer; Lean checks it.
import Derived.Test.YtmcboiffbcnalaaPFnExactPlanOkx0
namespace Go.Proofs.Ytmcboiffbcnalaa.PFnExactPlanOk
open Go.RowKit Go.Proofs.YtmcboiffbcnalaaW.PrintWords Go.Proofs.YtmcboiffbcnalaaW.PrintLast Go.Proofs.YtmcboiffbcnalaaW.PrintMore
attribute [local go_sem] max2_int min2_int max_two min_two max_three min_three max_four min_four
set_option linter.unusedVariables false
set_option linter.unusedSimpArgs false
set_option maxHeartbeats 8000000
set_option maxRecDepth 100000
def impl_Access.f (l : List (S76)) : Option ((List (S76))) := (some (([] : List (S76)) : List (S76))).bind fun a => (if a.length + l.length < 3518437208883 then (some (a ++ l)) else (none))
theorem impl_Access.calls_some (q : Nat → Prop) (O) (T) (y : List (S76)) (r : List (S76)) (w) (X : Kd.V k76 76 w w.heap.size (fun k_ => q k_) (.slice O y.length T) y) (h : impl_Access.f y = some r) (hA0 : O ≠ none) :
 Calls Try.prog 69 #[.slice O y.length T] w fun e w' => ∃ v0_ : Value, e = .returned (v0_) ∧ Kd.N k76 76 w' w.heap.size (fun k_ => (q k_ ∨ w.heap.size ≤ k_)) v0_ r ∧ Below w.heap.size w w' := by
 obtain ⟨a0, rfl⟩ := Option.ne_none_iff_exists'.1 hA0
 clear hA0
 have hq := fun (w : World) (a : Option Addr) (n c n' c' : Nat) => Lib.run_eql_slice_nil w 74 76 a n c n' c' Try.underlying74
 have z := zK (show Kd.V k76 76 w w.heap.size (fun k_ => (q k_ ∨ w.heap.size ≤ k_)) (.slice (some a0) y.length T) y from Kd.V_mono X (fun k_ hk => .inl hk))
 have HB := zK (Below.refl w.heap.size w)
 have H : ((some (([] : List (S76)) : List (S76))).bind fun l => (if l.length + y.length < 3518437208883 then (some (l ++ y)) else (none))) = some r := h
 clear h
 obtain ⟨l, u⟩ : ∃ y_ : List (S76), y_ = (([] : List (S76))) := ⟨_, rfl⟩
 replace H : (if l.length + y.length < 3518437208883 then (some (l ++ y)) else (none)) = some r := by first | (rw [u]; with_reducible exact H) | (have A := (Option.bind_some _ _).symm.trans H; rw [u]; with_reducible exact A) | (have A := (Option.bind_some _ _).symm.trans H; with_reducible exact A) | with_reducible exact H | (rw [u]; exact H) | exact H
 have Ny386 := zK u
 clear u
 by_cases L : l.length + y.length < 3518437208883
 rotate_left
 · rw [if_neg L] at H
   exact absurd H (by simp)
 rw [if_pos L] at H
 have LMc2 := zK L
 clear L
 obtain ⟨U, x⟩ : ∃ y_ : List (S76), y_ = (l ++ y) := ⟨_, rfl⟩
 replace H : (some U) = some r := by first | (rw [x]; with_reducible exact H) | (have A := (Option.bind_some _ _).symm.trans H; rw [x]; with_reducible exact A) | (have A := (Option.bind_some _ _).symm.trans H; with_reducible exact A) | with_reducible exact H | (rw [x]; exact H) | exact H
 have Ny389 := zK x
 clear x
 obtain rfl := z5 H
 go_enter Try.func69, Try.ntmps69
 go_wp2_with (first | ((with_reducible refine gd 5 rfl ?_); refine Kd.N_lit k76 _ 76 ?hg (N' := 5) ?hd (xs := ([] : List (S76))) (inner := []) (ok := (fun k_ => (q k_ ∨ w.heap.size ≤ k_))) (okp := (fun k_ => (q k_ ∨ w.heap.size ≤ k_))) ?hr ?hp (fun _ hk => hk) ((show ∀ k_, w.heap.size ≤ k_ → (fun k_ => (q k_ ∨ w.heap.size ≤ k_)) k_ from fun k_ hk => (.inr (Nat.le_trans (zz zB) hk))) _ (Nat.le_refl _)) (Below.refl _ _) (Nat.le_refl _) (by simp) ?_; (case hd => rfl); (case hg => rfl); (case hr => first | (go_simp; done) | (go_simp; rfl)); (case hp => exact (Reps.none _ _)); intro v387 w3 B hb hg_ hnew_; clear hg_ hnew_; (first | rw [← Ny386.out] at B | (simp only [Int.reduceToNat] at B; rw [← Ny386.out] at B)); have E := zK (Kd.V_elder' (zkV z) (Kd.N_base B) hb); have I := zK (Kd.N_lower B (zz zB)); have J := z8 hb; revert E I J; clear z HB; intro z D HB; clear hb B) | ((with_reducible refine gate_builtin (b := .append) (xs := #[.tmp 5, .tmp 6]) rfl ?_); at_builtin; refine Kd.N_append_rows k76 (w0 := w) w.heap.size rfl (.tmp 5) (.tmp 6) 74 76 (.agg #[(.int .i64 0), (.int .i64 0), (.slice none 0 0)]) 40 rfl Try.underlying74 info76 rfl (by decide) (by omega) v387 l y _ _ _ (fun k_ => (q k_ ∨ w.heap.size ≤ k_)) (fun k_ => ((fun k_ => (q k_ ∨ w.heap.size ≤ k_))) k_ ∧ some k_ ≠ (v387 : Value).ownBlock) rfl rfl ?aO ?aR (fun _ hk => hk) ?aF ?aB ?aS ?aL ?_; (case aR => exact (by skip; exact Kd.V_F (Kd.V_mono (ok' := (fun k_ => ((fun k_ => (q k_ ∨ w.heap.size ≤ k_))) k_ ∧ some k_ ≠ (v387 : Value).ownBlock)) (z.out) (fun k_ hk => ⟨hk.1, hk.2⟩)))); (case aB => exact zB); (case aF => exact (fun k_ hk => (.inr (Nat.le_trans (zz zB) hk)))); (case aO => exact (zkN D)); (case aS => exact (zz zB)); (case aL => have := LMc2.out; omega); intro v390 w5 ho hb hg hat; rw [← Ny389.out] at ho; have E := zK (Kd.V_afterv (ok := (fun k_ => (q k_ ∨ w.heap.size ≤ k_))) (zkV z) hg hat); have I := zK (hb); have J := zK (ho); revert E I J; clear z HB D; intro z HB M; clear ho hb hg hat))
 go_ret
 exact ⟨_, zE, zkN M, zB⟩
theorem impl_Access.calls (q : Nat → Prop) (x) (y) (l : List (S76)) (r : List (S76)) (w) (u : Kd.V k76 76 w w.heap.size (fun k_ => q k_) (.slice x l.length y) l) (h : impl_Access.f l = some r) :
 Calls Try.prog 69 #[.slice x l.length y] w fun e w' => ∃ v0_ : Value, e = .returned (v0_) ∧ Kd.N k76 76 w' w.heap.size (fun k_ => (q k_ ∨ w.heap.size ≤ k_)) v0_ r ∧ Below w.heap.size w w' := by
 rcases x with _ | A
 · obtain rfl : l = [] := by
    rcases Nat.eq_zero_or_pos l.length with z | z
    · exact List.eq_nil_of_length_eq_zero z
    · obtain ⟨_, h1, _⟩ := (by first | exact B | exact (Kd.V_reads' u).2.2 : Kd.C k76 w none l.length l).2.2 z
      cases h1
   obtain rfl : r = [] := by simp [impl_Access.f] at h; first | exact h.symm | exact h
   have hq := fun (w : World) (a : Option Addr) (n c n' c' : Nat) => Lib.run_eql_slice_nil w 74 76 a n c n' c' Try.underlying74
   go_enter Try.func69, Try.ntmps69
   go_wp2
   go_ret
   exact ⟨_, rfl, (by first | exact Kd.R_nil _ _ _ _ _ | exact Kd.N_nil _ _ _ _ _ | exact Kd.V_nil _ _ _ _ _ | exact Kd.Q_nil _ _ _ _ _ | exact Kd.S_nil _ _ _ _ _), Below.refl _ _⟩
 · exact impl_Access.calls_some q (some A) y l r w u h (by simp)
mutual
def impl_Access_fitsIn.j0 : Nat → List Int → Int → Bool → Int → Int → List Int → Option (Bool)
 | 0, _, _, _, _, _, _ => none
 | k + 1, x, y, u, q, a, l => if u = true then (some false) else (impl_Access_fitsIn.l0 k x y a a l (l.length : Int) 0)
def impl_Access_fitsIn.l0 : Nat → List Int → Int → Int → Int → List Int → Int → Int → Option (Bool)
 | 0, _, _, _, _, _, _, _ => none
 | k + 1, u, x, y, z, l, q, a => if a < q then (if 0 ≤ a then (if a < (l.length : Int) then (if (rd l a) < (-4096) then (impl_Access_fitsIn.j2 k u x y z a (rd l a) l q a true) else (if (rd l a) > 4096 then (impl_Access_fitsIn.j2 k u x y z a (rd l a) l q a true) else (if a < (u.length : Int) then (if (rd u a) = 1 then (impl_Access_fitsIn.j2 k u x y z a (rd l a) l q a ((rd l a) != 0)) else (impl_Access_fitsIn.j2 k u x y z a (rd l a) l q a false)) else (none)))) else (none)) else (none)) else (if y ≥ 0 then (some (decide (z < x))) else (some false))
def impl_Access_fitsIn.j2 : Nat → List Int → Int → Int → Int → Int → Int → List Int → Int → Int → Bool → Option (Bool)
 | 0, _, _, _, _, _, _, _, _, _, _ => none
 | k + 1, a, A, B, D, l, q, u, x, y, z => if z = true then (some false) else (if 0 ≤ l then (if l < (a.length : Int) then (impl_Access_fitsIn.l0 k a A (wrap64 (B + (mn 0 (wrap64 (q * (wrap64 ((rd a l) - 1))))))) (wrap64 (D + (mx 0 (wrap64 (q * (wrap64 ((rd a l) - 1))))))) u x (wrap64 (y + 1))) else (none)) else (none))
end
def impl_Access_fitsIn.f (k : Nat) (q : Int) (a : Int) (l : List Int) (u : List Int) (x : Int) : Option (Bool) := if (l.length : Int) = (u.length : Int) then (if a < 0 then (impl_Access_fitsIn.j0 k u x true q a l) else (impl_Access_fitsIn.j0 k u x (decide (a ≥ x)) q a l)) else (impl_Access_fitsIn.j0 k u x true q a l)
theorem impl_Access_fitsIn.calls (k) (y) (u) (L) (A) (l : List Int) (A1) (c1) (x : List Int) (a2) (r : Bool) (w) (E1 : Kd.C (Kd.int .i64) w L l.length l) (F1 : l.length ≤ A) (q2 : Kd.C (Kd.int .i64) w A1 x.length x) (s2 : x.length ≤ c1) (h : impl_Access_fitsIn.f k y u l x a2 = some r) :
 Calls Try.prog 70 #[.agg #[.int .i64 y, .int .i64 u, .slice L l.length A], .slice A1 x.length c1, .int .i64 a2] w fun e w' => e = .returned (.bool r) ∧ Below w.heap.size w w' := by
 have G2 := Try.underlying76
 have b2 := zK E1
 have D2 := zK F1
 clear E1 F1
 have G1 := zK q2
 have I2 := zK s2
 clear q2 s2
 have HB := zK (Below.refl w.heap.size w)
 have H : (if (l.length : Int) = (x.length : Int) then (if u < 0 then (impl_Access_fitsIn.j0 k x a2 true y u l) else (impl_Access_fitsIn.j0 k x a2 (decide (u ≥ a2)) y u l)) else (impl_Access_fitsIn.j0 k x a2 true y u l)) = some r := h
 clear h
 have V1 := zK H
 clear H
 go_enter Try.func70, Try.ntmps70
 go_upto_region 1 with (first | ((with_reducible refine gd 3 rfl ?_); refine zJ 3 #[.int .i64 y, .int .i64 u, .slice L l.length A] 76 ?_; intro O hg w5 hbox hb; have i1 := z8 hb; have j1 := zK (hbox); have m1 := z9 hg; have n1 := z9 hg; revert i1 j1 m1 n1; clear HB; intro HB q I1 J1; clear hb hbox hg))
 repeat (go_quiet (first | ((with_reducible refine gd 3 rfl ?_); refine zJ 3 #[.int .i64 y, .int .i64 u, .slice L l.length A] 76 ?_; intro O hg w5 hbox hb; have i1 := z8 hb; have j1 := zK (hbox); have m1 := z9 hg; have n1 := z9 hg; revert i1 j1 m1 n1; clear HB; intro HB q I1 J1; clear hb hbox hg)); go_upto_region 1 with (first | ((with_reducible refine gd 3 rfl ?_); refine zJ 3 #[.int .i64 y, .int .i64 u, .slice L l.length A] 76 ?_; intro O hg w5 hbox hb; have i1 := z8 hb; have j1 := zK (hbox); have m1 := z9 hg; have n1 := z9 hg; revert i1 j1 m1 n1; clear HB; intro HB q I1 J1; clear hb hbox hg)))
 (try simp only [Act.put, zq1, zq2, zq3])
 go_cut [27] (fun v27 wc => ∃ (kq : Nat) (m0 : Bool), v27 = .bool m0 ∧ Aside0 (impl_Access_fitsIn.j0 kq x a2 m0 y u l = some r) ∧ Aside0 (kq ≤ k) ∧ Aside0 (wc.heap[O]? = some (.cells #[.int .i64 y, .int .i64 u, (.slice L l.length A)] 76 (0, 0))) ∧ Aside0 (Below w.heap.size w wc))
 case first =>
  have H := V1.out
  clear V1
  by_cases T : (l.length : Int) = (x.length : Int)
  rotate_left
  · rw [if_neg T] at H
    have B := beq_eq_false_iff_ne.mpr T
    have a1 := bne_iff_ne.mpr T
    have b1 : (l.length == x.length) = false := by first | simpa using T | (simp at T ⊢; omega)
    (first | rw [B] | (simp only [i64_w, i32_w]; rw [B]) | skip)
    have H' := zK H
    clear H
    obtain ⟨X, a0, b0, c0, d0, e0⟩ := zc3 q
    go_wp2
    repeat (go_quiet (fail); try go_wp2)
    go_meet
    case rel => exact ⟨_, (true), zR, H', ⟨by first | omega | exact Nat.le_refl _⟩, ⟨zM q⟩, ⟨zB⟩⟩
  rw [if_pos T] at H
  have B := beq_iff_eq.mpr T
  have a1 := bne_eq_false_iff_eq.mpr T
  have b1 : (l.length == x.length) = true := by first | simpa using T | (simp at T ⊢; omega)
  clear T
  (first | rw [B] | (simp only [i64_w, i32_w]; rw [B]) | skip)
  by_cases c7 : u < 0
  · rw [if_pos c7] at H
    have e1 := z1 c7
    clear c7
    have H' := zK H
    clear H
    obtain ⟨n0, o0, p0, q0, s0, t0⟩ := zc3 q
    go_wp2
    repeat (go_quiet (fail); try go_wp2)
    go_meet
    case rel => exact ⟨_, (true), zR, H', ⟨by first | omega | exact Nat.le_refl _⟩, ⟨zM q⟩, ⟨zB⟩⟩
  rw [if_neg c7] at H
  have e1 := z2 c7
  clear c7
  have H' := zK H
  clear H
  obtain ⟨x0, y0, A0, B0, C0, D0⟩ := zc3 q
  go_wp2
  repeat (go_quiet (fail); try go_wp2)
  go_meet
  case rel => exact ⟨_, (decide (u ≥ a2)), zR, H', ⟨by first | omega | exact Nat.le_refl _⟩, ⟨zM q⟩, ⟨zB⟩⟩
 case rest =>
  clear V1
  try clear c1
  try clear p2
  try clear T
  try clear B
  try clear a1
  try clear b1
  try clear c7
  try clear e1
  try clear X a0 b0 c0 d0 e0
  try clear n0 o0 p0 q0 s0 t0
  try clear x0 y0 A0 B0 C0 D0
  obtain ⟨kq, m0, rfl, HA, I0, q, HB⟩ := hcut
  cases kq with
  | zero => exact absurd HA.out (by simp [impl_Access_fitsIn.j0])
  | succ t2 =>
   have H := HA.out
   clear HA
   simp only [impl_Access_fitsIn.j0] at H
   by_cases J0 : m0 = true
   · subst J0
     rw [if_pos rfl] at H
     obtain rfl := z5 H
     go_wp2
     repeat (go_quiet (fail); try go_wp2)
     go_ret
     exact ⟨zE, zB⟩
   replace J0 := Bool.eq_false_iff.mpr J0
   subst J0
   rw [if_neg (show ¬ (false = true) by decide)] at H
   have H' := zK H
   clear H
   obtain ⟨L0, M0, N0, O0, R0, S0⟩ := zc3 q
   go_wp2
   repeat (go_quiet (fail); try go_wp2)
   go_loopg [7, 8, 35] t2 (fun kq v7 v8 v35 w' => ∃ (D : Int) (M : Int) (a : Int), v7 = .int .i64 D ∧ v8 = .int .i64 M ∧ v35 = .int .i64 a ∧ Aside0 (impl_Access_fitsIn.l0 kq x a2 D M l (l.length : Int) a = some r) ∧ Aside0 (kq ≤ t2) ∧ Aside0 (w'.heap[O]? = some (.cells #[.int .i64 y, .int .i64 u, (.slice L l.length A)] 76 (0, 0))) ∧ Aside0 (Below w.heap.size w w'))
   case atStart => exact ⟨(u), (u), (0), zR, zR, zR, H', ⟨Nat.le_refl _⟩, ⟨zM q⟩, ⟨zB⟩⟩
   clear H'
   try clear c1
   try clear p2
   try clear T
   try clear B
   try clear a1
   try clear b1
   try clear c7
   try clear e1
   try clear J0
   try clear X a0 b0 c0 d0 e0
   try clear L0 M0 N0 O0 R0 S0
   try clear n0 o0 p0 q0 s0 t0
   try clear x0 y0 A0 B0 C0 D0
   try clear p2
   obtain ⟨D, M, a, rfl, rfl, rfl, HA, T0, q, HB⟩ := hrel
   rcases gk with _ | k2
   · exact absurd HA.out (by simp [impl_Access_fitsIn.l0])
   have H := HA.out
   clear HA
   simp only [impl_Access_fitsIn.l0] at H
   by_cases E0 : a < (l.length : Int)
   rotate_left
   · rw [if_neg E0] at H
     have L1 := z2 E0
     clear E0
     by_cases U0 : D ≥ 0
     · rw [if_pos U0] at H
       have e2 := z1 U0
       clear U0
       obtain rfl := z5 H
       go_wp2
       repeat (go_quiet (fail); try go_wp2)
       go_ret
       exact ⟨zE, zB⟩
     rw [if_neg U0] at H
     have e2 := z2 U0
     clear U0
     obtain rfl := z5 H
     go_wp2
     repeat (go_quiet (fail); try go_wp2)
     go_ret
     exact ⟨zE, zB⟩
   rw [if_pos E0] at H
   have L1 := z1 E0
   clear E0
   by_cases o1 : 0 ≤ a
   rotate_left
   · rw [if_neg o1] at H
     exact absurd H (by simp)
   rw [if_pos o1] at H
   have f2 := z1 o1
   clear o1
   by_cases p1 : a < (l.length : Int)
   rotate_left
   · rw [if_neg p1] at H
     exact absurd H (by simp)
   rw [if_pos p1] at H
   have g2 := z1 p1
   clear p1
   have s1 := zK H
   clear H
   have f1 : 0 ≤ (a : Int) := z3
   have g1 : a < (l.length : Int) := z3
   obtain ⟨i2, x2, f0⟩ := Kd.at_int b2.out a f1 g1
   cases x2
   (try replace f0 := zX HB f0)
   replace f1 := eq_true f1
   replace g1 := eq_true g1
   go_upto_region 7 with (fail)
   repeat (go_quiet (fail); go_upto_region 7 with (fail))
   go_cut [56] (fun v56 wc => ∃ (kq : Nat) (U : Bool), v56 = .bool U ∧ Aside0 (impl_Access_fitsIn.j2 kq x a2 D M a (rd l a) l (l.length : Int) a U = some r) ∧ Aside0 (kq ≤ k2) ∧ Aside0 (wc.heap[O]? = some (.cells #[.int .i64 y, .int .i64 u, (.slice (some i2) l.length A)] 76 (0, 0))) ∧ Aside0 (Below w.heap.size w wc))
   case first =>
    have H := s1.out
    clear s1
    by_cases F0 : (rd l a) < (-4096)
    · rw [if_pos F0] at H
      have J := z1 F0
      clear F0
      (first | rw [J] | (simp only [i64_w, i32_w]; rw [J]) | skip)
      have H' := zK H
      clear H
      go_wp2
      repeat (go_quiet (fail); try go_wp2)
      go_meet
      case rel => exact ⟨_, (true), zR, H', ⟨by have := I0.out; have := T0.out; first | omega | exact Nat.le_refl _⟩, ⟨zM q⟩, ⟨zB⟩⟩
    rw [if_neg F0] at H
    have J := z2 F0
    clear F0
    (first | rw [J] | (simp only [i64_w, i32_w]; rw [J]) | skip)
    by_cases G0 : (rd l a) > 4096
    · rw [if_pos G0] at H
      have M1 := z1 G0
      clear G0
      have H' := zK H
      clear H
      go_wp2
      repeat (go_quiet (fail); try go_wp2)
      go_meet
      case rel => exact ⟨_, (true), zR, H', ⟨by have := I0.out; have := T0.out; first | omega | exact Nat.le_refl _⟩, ⟨zM q⟩, ⟨zB⟩⟩
    rw [if_neg G0] at H
    have M1 := z2 G0
    clear G0
    by_cases q1 : a < (x.length : Int)
    rotate_left
    · rw [if_neg q1] at H
      exact absurd H (by simp)
    rw [if_pos q1] at H
    have l2 := z1 q1
    clear q1
    by_cases g0 : (rd x a) = 1
    rotate_left
    · rw [if_neg g0] at H
      have N1 := beq_eq_false_iff_ne.mpr g0
      have O1 := bne_iff_ne.mpr g0
      have H' := zK H
      clear H
      have E : 0 ≤ (a : Int) := z3
      have I : a < (x.length : Int) := z3
      obtain ⟨m2, t1, z⟩ := Kd.at_int G1.out a E I
      cases t1
      (try replace z := zX HB z)
      replace E := eq_true E
      replace I := eq_true I
      go_wp2
      repeat (go_quiet (fail); try go_wp2)
      go_meet
      case rel => exact ⟨_, (false), zR, H', ⟨by have := I0.out; have := T0.out; first | omega | exact Nat.le_refl _⟩, ⟨zM q⟩, ⟨zB⟩⟩
    rw [if_pos g0] at H
    have N1 := beq_iff_eq.mpr g0
    have O1 := bne_eq_false_iff_eq.mpr g0
    clear g0
    have H' := zK H
    clear H
    have E : 0 ≤ (a : Int) := z3
    have I : a < (x.length : Int) := z3
    obtain ⟨m2, t1, z⟩ := Kd.at_int G1.out a E I
    cases t1
    (try replace z := zX HB z)
    replace E := eq_true E
    replace I := eq_true I
    go_wp2
    repeat (go_quiet (fail); try go_wp2)
    go_meet
    case rel => exact ⟨_, (((rd l a) != 0)), zR, H', ⟨by have := I0.out; have := T0.out; first | omega | exact Nat.le_refl _⟩, ⟨zM q⟩, ⟨zB⟩⟩
   case rest =>
    clear s1
    try clear c1
    try clear c2
    try clear p2
    try clear p3
    try clear q3
    try clear J2
    try clear T
    try clear B
    try clear a1
    try clear b1
    try clear c7
    try clear e1
    try clear J0
    try clear E0
    try clear L1
    try clear o1
    try clear f2
    try clear p1
    try clear g2
    try clear F0
    try clear J
    try clear G0
    try clear M1
    try clear q1
    try clear l2
    try clear g0
    try clear N1
    try clear O1
    try clear X a0 b0 c0 d0 e0
    try clear L0 M0 N0 O0 R0 S0
    try clear n0 o0 p0 q0 s0 t0
    try clear x0 y0 A0 B0 C0 D0
    try clear f0
    try clear z
    try clear p2
    try clear f1
    try clear E
    try clear g1
    try clear I
    obtain ⟨kq, U, rfl, HA, X1, q, HB⟩ := hcut
    cases kq with
    | zero => exact absurd HA.out (by simp [impl_Access_fitsIn.j2])
    | succ x1 =>
     have H := HA.out
     clear HA
     simp only [impl_Access_fitsIn.j2] at H
     by_cases R1 : U = true
     · subst R1
       rw [if_pos rfl] at H
       obtain rfl := z5 H
       go_wp2
       repeat (go_quiet (fail); try go_wp2)
       go_ret
       exact ⟨zE, zB⟩
     replace R1 := Bool.eq_false_iff.mpr R1
     subst R1
     rw [if_neg (show ¬ (false = true) by decide)] at H
     by_cases S1 : 0 ≤ a
     rotate_left
     · rw [if_neg S1] at H
       exact absurd H (by simp)
     rw [if_pos S1] at H
     have E2 := z1 S1
     clear S1
     by_cases T1 : a < (x.length : Int)
     rotate_left
     · rw [if_neg T1] at H
       exact absurd H (by simp)
     rw [if_pos T1] at H
     have F2 := z1 T1
     clear T1
     obtain ⟨ji24, hji24⟩ : ∃ j_ : Int, (mn 0 (wrap64 ((rd l a) * (wrap64 ((rd x a) - 1))))) = j_ := ⟨_, rfl⟩
     replace H : (impl_Access_fitsIn.l0 x1 x a2 (wrap64 (D + (ji24))) (wrap64 (M + (mx 0 (wrap64 ((rd l a) * (wrap64 ((rd x a) - 1))))))) l (l.length : Int) (wrap64 (a + 1))) = some r := by first | (rw [hji24] at H; exact H) | (simp only [hji24] at H ⊢; exact H)
     have hji24_ : (if (wrap64 ((rd l a) * (wrap64 ((rd x a) - 1)))) < 0 then (wrap64 ((rd l a) * (wrap64 ((rd x a) - 1)))) else 0) = ji24 := hji24
     obtain ⟨ji25, hji25⟩ : ∃ j_ : Int, (mx 0 (wrap64 ((rd l a) * (wrap64 ((rd x a) - 1))))) = j_ := ⟨_, rfl⟩
     replace H : (impl_Access_fitsIn.l0 x1 x a2 (wrap64 (D + (ji24))) (wrap64 (M + (ji25))) l (l.length : Int) (wrap64 (a + 1))) = some r := by first | (rw [hji25] at H; exact H) | (simp only [hji25] at H ⊢; exact H)
     have hji25_ : (if 0 < (wrap64 ((rd l a) * (wrap64 ((rd x a) - 1)))) then (wrap64 ((rd l a) * (wrap64 ((rd x a) - 1)))) else 0) = ji25 := hji25
     have H' := zK H
     clear H
     have y1 : 0 ≤ (a : Int) := z3
     have B1 : a < (x.length : Int) := z3
     obtain ⟨n2, y2, V0⟩ := Kd.at_int G1.out a y1 B1
     cases y2
     (try replace V0 := zX HB V0)
     replace y1 := eq_true y1
     replace B1 := eq_true B1
     have C1 : 0 ≤ (a : Int) := z3
     have D1 : a < (x.length : Int) := z3
     obtain ⟨o2, A2, X0⟩ := Kd.at_int G1.out a C1 D1
     obtain rfl : n2 = o2 := (by injection A2)
     (try replace X0 := zX HB X0)
     replace C1 := eq_true C1
     replace D1 := eq_true D1
     go_wp2
     repeat (go_quiet (fail); try go_wp2)
     go_roundg x1
     case measure => have := I0.out; have := T0.out; have := X1.out; omega
     case rel => exact ⟨(wrap64 (D + (ji24))), (wrap64 (M + (ji25))), (wrap64 (a + 1)), (by first | rfl | (simp; done) | (simp only [← hji24] <;> (first | rfl | simp)) | (simp [*]; done)), (by first | rfl | (simp; done) | (simp only [← hji25] <;> (first | rfl | simp)) | (simp [*]; done)), zR, H', ⟨by have := I0.out; have := T0.out; have := X1.out; omega⟩, ⟨zM q⟩, ⟨zB⟩⟩
end Go.Proofs.Ytmcboiffbcnalaa.PFnExactPlanOk
