-- Printed out of the translation by this session's own turned copy of a printer; Lean checks it.
import Derived.Test.YtmcboiffbcnalaaPFnExactPlanOkx0
import Derived.Test.YtmcboiffbcnalaaPFnExactPlanOkx23
namespace Go.Proofs.Ytmcboiffbcnalaa.PFnExactPlanOk
open Go.RowKit Go.Proofs.YtmcboiffbcnalaaW.PrintWords Go.Proofs.YtmcboiffbcnalaaW.PrintLast Go.Proofs.YtmcboiffbcnalaaW.PrintMore
attribute [local go_sem] max2_int min2_int max_two min_two max_three min_three max_four min_four
set_option linter.unusedVariables false
set_option linter.unusedSimpArgs false
set_option maxHeartbeats 8000000
set_option maxRecDepth 100000
mutual
def impl_PackOk.j0 : Nat → List (S52) → List Int → Bool → Option (Bool)
 | 0, _, _, _ => none
 | k + 1, a, q, l => if l = true then (some false) else (impl_PackOk.l0 k a q a (a.length : Int) 0)
def impl_PackOk.l0 : Nat → List (S52) → List Int → List (S52) → Int → Int → Option (Bool)
 | 0, _, _, _, _, _ => none
 | k + 1, x, q, l, u, a => if a < u then (if 0 ≤ a then (if a < (l.length : Int) then (if a < (q.length : Int) then (if (rd q a) < 0 then (impl_PackOk.j2 k x q a l u a true ((rd_T52 l a).f0) ((rd_T52 l a).f1) ((rd_T52 l a).f2) ((rd_T52 l a).f3)) else (impl_PackOk.j2 k x q a l u a (decide ((rd q a) > 1000000)) ((rd_T52 l a).f0) ((rd_T52 l a).f1) ((rd_T52 l a).f2) ((rd_T52 l a).f3))) else (none)) else (none)) else (none)) else (some true)
def impl_PackOk.j2 : Nat → List (S52) → List Int → Int → List (S52) → Int → Int → Bool → Int → Int → Int → Int → Option (Bool)
 | 0, _, _, _, _, _, _, _, _, _, _, _ => none
 | k + 1, z, I, y, A, B, D, E, a, l, q, u => if E = true then (some false) else (if 0 ≤ y then (if y ≤ (z.length : Int) then ((some (z.take (y : Int).toNat : List (S52))).bind fun x => (impl_PackOk.l1 k z I y A B D x (x.length : Int) 0 a l q u)) else (none)) else (none))
def impl_PackOk.l1 : Nat → List (S52) → List Int → Int → List (S52) → Int → Int → List (S52) → Int → Int → Int → Int → Int → Int → Option (Bool)
 | 0, _, _, _, _, _, _, _, _, _, _, _, _, _ => none
 | k + 1, J, z, A, B, D, E, y, I, a, q, l, u, x => if a < I then (if 0 ≤ a then (if a < (y.length : Int) then ((impl_Life_meets.f q l u x ((rd_T52 y a).f0) ((rd_T52 y a).f1) ((rd_T52 y a).f2) ((rd_T52 y a).f3)).bind fun L => (if L = true then (if 0 ≤ A then (if A < (z.length : Int) then (if a < (z.length : Int) then (if (rd z A) < (wrap64 ((rd z a) + ((rd_T52 y a).f1))) then (impl_PackOk.j4 k J z A B D E y I a (decide ((rd z a) < (wrap64 ((rd z A) + l)))) q l u x) else (impl_PackOk.j4 k J z A B D E y I a false q l u x)) else (none)) else (none)) else (none)) else (impl_PackOk.j4 k J z A B D E y I a false q l u x))) else (none)) else (none)) else (impl_PackOk.l0 k J z B D (wrap64 (E + 1)))
def impl_PackOk.j4 : Nat → List (S52) → List Int → Int → List (S52) → Int → Int → List (S52) → Int → Int → Bool → Int → Int → Int → Int → Option (Bool)
 | 0, _, _, _, _, _, _, _, _, _, _, _, _, _, _ => none
 | k + 1, I, J, L, x, y, z, A, B, D, E, a, l, q, u => if E = true then (some false) else (impl_PackOk.l1 k I J L x y z A B (wrap64 (D + 1)) a l q u)
end
def impl_PackOk.f (k : Nat) (a : List (S52)) (l : List Int) : Option (Bool) := (impl_livesOk.f k a).bind fun q => (if q = true then (impl_PackOk.j0 k a l ((l.length : Int) != (a.length : Int))) else (impl_PackOk.j0 k a l true))
def impl_PackOk.T11 : Bool × List (List Nat × List Nat) := (true, [([], []), ([], []), ([0, 1], [0, 1]), ([2, 2], [2]), ([3], [3]), ([3], [3]), ([4, 5, 3], [3, 4, 5]), ([6, 3], [3, 6]), ([3], [3]), ([3], [3]), ([8, 9, 3], [3, 8, 9]), ([10, 3], [3, 10]), ([3], [3]), ([12, 3], [3, 12]), ([11, 13, 3], [3, 11, 13]), ([7, 14, 3], [3, 7, 14]), ([3, 15], [3, 15]), ([16, 3], [16]), ([17], [17]), ([17], [17]), ([18, 19, 17], [17, 18, 19]), ([20, 17], [17, 20]), ([17], [17]), ([17], [17]), ([22, 23, 17], [17, 22, 23]), ([24, 17], [17, 24]), ([17], [17]), ([26, 17], [17, 26]), ([25, 27, 17], [17, 25, 27]), ([21, 28, 17], [17, 21, 28]), ([17, 29], [17, 29])])
def impl_PackOk.B11 : List Nat := [0, 0, 3, 7, 15, 15, 63, 127, 15, 15, 783, 1807, 15, 4111, 16143, 32767, 65535, 131071, 262143, 262143, 1048575, 2097151, 262143, 262143, 12845055, 29622271, 262143, 67371007, 264503295, 536870911, 1073741823]
theorem impl_PackOk.tab11 : rtab .any (opsOf Try.f26 11) = impl_PackOk.T11 := by kernel_rfl
theorem impl_PackOk.bits11 : waitsOk impl_PackOk.T11.2 impl_PackOk.B11 = true := by kernel_rfl
theorem impl_PackOk.calls (k) (A0) (c0) (z : List (S52)) (A1) (c1) (I : List Int) (r : Bool) (w) (b4 : Kd.C k52 w A0 z.length z) (c4 : z.length ≤ c0) (d4 : Kd.C (Kd.int .i64) w A1 I.length I) (e4 : I.length ≤ c1) (h : impl_PackOk.f k z I = some r) :
 Calls Try.prog 26 #[.slice A0 z.length c0, .slice A1 I.length c1] w fun e w' => e = .returned (.bool r) ∧ Below w.heap.size w w' := by
 have n5 := Try.underlying52
 have l3 := zK b4
 have B3 := zK c4
 clear b4 c4
 have N0 := zK d4
 have p5 := zK e4
 clear d4 e4
 have HB := zK (Below.refl w.heap.size w)
 have H : ((impl_livesOk.f k z).bind fun I2 => (if I2 = true then (impl_PackOk.j0 k z I ((I.length : Int) != (z.length : Int))) else (impl_PackOk.j0 k z I true))) = some r := h
 clear h
 have C3 := zK H
 clear H
 go_enter Try.func26, Try.ntmps26
 go_upto_region 1 with (fail)
 go_cut [18] (fun v18 wc => ∃ (kq : Nat) (o1 : Bool), v18 = .bool o1 ∧ Aside0 (impl_PackOk.j0 kq z I o1 = some r) ∧ Aside0 (kq ≤ k) ∧ Aside0 (Below w.heap.size w wc))
 case first =>
  have H := C3.out
  clear C3
  replace H := z6 H
  obtain ⟨I2, f4, H⟩ := H
  have A4 := zK f4
  clear f4
  by_cases c5 : I2 = true
  rotate_left
  · replace c5 := Bool.eq_false_iff.mpr c5
    subst c5
    rw [if_neg (show ¬ (false = true) by decide)] at H
    have H' := zK H
    clear H
    go_wp2_with (first | ((with_reducible refine gc 51 rfl ?_); refine zF 10 Try.func51 #[.slice A0 z.length c0] rfl zL ?_; refine (impl_livesOk.calls k _ _ z false _ (zS l3) B3.out A4.out).mono ?_; rintro e w7 ⟨rfl, hb⟩; refine ⟨_, rfl, ?_⟩; have E := z8 hb; revert E; clear HB; intro HB))
    go_meet
    case rel => exact ⟨_, (true), zR, H', ⟨by first | omega | exact Nat.le_refl _⟩, ⟨zB⟩⟩
  subst c5
  rw [if_pos rfl] at H
  have H' := zK H
  clear H
  go_wp2_with (first | ((with_reducible refine gc 51 rfl ?_); refine zF 10 Try.func51 #[.slice A0 z.length c0] rfl zL ?_; refine (impl_livesOk.calls k _ _ z true _ (zS l3) B3.out A4.out).mono ?_; rintro e w6 ⟨rfl, hb⟩; refine ⟨_, rfl, ?_⟩; have E := z8 hb; revert E; clear HB; intro HB))
  go_meet
  case rel => exact ⟨_, (((I.length : Int) != (z.length : Int))), zR, H', ⟨by first | omega | exact Nat.le_refl _⟩, ⟨zB⟩⟩
 case rest =>
  clear C3
  try clear c1
  try clear c2
  try clear p2
  try clear c5
  obtain ⟨kq, o1, rfl, HA, O0, HB⟩ := hcut
  cases kq with
  | zero => exact absurd HA.out (by simp [impl_PackOk.j0])
  | succ g4 =>
   have H := HA.out
   clear HA
   simp only [impl_PackOk.j0] at H
   by_cases c8 : o1 = true
   · subst c8
     rw [if_pos rfl] at H
     obtain rfl := z5 H
     go_wp2
     go_ret
     exact ⟨zE, zB⟩
   replace c8 := Bool.eq_false_iff.mpr c8
   subst c8
   rw [if_neg (show ¬ (false = true) by decide)] at H
   have H' := zK H
   clear H
   go_wp2
   go_loopg [21] g4 (fun kq v21 w' => ∃ (a : Int), v21 = .int .i64 a ∧ Aside0 (impl_PackOk.l0 kq z I z (z.length : Int) a = some r) ∧ Aside0 (kq ≤ g4) ∧ Aside0 (Below w.heap.size w w'))
   case atStart => exact ⟨(0), zR, H', ⟨Nat.le_refl _⟩, ⟨zB⟩⟩
   clear H'
   try clear c1
   try clear c2
   try clear p2
   try clear c5
   try clear c8
   try clear p2
   obtain ⟨a, rfl, HA, R0, HB⟩ := hrel
   rcases gk with _ | k2
   · exact absurd HA.out (by simp [impl_PackOk.l0])
   have H := HA.out
   clear HA
   simp only [impl_PackOk.l0] at H
   by_cases c9 : a < (z.length : Int)
   rotate_left
   · rw [if_neg c9] at H
     have M2 := z2 c9
     clear c9
     obtain rfl := z5 H
     go_wp2
     go_ret
     exact ⟨zE, zB⟩
   rw [if_pos c9] at H
   have M2 := z1 c9
   clear c9
   by_cases F1 : 0 ≤ a
   rotate_left
   · rw [if_neg F1] at H
     exact absurd H (by simp)
   rw [if_pos F1] at H
   have m3 := z1 F1
   clear F1
   by_cases G1 : a < (z.length : Int)
   rotate_left
   · rw [if_neg G1] at H
     exact absurd H (by simp)
   rw [if_pos G1] at H
   have n3 := z1 G1
   clear G1
   have N2 := zK H
   clear H
   have q1 : 0 ≤ (a : Int) := z3
   have t1 : a < (z.length : Int) := z3
   obtain ⟨m2, l4, y0, B0, C0, D0⟩ := at_T52 l3.out a q1 t1
   cases l4
   (try replace y0 := zX HB y0)
   (try replace B0 := zX HB B0)
   (try replace C0 := zX HB C0)
   (try replace D0 := zX HB D0)
   replace q1 := eq_true q1
   replace t1 := eq_true t1
   go_upto_region 6 with (first | ((with_reducible refine gd 6 rfl ?_); (try (refine gate_guard (by rfl) ?_; dsimp only)); refine zJ 6 #[.int .i64 0, .int .i64 0, .int .i64 0, .int .i64 0] 52 ?_; intro B hg q5 hbox hb; have E := z8 hb; have M := zK (hbox); have O := z9 hg; have D3 := z9 hg; revert E M O D3; clear HB; intro HB u d0 a5; clear hb hbox hg; obtain ⟨I1, J1, L1, M1, N1, O1, R1, S1⟩ := zc4 u))
   (try simp only [Act.put, zq1, zq2, zq3])
   go_cut [37] (fun v37 wc => ∃ (kq : Nat) (S0 : Bool), v37 = .bool S0 ∧ Aside0 (impl_PackOk.j2 kq z I a z (z.length : Int) a S0 ((rd_T52 z a).f0) ((rd_T52 z a).f1) ((rd_T52 z a).f2) ((rd_T52 z a).f3) = some r) ∧ Aside0 (kq ≤ k2) ∧ Aside0 (wc.heap[B]? = some (.cells #[.int .i64 ((rd_T52 z a).f0), .int .i64 ((rd_T52 z a).f1), .int .i64 ((rd_T52 z a).f2), .int .i64 ((rd_T52 z a).f3)] 52 (0, 0))) ∧ Aside0 (Below w.heap.size w wc))
   case first =>
    have H := N2.out
    clear N2
    by_cases T1 : a < (I.length : Int)
    rotate_left
    · rw [if_neg T1] at H
      exact absurd H (by simp)
    rw [if_pos T1] at H
    have p1 := z1 T1
    clear T1
    (first | rw [p1] | (simp only [i64_w, i32_w]; rw [p1]) | skip)
    by_cases j1 : (rd I a) < 0
    · rw [if_pos j1] at H
      have n2 := z1 j1
      clear j1
      have H' := zK H
      clear H
      have m0 : 0 ≤ (a : Int) := z3
      have n0 : a < (I.length : Int) := z3
      obtain ⟨T, O2, A⟩ := Kd.at_int N0.out a m0 n0
      cases O2
      have U : T.block ≠ B := Nat.ne_of_lt (Nat.lt_of_lt_of_le (by have := World.block_lt_of_cell? _ _ A; first | rwa [add_block] at this | exact this) d0.out)
      have X : T.block ≠ B := Nat.ne_of_lt (Nat.lt_of_lt_of_le (by have := World.block_lt_of_cell? _ _ A; first | rwa [add_block] at this | exact this) d0.out)
      have a0 : T.block ≠ B := Nat.ne_of_lt (Nat.lt_of_lt_of_le (by have := World.block_lt_of_cell? _ _ A; first | rwa [add_block] at this | exact this) d0.out)
      have b0 : T.block ≠ B := Nat.ne_of_lt (Nat.lt_of_lt_of_le (by have := World.block_lt_of_cell? _ _ A; first | rwa [add_block] at this | exact this) d0.out)
      (try replace A := zX HB A)
      replace A := (cell_far (p := ⟨B, 0, none⟩) (by first | (rw [add_block]; exact U) | (show (Addr.add _ _).block ≠ _; rw [add_block]; exact U) | exact U) (.int .i64 ((rd_T52 z a).f0))).trans A
      replace A := (cell_far (p := ⟨B, 1, none⟩) (by first | (rw [add_block]; exact X) | (show (Addr.add _ _).block ≠ _; rw [add_block]; exact X) | exact X) (.int .i64 ((rd_T52 z a).f1))).trans A
      replace A := (cell_far (p := ⟨B, 2, none⟩) (by first | (rw [add_block]; exact a0) | (show (Addr.add _ _).block ≠ _; rw [add_block]; exact a0) | exact a0) (.int .i64 ((rd_T52 z a).f2))).trans A
      replace A := (cell_far (p := ⟨B, 3, none⟩) (by first | (rw [add_block]; exact b0) | (show (Addr.add _ _).block ≠ _; rw [add_block]; exact b0) | exact b0) (.int .i64 ((rd_T52 z a).f3))).trans A
      clear U
      clear X
      clear a0
      clear b0
      replace m0 := eq_true m0
      replace n0 := eq_true n0
      go_wp2
      go_meet
      case rel => exact ⟨_, (true), zR, H', ⟨by have := O0.out; have := R0.out; first | omega | exact Nat.le_refl _⟩, ⟨zW u⟩, ⟨zB⟩⟩
    rw [if_neg j1] at H
    have n2 := z2 j1
    clear j1
    have H' := zK H
    clear H
    have m0 : 0 ≤ (a : Int) := z3
    have n0 : a < (I.length : Int) := z3
    obtain ⟨T, O2, A⟩ := Kd.at_int N0.out a m0 n0
    cases O2
    have U : T.block ≠ B := Nat.ne_of_lt (Nat.lt_of_lt_of_le (by have := World.block_lt_of_cell? _ _ A; first | rwa [add_block] at this | exact this) d0.out)
    have X : T.block ≠ B := Nat.ne_of_lt (Nat.lt_of_lt_of_le (by have := World.block_lt_of_cell? _ _ A; first | rwa [add_block] at this | exact this) d0.out)
    have a0 : T.block ≠ B := Nat.ne_of_lt (Nat.lt_of_lt_of_le (by have := World.block_lt_of_cell? _ _ A; first | rwa [add_block] at this | exact this) d0.out)
    have b0 : T.block ≠ B := Nat.ne_of_lt (Nat.lt_of_lt_of_le (by have := World.block_lt_of_cell? _ _ A; first | rwa [add_block] at this | exact this) d0.out)
    (try replace A := zX HB A)
    replace A := (cell_far (p := ⟨B, 0, none⟩) (by first | (rw [add_block]; exact U) | (show (Addr.add _ _).block ≠ _; rw [add_block]; exact U) | exact U) (.int .i64 ((rd_T52 z a).f0))).trans A
    replace A := (cell_far (p := ⟨B, 1, none⟩) (by first | (rw [add_block]; exact X) | (show (Addr.add _ _).block ≠ _; rw [add_block]; exact X) | exact X) (.int .i64 ((rd_T52 z a).f1))).trans A
    replace A := (cell_far (p := ⟨B, 2, none⟩) (by first | (rw [add_block]; exact a0) | (show (Addr.add _ _).block ≠ _; rw [add_block]; exact a0) | exact a0) (.int .i64 ((rd_T52 z a).f2))).trans A
    replace A := (cell_far (p := ⟨B, 3, none⟩) (by first | (rw [add_block]; exact b0) | (show (Addr.add _ _).block ≠ _; rw [add_block]; exact b0) | exact b0) (.int .i64 ((rd_T52 z a).f3))).trans A
    clear U
    clear X
    clear a0
    clear b0
    replace m0 := eq_true m0
    replace n0 := eq_true n0
    have x1 : 0 ≤ (a : Int) := z3
    have y1 : a < (I.length : Int) := z3
    obtain ⟨M3, m4, D⟩ := Kd.at_int N0.out a x1 y1
    obtain rfl : T = M3 := (by injection m4)
    have E0 : T.block ≠ B := Nat.ne_of_lt (Nat.lt_of_lt_of_le (by have := World.block_lt_of_cell? _ _ D; first | rwa [add_block] at this | exact this) d0.out)
    have F0 : T.block ≠ B := Nat.ne_of_lt (Nat.lt_of_lt_of_le (by have := World.block_lt_of_cell? _ _ D; first | rwa [add_block] at this | exact this) d0.out)
    have G0 : T.block ≠ B := Nat.ne_of_lt (Nat.lt_of_lt_of_le (by have := World.block_lt_of_cell? _ _ D; first | rwa [add_block] at this | exact this) d0.out)
    have I0 : T.block ≠ B := Nat.ne_of_lt (Nat.lt_of_lt_of_le (by have := World.block_lt_of_cell? _ _ D; first | rwa [add_block] at this | exact this) d0.out)
    (try replace D := zX HB D)
    replace D := (cell_far (p := ⟨B, 0, none⟩) (by first | (rw [add_block]; exact E0) | (show (Addr.add _ _).block ≠ _; rw [add_block]; exact E0) | exact E0) (.int .i64 ((rd_T52 z a).f0))).trans D
    replace D := (cell_far (p := ⟨B, 1, none⟩) (by first | (rw [add_block]; exact F0) | (show (Addr.add _ _).block ≠ _; rw [add_block]; exact F0) | exact F0) (.int .i64 ((rd_T52 z a).f1))).trans D
    replace D := (cell_far (p := ⟨B, 2, none⟩) (by first | (rw [add_block]; exact G0) | (show (Addr.add _ _).block ≠ _; rw [add_block]; exact G0) | exact G0) (.int .i64 ((rd_T52 z a).f2))).trans D
    replace D := (cell_far (p := ⟨B, 3, none⟩) (by first | (rw [add_block]; exact I0) | (show (Addr.add _ _).block ≠ _; rw [add_block]; exact I0) | exact I0) (.int .i64 ((rd_T52 z a).f3))).trans D
    clear E0
    clear F0
    clear G0
    clear I0
    replace x1 := eq_true x1
    replace y1 := eq_true y1
    go_wp2
    go_meet
    case rel => exact ⟨_, (decide ((rd I a) > 1000000)), zR, H', ⟨by have := O0.out; have := R0.out; first | omega | exact Nat.le_refl _⟩, ⟨zW u⟩, ⟨zB⟩⟩
   case rest =>
    clear N2
    try clear c1
    try clear c2
    try clear p2
    try clear p4
    try clear q4
    try clear i4
    try clear c5
    try clear c8
    try clear c9
    try clear M2
    try clear F1
    try clear m3
    try clear G1
    try clear n3
    try clear T1
    try clear p1
    try clear j1
    try clear n2
    try clear I1 J1 L1 M1 N1 O1 R1 S1
    try clear y0
    try clear B0
    try clear C0
    try clear D0
    try clear A
    try clear D
    try clear p2
    try clear q1
    try clear m0
    try clear x1
    try clear t1
    try clear n0
    try clear y1
    obtain ⟨kq, S0, rfl, HA, M0, u, HB⟩ := hcut
    cases kq with
    | zero => exact absurd HA.out (by simp [impl_PackOk.j2])
    | succ R2 =>
     have H := HA.out
     clear HA
     simp only [impl_PackOk.j2] at H
     by_cases x2 : S0 = true
     · subst x2
       rw [if_pos rfl] at H
       obtain rfl := z5 H
       go_wp2
       go_ret
       exact ⟨zE, zB⟩
     replace x2 := Bool.eq_false_iff.mpr x2
     subst x2
     rw [if_neg (show ¬ (false = true) by decide)] at H
     by_cases U1 : 0 ≤ a
     rotate_left
     · rw [if_neg U1] at H
       exact absurd H (by simp)
     rw [if_pos U1] at H
     have N3 := eq_true U1
     have O3 := z1 U1
     clear U1
     by_cases V1 : a ≤ (z.length : Int)
     rotate_left
     · rw [if_neg V1] at H
       exact absurd H (by simp)
     rw [if_pos V1] at H
     have R3 := eq_true V1
     have S3 := z1 V1
     clear V1
     obtain ⟨q, T0⟩ : ∃ y_ : List (S52), y_ = (z.take (a : Int).toNat) := ⟨_, rfl⟩
     replace H : (impl_PackOk.l1 R2 z I a z (z.length : Int) a q (q.length : Int) 0 ((rd_T52 z a).f0) ((rd_T52 z a).f1) ((rd_T52 z a).f2) ((rd_T52 z a).f3)) = some r := by first | (rw [T0]; with_reducible exact H) | (have E3 := (Option.bind_some _ _).symm.trans H; rw [T0]; with_reducible exact E3) | (have E3 := (Option.bind_some _ _).symm.trans H; with_reducible exact E3) | with_reducible exact H | (rw [T0]; exact H) | exact H
     have Ny465 := zK T0
     clear T0
     have H' := zK H
     clear H
     have y2 : (a : Int) ≤ ((z.length : Int) : Int) := z3
     obtain ⟨o5, o3, _, hsz20, _⟩ := info_parts info52
     have hroom20 : z.length ≤ c0 := B3.out
     have hC20 : Kd.C k52 _ (some m2) z.length z := l3.out
     have hcut20 := cut_to (P := Try.prog) 41 52 .i64 Try.underlying41 o3 (some m2) z.length c0 a (z3) y2 hroom20
     have T2 := Kd.C_take (m := (a : Int).toNat) hC20 (by omega)
     have U2 : q.length = (a : Int).toNat := (by rw [Ny465.out, List.length_take]; omega)
     rw [← Ny465.out] at T2
     rw [← U2] at hcut20
     have T3 := zK T2
     have b5 := zK (show q.length ≤ c0 from by omega)
     clear T2 hC20 hroom20 o3 hsz20
     have KY20 := zK U2
     clear U2
     replace y2 := eq_true y2
     go_wp2
     go_loopg [42] R2 (fun kq v42 w' => ∃ (l : Int), v42 = .int .i64 l ∧ Aside0 (impl_PackOk.l1 kq z I a z (z.length : Int) a q (q.length : Int) l ((rd_T52 z a).f0) ((rd_T52 z a).f1) ((rd_T52 z a).f2) ((rd_T52 z a).f3) = some r) ∧ Aside0 (kq ≤ R2) ∧ Aside0 (w'.heap[B]? = some (.cells #[.int .i64 ((rd_T52 z a).f0), .int .i64 ((rd_T52 z a).f1), .int .i64 ((rd_T52 z a).f2), .int .i64 ((rd_T52 z a).f3)] 52 (0, 0))) ∧ Aside0 (Below w.heap.size w w'))
     case atStart => exact ⟨(0), zR, H', ⟨Nat.le_refl _⟩, ⟨zM u⟩, ⟨zB⟩⟩
     clear H'
     try clear c1
     try clear c2
     try clear p2
     try clear q2
     try clear p4
     try clear q4
     try clear i4
     try clear c5
     try clear c8
     try clear c9
     try clear M2
     try clear F1
     try clear m3
     try clear G1
     try clear n3
     try clear T1
     try clear p1
     try clear j1
     try clear n2
     try clear x2
     try clear U1
     try clear N3
     try clear O3
     try clear V1
     try clear R3
     try clear S3
     try clear y2
     try clear I1 J1 L1 M1 N1 O1 R1 S1
     try clear y0
     try clear B0
     try clear C0
     try clear D0
     try clear A
     try clear D
     try clear p2
     try clear p4
     try clear q1
     try clear m0
     try clear x1
     try clear y2
     try clear q4
     try clear t1
     try clear n0
     try clear y1
     obtain ⟨l, rfl, HA, B1, u, HB⟩ := hrel
     rcases gk with _ | k4
     · exact absurd HA.out (by simp [impl_PackOk.l1])
     have H := HA.out
     clear HA
     simp only [impl_PackOk.l1] at H
     by_cases X1 : l < (q.length : Int)
     rotate_left
     · rw [if_neg X1] at H
       have U3 := z2 X1
       clear X1
       have H' := zK H
       clear H
       go_wp2
       go_roundg k4
       case measure => have := O0.out; have := R0.out; have := M0.out; have := B1.out; omega
       case rel => exact ⟨(wrap64 (a + 1)), zR, H', ⟨by have := O0.out; have := R0.out; have := M0.out; have := B1.out; omega⟩, ⟨zB⟩⟩
     rw [if_pos X1] at H
     have U3 := z1 X1
     clear X1
     by_cases p3 : 0 ≤ l
     rotate_left
     · rw [if_neg p3] at H
       exact absurd H (by simp)
     rw [if_pos p3] at H
     have d5 := z1 p3
     clear p3
     by_cases q3 : l < (q.length : Int)
     rotate_left
     · rw [if_neg q3] at H
       exact absurd H (by simp)
     rw [if_pos q3] at H
     have e5 := z1 q3
     clear q3
     have V2 := zK H
     clear H
     have X2 : 0 ≤ (l : Int) := z3
     have a3 : l < (q.length : Int) := z3
     obtain ⟨V3, t4, a2, b2, d2, e2⟩ := at_T52 T3.out l X2 a3
     obtain rfl : m2 = V3 := (by injection t4)
     (try replace a2 := zX HB a2)
     (try replace b2 := zX HB b2)
     (try replace d2 := zX HB d2)
     (try replace e2 := zX HB e2)
     replace X2 := eq_true X2
     replace a3 := eq_true a3
     go_upto_region 11 with (first | ((with_reducible refine gd 8 rfl ?_); (try (refine gate_guard (by rfl) ?_; dsimp only)); refine zJ 8 #[.int .i64 0, .int .i64 0, .int .i64 0, .int .i64 0] 52 ?_; intro x hg o0 hbox hb; have E := z7 u hb; have M := z8 hb; have O := zK (hbox); have D3 := z9 hg; have R4 := z9 hg; have S4 := zHH hg u; have T4 := zGG hg u; revert E M O D3 R4 S4 T4; clear u HB; intro u HB y f5 g5 A2 B2; clear hb hbox hg; have i5 := B2.out; have j5 := A2.out; obtain ⟨D4, E4, F4, G4, I4, J4, L4, M4⟩ := zc4 y))
     (try simp only [Act.put, zq1, zq2, zq3])
     go_cut [77] (fun v77 wc => ∃ (kq : Nat) (U0 : Bool), v77 = .bool U0 ∧ Aside0 (impl_PackOk.j4 kq z I a z (z.length : Int) a q (q.length : Int) l U0 ((rd_T52 z a).f0) ((rd_T52 z a).f1) ((rd_T52 z a).f2) ((rd_T52 z a).f3) = some r) ∧ Aside0 (kq ≤ k4) ∧ Aside0 (wc.heap[B]? = some (.cells #[.int .i64 ((rd_T52 z a).f0), .int .i64 ((rd_T52 z a).f1), .int .i64 ((rd_T52 z a).f2), .int .i64 ((rd_T52 z a).f3)] 52 (0, 0))) ∧ Aside0 (wc.heap[x]? = some (.cells #[.int .i64 ((rd_T52 q l).f0), .int .i64 ((rd_T52 q l).f1), .int .i64 ((rd_T52 q l).f2), .int .i64 ((rd_T52 q l).f3)] 52 (0, 0))) ∧ Aside0 (Below w.heap.size w wc))
     case first =>
      have H := V2.out
      clear V2
      replace H := z6 H
      obtain ⟨x4, F3, H⟩ := H
      have G3 := zK F3
      clear F3
      by_cases C2 : x4 = true
      rotate_left
      · replace C2 := Bool.eq_false_iff.mpr C2
        subst C2
        rw [if_neg (show ¬ (false = true) by decide)] at H
        have H' := zK H
        clear H
        try go_wp2
        have E : Aside0 (((((o0.setCell ⟨x, 0, none⟩ (.int .i64 ((rd_T52 q l).f0))).setCell ⟨x, 1, none⟩ (.int .i64 ((rd_T52 q l).f1))).setCell ⟨x, 2, none⟩ (.int .i64 ((rd_T52 q l).f2))).setCell ⟨x, 3, none⟩ (.int .i64 ((rd_T52 q l).f3))).heap[B]? = some (.cells #[.int .i64 ((rd_T52 z a).f0), .int .i64 ((rd_T52 z a).f1), .int .i64 ((rd_T52 z a).f2), .int .i64 ((rd_T52 z a).f3)] 52 (0, 0))) := ⟨zV u⟩
        have M : Aside0 (((((o0.setCell ⟨x, 0, none⟩ (.int .i64 ((rd_T52 q l).f0))).setCell ⟨x, 1, none⟩ (.int .i64 ((rd_T52 q l).f1))).setCell ⟨x, 2, none⟩ (.int .i64 ((rd_T52 q l).f2))).setCell ⟨x, 3, none⟩ (.int .i64 ((rd_T52 q l).f3))).heap[x]? = some (.cells #[.int .i64 ((rd_T52 q l).f0), .int .i64 ((rd_T52 q l).f1), .int .i64 ((rd_T52 q l).f2), .int .i64 ((rd_T52 q l).f3)] 52 (0, 0))) := ⟨zW y⟩
        have O : Aside0 (Below w.heap.size w ((((o0.setCell ⟨x, 0, none⟩ (.int .i64 ((rd_T52 q l).f0))).setCell ⟨x, 1, none⟩ (.int .i64 ((rd_T52 q l).f1))).setCell ⟨x, 2, none⟩ (.int .i64 ((rd_T52 q l).f2))).setCell ⟨x, 3, none⟩ (.int .i64 ((rd_T52 q l).f3)))) := ⟨zB⟩
        (try clear u)
        (try clear y)
        (try clear HB)
        generalize ((((o0.setCell ⟨x, 0, none⟩ (.int .i64 ((rd_T52 q l).f0))).setCell ⟨x, 1, none⟩ (.int .i64 ((rd_T52 q l).f1))).setCell ⟨x, 2, none⟩ (.int .i64 ((rd_T52 q l).f2))).setCell ⟨x, 3, none⟩ (.int .i64 ((rd_T52 q l).f3))) = U4 at E M O ⊢
        revert E M O
        intro u y HB
        have E := zK (zd u.out)
        have M := zK (zd y.out)
        have O := zK (ze HB.out)
        revert E M O
        clear u y HB
        intro u y HB
        refine start_ (n := 31) (S := fun w' => w'.cell? ⟨B, 0, none⟩ = some (.int .i64 ((rd_T52 z a).f0)) ∧ w'.cell? ⟨B, 1, none⟩ = some (.int .i64 ((rd_T52 z a).f1)) ∧ w'.cell? ⟨B, 2, none⟩ = some (.int .i64 ((rd_T52 z a).f2)) ∧ w'.cell? ⟨B, 3, none⟩ = some (.int .i64 ((rd_T52 z a).f3)) ∧ w'.cell? ⟨x, 0, none⟩ = some (.int .i64 ((rd_T52 q l).f0)) ∧ w'.cell? ⟨x, 1, none⟩ = some (.int .i64 ((rd_T52 q l).f1)) ∧ w'.cell? ⟨x, 2, none⟩ = some (.int .i64 ((rd_T52 q l).f2)) ∧ w'.cell? ⟨x, 3, none⟩ = some (.int .i64 ((rd_T52 q l).f3))) (ds := []) (bl 31 0) (by kernel_rfl) rfl (by kernel_rfl) ⟨zy u 0, zy u 1, zy u 2, zy u 3, zy y 0, zy y 1, zy y 2, zy y 3⟩ (fun hHeld => ?_); refine with_tabW impl_PackOk.tab11 impl_PackOk.bits11 (fun HT_ HW_ => ?_)
        generalize U4.drew = t5 at u y HB hHeld ⊢
        refine zT 0 47 (bl 31 1) rfl rfl HT_ HW_ hHeld (by rintro w' ⟨s0, s1, s2, s3, s4, s5, s6, s7⟩; go_simp; with_reducible rfl) ?_
        refine zT 1 48 (bl 31 3) rfl rfl HT_ HW_ hHeld (by rintro w' ⟨s0, s1, s2, s3, s4, s5, s6, s7⟩; go_simp; with_reducible rfl) ?_
        refine one_ (i := 2) (N := some 49) (bl 31 7) rfl rfl (one_of HT_.out (by kernel_rfl)) (by decide) (fun K hK => ?_)
        refine goes_ Try.func52 (by kernel_rfl) rfl #[.agg #[.int .i64 ((rd_T52 z a).f0), .int .i64 ((rd_T52 z a).f1), .int .i64 ((rd_T52 z a).f2), .int .i64 ((rd_T52 z a).f3)], .agg #[.int .i64 ((rd_T52 q l).f0), .int .i64 ((rd_T52 q l).f1), .int .i64 ((rd_T52 q l).f2), .int .i64 ((rd_T52 q l).f3)]] (by rfl) rfl rfl zL ?_
        with_reducible refine (impl_Life_meets.calls ((rd_T52 z a).f0) ((rd_T52 z a).f1) ((rd_T52 z a).f2) ((rd_T52 z a).f3) ((rd_T52 q l).f0) ((rd_T52 q l).f1) ((rd_T52 q l).f2) ((rd_T52 q l).f3) false _ G3.out).mono ?_
        rintro e x5 ⟨rfl, hb⟩
        refine ⟨_, rfl, ?_⟩
        have E := z7 u hb
        have M := z7 y hb
        have O := z8 hb
        revert E M O
        clear u y HB
        intro u y HB
        (try clear hb)
        (try clear hb2)
        (try clear hk)
        (try clear hi)
        refine hK.out _ _ ⟨zy u 0, zy u 1, zy u 2, zy u 3, zy y 0, zy y 1, zy y 2, zy y 3⟩ (fun hHeld => ?_)
        clear hK K
        refine zU 49 ?_
        refine zP 3 50 (bl 31 15) HT_ ?_
        refine zO 4 51 (bl 31 31) HT_ ?_
        refine zO 5 52 (bl 31 63) HT_ ?_
        refine zO 6 53 (bl 31 127) HT_ ?_
        refine zO 7 54 (bl 31 255) HT_ ?_
        refine zO 8 55 (bl 31 511) HT_ ?_
        refine zO 9 56 (bl 31 1023) HT_ ?_
        refine zO 10 57 (bl 31 2047) HT_ ?_
        refine zO 11 58 (bl 31 4095) HT_ ?_
        refine zO 12 59 (bl 31 8191) HT_ ?_
        refine zO 13 60 (bl 31 16383) HT_ ?_
        refine zO 14 61 (bl 31 32767) HT_ ?_
        refine zO 15 62 (bl 31 65535) HT_ ?_
        refine zP 16 63 (bl 31 131071) HT_ ?_
        refine zP 17 64 (bl 31 262143) HT_ ?_
        refine zO 18 65 (bl 31 524287) HT_ ?_
        refine zO 19 66 (bl 31 1048575) HT_ ?_
        refine zO 20 67 (bl 31 2097151) HT_ ?_
        refine zO 21 68 (bl 31 4194303) HT_ ?_
        refine zO 22 69 (bl 31 8388607) HT_ ?_
        refine zO 23 70 (bl 31 16777215) HT_ ?_
        refine zO 24 71 (bl 31 33554431) HT_ ?_
        refine zO 25 72 (bl 31 67108863) HT_ ?_
        refine zO 26 73 (bl 31 134217727) HT_ ?_
        refine zO 27 74 (bl 31 268435455) HT_ ?_
        refine zO 28 75 (bl 31 536870911) HT_ ?_
        refine zO 29 76 (bl 31 1073741823) HT_ ?_
        refine zP 30 77 (bl 31 2147483647) HT_ ?_
        refine done_ (done_of HT_.out (by kernel_rfl)) ?_
        try go_wp2
        go_meet
        case rel => exact ⟨_, (false), zR, H', ⟨by have := O0.out; have := R0.out; have := M0.out; have := B1.out; first | omega | exact Nat.le_refl _⟩, ⟨zM u⟩, ⟨zM y⟩, ⟨zB⟩⟩
      subst C2
      rw [if_pos rfl] at H
      by_cases D2 : 0 ≤ a
      rotate_left
      · rw [if_neg D2] at H
        exact absurd H (by simp)
      rw [if_pos D2] at H
      have t3 := z1 D2
      clear D2
      (first | rw [t3] | (simp only [i64_w, i32_w]; rw [t3]) | skip)
      by_cases E2 : a < (I.length : Int)
      rotate_left
      · rw [if_neg E2] at H
        exact absurd H (by simp)
      rw [if_pos E2] at H
      have l5 := z1 E2
      clear E2
      by_cases F2 : l < (I.length : Int)
      rotate_left
      · rw [if_neg F2] at H
        exact absurd H (by simp)
      rw [if_pos F2] at H
      have m5 := z1 F2
      clear F2
      by_cases C1 : (rd I a) < (wrap64 ((rd I l) + ((rd_T52 q l).f1)))
      rotate_left
      · rw [if_neg C1] at H
        have x3 := z2 C1
        clear C1
        have H' := zK H
        clear H
        try go_wp2
        have E : Aside0 (((((o0.setCell ⟨x, 0, none⟩ (.int .i64 ((rd_T52 q l).f0))).setCell ⟨x, 1, none⟩ (.int .i64 ((rd_T52 q l).f1))).setCell ⟨x, 2, none⟩ (.int .i64 ((rd_T52 q l).f2))).setCell ⟨x, 3, none⟩ (.int .i64 ((rd_T52 q l).f3))).heap[B]? = some (.cells #[.int .i64 ((rd_T52 z a).f0), .int .i64 ((rd_T52 z a).f1), .int .i64 ((rd_T52 z a).f2), .int .i64 ((rd_T52 z a).f3)] 52 (0, 0))) := ⟨zV u⟩
        have M : Aside0 (((((o0.setCell ⟨x, 0, none⟩ (.int .i64 ((rd_T52 q l).f0))).setCell ⟨x, 1, none⟩ (.int .i64 ((rd_T52 q l).f1))).setCell ⟨x, 2, none⟩ (.int .i64 ((rd_T52 q l).f2))).setCell ⟨x, 3, none⟩ (.int .i64 ((rd_T52 q l).f3))).heap[x]? = some (.cells #[.int .i64 ((rd_T52 q l).f0), .int .i64 ((rd_T52 q l).f1), .int .i64 ((rd_T52 q l).f2), .int .i64 ((rd_T52 q l).f3)] 52 (0, 0))) := ⟨zW y⟩
        have O : Aside0 (Below w.heap.size w ((((o0.setCell ⟨x, 0, none⟩ (.int .i64 ((rd_T52 q l).f0))).setCell ⟨x, 1, none⟩ (.int .i64 ((rd_T52 q l).f1))).setCell ⟨x, 2, none⟩ (.int .i64 ((rd_T52 q l).f2))).setCell ⟨x, 3, none⟩ (.int .i64 ((rd_T52 q l).f3)))) := ⟨zB⟩
        (try clear u)
        (try clear y)
        (try clear HB)
        generalize ((((o0.setCell ⟨x, 0, none⟩ (.int .i64 ((rd_T52 q l).f0))).setCell ⟨x, 1, none⟩ (.int .i64 ((rd_T52 q l).f1))).setCell ⟨x, 2, none⟩ (.int .i64 ((rd_T52 q l).f2))).setCell ⟨x, 3, none⟩ (.int .i64 ((rd_T52 q l).f3))) = V4 at E M O ⊢
        revert E M O
        intro u y HB
        have E := zK (zd u.out)
        have M := zK (zd y.out)
        have O := zK (ze HB.out)
        revert E M O
        clear u y HB
        intro u y HB
        have p0 : 0 ≤ (a : Int) := z3
        have q0 : a < (I.length : Int) := z3
        obtain ⟨e0, b3, J⟩ := Kd.at_int N0.out a p0 q0
        have g0 := J
        cases b3
        (try replace J := zX HB J)
        replace p0 := eq_true p0
        replace q0 := eq_true q0
        have t0 : 0 ≤ (l : Int) := z3
        have x0 : l < (I.length : Int) := z3
        obtain ⟨o2, d3, L⟩ := Kd.at_int N0.out l t0 x0
        have i0 := L
        obtain rfl : e0 = o2 := (by injection d3)
        (try replace L := zX HB L)
        replace t0 := eq_true t0
        replace x0 := eq_true x0
        refine start_ (n := 31) (S := fun w' => w'.cell? ⟨B, 0, none⟩ = some (.int .i64 ((rd_T52 z a).f0)) ∧ w'.cell? ⟨B, 1, none⟩ = some (.int .i64 ((rd_T52 z a).f1)) ∧ w'.cell? ⟨B, 2, none⟩ = some (.int .i64 ((rd_T52 z a).f2)) ∧ w'.cell? ⟨B, 3, none⟩ = some (.int .i64 ((rd_T52 z a).f3)) ∧ w'.cell? ⟨x, 0, none⟩ = some (.int .i64 ((rd_T52 q l).f0)) ∧ w'.cell? ⟨x, 1, none⟩ = some (.int .i64 ((rd_T52 q l).f1)) ∧ w'.cell? ⟨x, 2, none⟩ = some (.int .i64 ((rd_T52 q l).f2)) ∧ w'.cell? ⟨x, 3, none⟩ = some (.int .i64 ((rd_T52 q l).f3)) ∧ w'.cell? (e0.add (a).toNat) = some (.int .i64 (rd I a)) ∧ w'.cell? (e0.add (l).toNat) = some (.int .i64 (rd I l))) (ds := []) (bl 31 0) (by kernel_rfl) rfl (by kernel_rfl) ⟨zy u 0, zy u 1, zy u 2, zy u 3, zy y 0, zy y 1, zy y 2, zy y 3, (zX HB g0:), (zX HB i0:)⟩ (fun hHeld => ?_); refine with_tabW impl_PackOk.tab11 impl_PackOk.bits11 (fun HT_ HW_ => ?_)
        generalize V4.drew = y5 at u y HB J L hHeld ⊢
        refine zT 0 47 (bl 31 1) rfl rfl HT_ HW_ hHeld (by rintro w' ⟨s0, s1, s2, s3, s4, s5, s6, s7, s8, s9⟩; go_simp; with_reducible rfl) ?_
        refine zT 1 48 (bl 31 3) rfl rfl HT_ HW_ hHeld (by rintro w' ⟨s0, s1, s2, s3, s4, s5, s6, s7, s8, s9⟩; go_simp; with_reducible rfl) ?_
        refine one_ (i := 2) (N := some 49) (bl 31 7) rfl rfl (one_of HT_.out (by kernel_rfl)) (by decide) (fun K hK => ?_)
        refine goes_ Try.func52 (by kernel_rfl) rfl #[.agg #[.int .i64 ((rd_T52 z a).f0), .int .i64 ((rd_T52 z a).f1), .int .i64 ((rd_T52 z a).f2), .int .i64 ((rd_T52 z a).f3)], .agg #[.int .i64 ((rd_T52 q l).f0), .int .i64 ((rd_T52 q l).f1), .int .i64 ((rd_T52 q l).f2), .int .i64 ((rd_T52 q l).f3)]] (by rfl) rfl rfl zL ?_
        with_reducible refine (impl_Life_meets.calls ((rd_T52 z a).f0) ((rd_T52 z a).f1) ((rd_T52 z a).f2) ((rd_T52 z a).f3) ((rd_T52 q l).f0) ((rd_T52 q l).f1) ((rd_T52 q l).f2) ((rd_T52 q l).f3) true _ G3.out).mono ?_
        rintro e A5 ⟨rfl, hb⟩
        refine ⟨_, rfl, ?_⟩
        have E := z7 u hb
        have M := z7 y hb
        have O := z8 hb
        revert E M O
        clear u y HB
        intro u y HB
        (try clear hb)
        (try clear hb2)
        (try clear hk)
        (try clear hi)
        refine hK.out _ _ ⟨zy u 0, zy u 1, zy u 2, zy u 3, zy y 0, zy y 1, zy y 2, zy y 3, (zX HB g0:), (zX HB i0:)⟩ (fun hHeld => ?_)
        clear hK K
        refine zU 49 ?_
        refine zP 3 50 (bl 31 15) HT_ ?_
        refine zP 4 51 (bl 31 31) HT_ ?_
        refine zP 5 52 (bl 31 63) HT_ ?_
        refine zP 6 53 (bl 31 127) HT_ ?_
        refine zP 8 55 (bl 31 383) HT_ ?_
        refine zP 9 56 (bl 31 895) HT_ ?_
        refine zP 10 57 (bl 31 1919) HT_ ?_
        refine zP 12 59 (bl 31 6015) HT_ ?_
        refine zT 7 54 (bl 31 6143) rfl rfl HT_ HW_ hHeld (by rintro w' ⟨s0, s1, s2, s3, s4, s5, s6, s7, s8, s9⟩; go_simp; with_reducible rfl) ?_
        refine zT 11 58 (bl 31 8191) rfl rfl HT_ HW_ hHeld (by rintro w' ⟨s0, s1, s2, s3, s4, s5, s6, s7, s8, s9⟩; go_simp; with_reducible rfl) ?_
        refine zT 13 60 (bl 31 16383) rfl rfl HT_ HW_ hHeld (by rintro w' ⟨s0, s1, s2, s3, s4, s5, s6, s7, s8, s9⟩; go_simp; with_reducible rfl) ?_
        refine zP 14 61 (bl 31 32767) HT_ ?_
        refine zP 15 62 (bl 31 65535) HT_ ?_
        refine zP 16 63 (bl 31 131071) HT_ ?_
        refine zP 17 64 (bl 31 262143) HT_ ?_
        refine zO 18 65 (bl 31 524287) HT_ ?_
        refine zO 19 66 (bl 31 1048575) HT_ ?_
        refine zO 20 67 (bl 31 2097151) HT_ ?_
        refine zO 21 68 (bl 31 4194303) HT_ ?_
        refine zO 22 69 (bl 31 8388607) HT_ ?_
        refine zO 23 70 (bl 31 16777215) HT_ ?_
        refine zO 24 71 (bl 31 33554431) HT_ ?_
        refine zO 25 72 (bl 31 67108863) HT_ ?_
        refine zO 26 73 (bl 31 134217727) HT_ ?_
        refine zO 27 74 (bl 31 268435455) HT_ ?_
        refine zO 28 75 (bl 31 536870911) HT_ ?_
        refine zO 29 76 (bl 31 1073741823) HT_ ?_
        refine zP 30 77 (bl 31 2147483647) HT_ ?_
        refine done_ (done_of HT_.out (by kernel_rfl)) ?_
        try go_wp2
        go_meet
        case rel => exact ⟨_, (false), zR, H', ⟨by have := O0.out; have := R0.out; have := M0.out; have := B1.out; first | omega | exact Nat.le_refl _⟩, ⟨zM u⟩, ⟨zM y⟩, ⟨zB⟩⟩
      rw [if_pos C1] at H
      have x3 := z1 C1
      clear C1
      have H' := zK H
      clear H
      try go_wp2
      have E : Aside0 (((((o0.setCell ⟨x, 0, none⟩ (.int .i64 ((rd_T52 q l).f0))).setCell ⟨x, 1, none⟩ (.int .i64 ((rd_T52 q l).f1))).setCell ⟨x, 2, none⟩ (.int .i64 ((rd_T52 q l).f2))).setCell ⟨x, 3, none⟩ (.int .i64 ((rd_T52 q l).f3))).heap[B]? = some (.cells #[.int .i64 ((rd_T52 z a).f0), .int .i64 ((rd_T52 z a).f1), .int .i64 ((rd_T52 z a).f2), .int .i64 ((rd_T52 z a).f3)] 52 (0, 0))) := ⟨zV u⟩
      have M : Aside0 (((((o0.setCell ⟨x, 0, none⟩ (.int .i64 ((rd_T52 q l).f0))).setCell ⟨x, 1, none⟩ (.int .i64 ((rd_T52 q l).f1))).setCell ⟨x, 2, none⟩ (.int .i64 ((rd_T52 q l).f2))).setCell ⟨x, 3, none⟩ (.int .i64 ((rd_T52 q l).f3))).heap[x]? = some (.cells #[.int .i64 ((rd_T52 q l).f0), .int .i64 ((rd_T52 q l).f1), .int .i64 ((rd_T52 q l).f2), .int .i64 ((rd_T52 q l).f3)] 52 (0, 0))) := ⟨zW y⟩
      have O : Aside0 (Below w.heap.size w ((((o0.setCell ⟨x, 0, none⟩ (.int .i64 ((rd_T52 q l).f0))).setCell ⟨x, 1, none⟩ (.int .i64 ((rd_T52 q l).f1))).setCell ⟨x, 2, none⟩ (.int .i64 ((rd_T52 q l).f2))).setCell ⟨x, 3, none⟩ (.int .i64 ((rd_T52 q l).f3)))) := ⟨zB⟩
      (try clear u)
      (try clear y)
      (try clear HB)
      generalize ((((o0.setCell ⟨x, 0, none⟩ (.int .i64 ((rd_T52 q l).f0))).setCell ⟨x, 1, none⟩ (.int .i64 ((rd_T52 q l).f1))).setCell ⟨x, 2, none⟩ (.int .i64 ((rd_T52 q l).f2))).setCell ⟨x, 3, none⟩ (.int .i64 ((rd_T52 q l).f3))) = X4 at E M O ⊢
      revert E M O
      intro u y HB
      have E := zK (zd u.out)
      have M := zK (zd y.out)
      have O := zK (ze HB.out)
      revert E M O
      clear u y HB
      intro u y HB
      have p0 : 0 ≤ (a : Int) := z3
      have q0 : a < (I.length : Int) := z3
      obtain ⟨e0, b3, J⟩ := Kd.at_int N0.out a p0 q0
      have g0 := J
      cases b3
      (try replace J := zX HB J)
      replace p0 := eq_true p0
      replace q0 := eq_true q0
      have t0 : 0 ≤ (l : Int) := z3
      have x0 : l < (I.length : Int) := z3
      obtain ⟨o2, d3, L⟩ := Kd.at_int N0.out l t0 x0
      have i0 := L
      obtain rfl : e0 = o2 := (by injection d3)
      (try replace L := zX HB L)
      replace t0 := eq_true t0
      replace x0 := eq_true x0
      have e3 : 0 ≤ (l : Int) := z3
      have g3 : l < (I.length : Int) := z3
      obtain ⟨X3, y4, J0⟩ := Kd.at_int N0.out l e3 g3
      have g2 := J0
      obtain rfl : e0 = X3 := (by injection y4)
      (try replace J0 := zX HB J0)
      replace e3 := eq_true e3
      replace g3 := eq_true g3
      have i3 : 0 ≤ (a : Int) := z3
      have j3 : a < (I.length : Int) := z3
      obtain ⟨a4, B4, L0⟩ := Kd.at_int N0.out a i3 j3
      have i2 := L0
      obtain rfl : e0 = a4 := (by injection B4)
      (try replace L0 := zX HB L0)
      replace i3 := eq_true i3
      replace j3 := eq_true j3
      refine start_ (n := 31) (S := fun w' => w'.cell? ⟨B, 0, none⟩ = some (.int .i64 ((rd_T52 z a).f0)) ∧ w'.cell? ⟨B, 1, none⟩ = some (.int .i64 ((rd_T52 z a).f1)) ∧ w'.cell? ⟨B, 2, none⟩ = some (.int .i64 ((rd_T52 z a).f2)) ∧ w'.cell? ⟨B, 3, none⟩ = some (.int .i64 ((rd_T52 z a).f3)) ∧ w'.cell? ⟨x, 0, none⟩ = some (.int .i64 ((rd_T52 q l).f0)) ∧ w'.cell? ⟨x, 1, none⟩ = some (.int .i64 ((rd_T52 q l).f1)) ∧ w'.cell? ⟨x, 2, none⟩ = some (.int .i64 ((rd_T52 q l).f2)) ∧ w'.cell? ⟨x, 3, none⟩ = some (.int .i64 ((rd_T52 q l).f3)) ∧ w'.cell? (e0.add (a).toNat) = some (.int .i64 (rd I a)) ∧ w'.cell? (e0.add (l).toNat) = some (.int .i64 (rd I l)) ∧ w'.cell? (e0.add (l).toNat) = some (.int .i64 (rd I l)) ∧ w'.cell? (e0.add (a).toNat) = some (.int .i64 (rd I a))) (ds := []) (bl 31 0) (by kernel_rfl) rfl (by kernel_rfl) ⟨zy u 0, zy u 1, zy u 2, zy u 3, zy y 0, zy y 1, zy y 2, zy y 3, (zX HB g0:), (zX HB i0:), (zX HB g2:), (zX HB i2:)⟩ (fun hHeld => ?_); refine with_tabW impl_PackOk.tab11 impl_PackOk.bits11 (fun HT_ HW_ => ?_)
      generalize X4.drew = B5 at u y HB J L J0 L0 hHeld ⊢
      refine zT 0 47 (bl 31 1) rfl rfl HT_ HW_ hHeld (by rintro w' ⟨s0, s1, s2, s3, s4, s5, s6, s7, s8, s9, D1, E1⟩; go_simp; with_reducible rfl) ?_
      refine zT 1 48 (bl 31 3) rfl rfl HT_ HW_ hHeld (by rintro w' ⟨s0, s1, s2, s3, s4, s5, s6, s7, s8, s9, D1, E1⟩; go_simp; with_reducible rfl) ?_
      refine one_ (i := 2) (N := some 49) (bl 31 7) rfl rfl (one_of HT_.out (by kernel_rfl)) (by decide) (fun K hK => ?_)
      refine goes_ Try.func52 (by kernel_rfl) rfl #[.agg #[.int .i64 ((rd_T52 z a).f0), .int .i64 ((rd_T52 z a).f1), .int .i64 ((rd_T52 z a).f2), .int .i64 ((rd_T52 z a).f3)], .agg #[.int .i64 ((rd_T52 q l).f0), .int .i64 ((rd_T52 q l).f1), .int .i64 ((rd_T52 q l).f2), .int .i64 ((rd_T52 q l).f3)]] (by rfl) rfl rfl zL ?_
      with_reducible refine (impl_Life_meets.calls ((rd_T52 z a).f0) ((rd_T52 z a).f1) ((rd_T52 z a).f2) ((rd_T52 z a).f3) ((rd_T52 q l).f0) ((rd_T52 q l).f1) ((rd_T52 q l).f2) ((rd_T52 q l).f3) true _ G3.out).mono ?_
      rintro e C5 ⟨rfl, hb⟩
      refine ⟨_, rfl, ?_⟩
      have E := z7 u hb
      have M := z7 y hb
      have O := z8 hb
      revert E M O
      clear u y HB
      intro u y HB
      (try clear hb)
      (try clear hb2)
      (try clear hk)
      (try clear hi)
      refine hK.out _ _ ⟨zy u 0, zy u 1, zy u 2, zy u 3, zy y 0, zy y 1, zy y 2, zy y 3, (zX HB g0:), (zX HB i0:), (zX HB g2:), (zX HB i2:)⟩ (fun hHeld => ?_)
      clear hK K
      refine zU 49 ?_
      refine zP 3 50 (bl 31 15) HT_ ?_
      refine zP 4 51 (bl 31 31) HT_ ?_
      refine zP 5 52 (bl 31 63) HT_ ?_
      refine zP 6 53 (bl 31 127) HT_ ?_
      refine zP 8 55 (bl 31 383) HT_ ?_
      refine zP 9 56 (bl 31 895) HT_ ?_
      refine zP 10 57 (bl 31 1919) HT_ ?_
      refine zP 12 59 (bl 31 6015) HT_ ?_
      refine zT 7 54 (bl 31 6143) rfl rfl HT_ HW_ hHeld (by rintro w' ⟨s0, s1, s2, s3, s4, s5, s6, s7, s8, s9, D1, E1⟩; go_simp; with_reducible rfl) ?_
      refine zT 11 58 (bl 31 8191) rfl rfl HT_ HW_ hHeld (by rintro w' ⟨s0, s1, s2, s3, s4, s5, s6, s7, s8, s9, D1, E1⟩; go_simp; with_reducible rfl) ?_
      refine zT 13 60 (bl 31 16383) rfl rfl HT_ HW_ hHeld (by rintro w' ⟨s0, s1, s2, s3, s4, s5, s6, s7, s8, s9, D1, E1⟩; go_simp; with_reducible rfl) ?_
      refine zP 14 61 (bl 31 32767) HT_ ?_
      refine zP 15 62 (bl 31 65535) HT_ ?_
      refine zP 16 63 (bl 31 131071) HT_ ?_
      refine zP 17 64 (bl 31 262143) HT_ ?_
      refine zP 18 65 (bl 31 524287) HT_ ?_
      refine zP 19 66 (bl 31 1048575) HT_ ?_
      refine zP 20 67 (bl 31 2097151) HT_ ?_
      refine zP 22 69 (bl 31 6291455) HT_ ?_
      refine zP 23 70 (bl 31 14680063) HT_ ?_
      refine zP 24 71 (bl 31 31457279) HT_ ?_
      refine zP 26 73 (bl 31 98566143) HT_ ?_
      refine zT 21 68 (bl 31 100663295) rfl rfl HT_ HW_ hHeld (by rintro w' ⟨s0, s1, s2, s3, s4, s5, s6, s7, s8, s9, D1, E1⟩; go_simp; with_reducible rfl) ?_
      refine zT 25 72 (bl 31 134217727) rfl rfl HT_ HW_ hHeld (by rintro w' ⟨s0, s1, s2, s3, s4, s5, s6, s7, s8, s9, D1, E1⟩; go_simp; with_reducible rfl) ?_
      refine zT 27 74 (bl 31 268435455) rfl rfl HT_ HW_ hHeld (by rintro w' ⟨s0, s1, s2, s3, s4, s5, s6, s7, s8, s9, D1, E1⟩; go_simp; with_reducible rfl) ?_
      refine zP 28 75 (bl 31 536870911) HT_ ?_
      refine zP 29 76 (bl 31 1073741823) HT_ ?_
      refine zP 30 77 (bl 31 2147483647) HT_ ?_
      refine done_ (done_of HT_.out (by kernel_rfl)) ?_
      try go_wp2
      go_meet
      case rel => exact ⟨_, (decide ((rd I l) < (wrap64 ((rd I a) + ((rd_T52 z a).f1))))), zR, H', ⟨by have := O0.out; have := R0.out; have := M0.out; have := B1.out; first | omega | exact Nat.le_refl _⟩, ⟨zM u⟩, ⟨zM y⟩, ⟨zB⟩⟩
     case rest =>
      clear V2
      try clear c2
      try clear p2
      try clear c3
      try clear p4
      try clear q4
      try clear i4
      try clear c5
      try clear p6
      try clear C2
      try clear D2
      try clear E2
      try clear F2
      try clear C1
      try clear x3
      try clear J
      try clear L
      try clear p0
      try clear t0
      try clear q0
      try clear x0
      obtain ⟨kq, U0, rfl, HA, I3, u, y, HB⟩ := hcut
      cases kq with
      | zero => exact absurd HA.out (by simp [impl_PackOk.j4])
      | succ C4 =>
       have H := HA.out
       clear HA
       simp only [impl_PackOk.j4] at H
       by_cases y3 : U0 = true
       · subst y3
         rw [if_pos rfl] at H
         obtain rfl := z5 H
         go_wp2
         go_ret
         exact ⟨zE, zB⟩
       replace y3 := Bool.eq_false_iff.mpr y3
       subst y3
       rw [if_neg (show ¬ (false = true) by decide)] at H
       have H' := zK H
       clear H
       go_wp2
       go_roundg C4
       case measure => have := O0.out; have := R0.out; have := M0.out; have := B1.out; have := I3.out; omega
       case rel => exact ⟨(wrap64 (l + 1)), zR, H', ⟨by have := O0.out; have := R0.out; have := M0.out; have := B1.out; have := I3.out; omega⟩, ⟨zM u⟩, ⟨zB⟩⟩
end Go.Proofs.Ytmcboiffbcnalaa.PFnExactPlanOk
