-- Printed out of the translation by this session's own turned copy of a printer; Lean checks it.
import Derived.Test.YtodfhokndnmdoaaPFnFactorx0
import Derived.Test.YtodfhokndnmdoaaPFnFactorx1
import Derived.Test.YtodfhokndnmdoaaPFnFactorx2
import Derived.Test.YtodfhokndnmdoaaPFnFactorx3
namespace Go.Proofs.Ytodfhokndnmdoaa.PFnFactor
open Go.RowKit Go.Proofs.YtodfhokndnmdoaaW.PrintWords Go.Proofs.YtodfhokndnmdoaaW.PrintLast Go.Proofs.YtodfhokndnmdoaaW.PrintMore
attribute [local go_sem] max2_int min2_int max_two min_two max_three min_three max_four min_four
set_option linter.unusedVariables false
set_option linter.unusedSimpArgs false
set_option maxHeartbeats 100000000
set_option maxRecDepth 100000
theorem bld30 {ev : Operand → Value} {o : Oper} {t1 t2 t3 t4 t5 t6 : Nat} {A B C : Option Addr} {n1 n2 n3 c1 c2 c3 : Nat} {i j l : Int} (w : World)
    (ho : o.op = Op.build 30 #[(0, .tmp t1), (1, .tmp t2), (2, .tmp t3), (3, .tmp t4), (4, .tmp t5), (5, .tmp t6)])
    (h1 : ev (.tmp t1) = .slice A n1 c1) (h2 : ev (.tmp t2) = .slice B n2 c2) (h3 : ev (.tmp t3) = .slice C n3 c3) (h4 : ev (.tmp t4) = .int .i64 i) (h5 : ev (.tmp t5) = .int .i64 j) (h6 : ev (.tmp t6) = .int .i64 l) :
    (execOp ev o).run Try.prog w = .ok (.value (.agg #[.slice A n1 c1, .slice B n2 c2, .slice C n3 c3, .int .i64 i, .int .i64 j, .int .i64 l])) w := by
  unfold execOp
  rw [ho]
  go_simp
theorem zT1 {α : Type} {k : Kd α} {t base : Nat} {ok : Nat → Prop} {v : Value} {W w' : World} {l : List α} {g i T : Nat} {cs : Array Value} {u : Value} (hw : w' = W.setCell ⟨g, i, none⟩ u) (h : Kd.R k t W base ok v l) (hb : W.heap[g]? = some (.cells cs T (0, 0))) (ht : ∀ q, q ∈ t :: k.E → q ≠ T) : Aside0 (Kd.R k t w' base ok v l) := by
  subst hw; exact ⟨Kd.R_mono (Kd.R_far (Kd.R_types h hb ht) (fun _ hk => hk.2) _) (fun _ h => h.1)⟩
theorem zB1 {W w' : World} {g i l : Nat} {o : Obj} {u : Value} (hw : w' = W.setCell ⟨g, i, none⟩ u) (h : W.heap[l]? = some o) (hne : l ≠ g) : Aside0 (w'.heap[l]? = some o) := by
  subst hw; exact ⟨(Below.heap_setCell W ⟨g, i, none⟩ u l hne).trans h⟩
theorem zS5 {W w' : World} {g T : Nat} {x0 x1 x2 x3 x4 x5 u : Value} (hw : w' = W.setCell ⟨g, 5, none⟩ u) (h : W.heap[g]? = some (.cells #[x0, x1, x2, x3, x4, x5] T (0, 0))) : Aside0 (w'.heap[g]? = some (.cells #[x0, x1, x2, x3, x4, u] T (0, 0))) := by
  subst hw; exact ⟨blk_put h 5 u rfl⟩
theorem zS4 {W w' : World} {g T : Nat} {x0 x1 x2 x3 x4 x5 u : Value} (hw : w' = W.setCell ⟨g, 4, none⟩ u) (h : W.heap[g]? = some (.cells #[x0, x1, x2, x3, x4, x5] T (0, 0))) : Aside0 (w'.heap[g]? = some (.cells #[x0, x1, x2, x3, u, x5] T (0, 0))) := by
  subst hw; exact ⟨blk_put h 4 u rfl⟩
theorem zH1 {w W w' : World} {g i : Nat} {u : Value} (hw : w' = W.setCell ⟨g, i, none⟩ u) (h : Below w.heap.size w W) (hg : w.heap.size ≤ g) : Aside0 (Below w.heap.size w w') := by
  subst hw; exact ⟨zs h hg⟩
theorem yT6 {α : Type} {k : Kd α} {t base : Nat} {ok : Nat → Prop} {v : Value} {W : World} {l : List α} {g T : Nat} {cs : Array Value} {u0 u1 u2 u3 u4 u5 : Value} (h : Kd.R k t W base ok v l) (hb : W.heap[g]? = some (.cells cs T (0, 0))) (ht : ∀ q, q ∈ t :: k.E → q ≠ T) : Kd.R k t ((((((W.setCell ⟨g, 0, none⟩ u0).setCell ⟨g, 1, none⟩ u1).setCell ⟨g, 2, none⟩ u2).setCell ⟨g, 3, none⟩ u3).setCell ⟨g, 4, none⟩ u4).setCell ⟨g, 5, none⟩ u5) base ok v l :=
  Kd.R_mono (Kd.R_far (Kd.R_far (Kd.R_far (Kd.R_far (Kd.R_far (Kd.R_far (Kd.R_types h hb ht) (fun _ hk => hk.2) _) (fun _ hk => hk.2) _) (fun _ hk => hk.2) _) (fun _ hk => hk.2) _) (fun _ hk => hk.2) _) (fun _ hk => hk.2) _) (fun _ h => h.1)
abbrev ysix (W : World) (g : Nat) (u0 u1 u2 u3 u4 u5 : Value) : World := (((((W.setCell ⟨g, 0, none⟩ u0).setCell ⟨g, 1, none⟩ u1).setCell ⟨g, 2, none⟩ u2).setCell ⟨g, 3, none⟩ u3).setCell ⟨g, 4, none⟩ u4).setCell ⟨g, 5, none⟩ u5
theorem yT7 {α : Type} {k : Kd α} {t base : Nat} {ok : Nat → Prop} {v : Value} {W w6 : World} {l : List α} {g T : Nat} {cs : Array Value} {u0 u1 u2 u3 u4 u5 : Value} (hW : ysix W g u0 u1 u2 u3 u4 u5 = w6) (h : Kd.R k t W base ok v l) (hb : W.heap[g]? = some (.cells cs T (0, 0))) (ht : ∀ q, q ∈ t :: k.E → q ≠ T) : Aside0 (Kd.R k t w6 base ok v l) := by subst hW; exact ⟨yT6 h hb ht⟩
theorem yB7 {W w6 : World} {g l : Nat} {o : Obj} {u0 u1 u2 u3 u4 u5 : Value} (hW : ysix W g u0 u1 u2 u3 u4 u5 = w6) (h : W.heap[l]? = some o) (hne : l ≠ g) : Aside0 (w6.heap[l]? = some o) := by
  subst hW
  have s : ∀ (w : World) (i : Nat) (u : Value), (w.setCell ⟨g, i, none⟩ u).heap[l]? = w.heap[l]? := fun w i u => Below.heap_setCell w ⟨g, i, none⟩ u l hne
  exact ⟨by simp only [ysix, s]; exact h⟩
theorem yS7 {W w6 : World} {g T : Nat} {x0 x1 x2 x3 x4 x5 u0 u1 u2 u3 u4 u5 : Value} (hW : ysix W g u0 u1 u2 u3 u4 u5 = w6) (h : W.heap[g]? = some (.cells #[x0, x1, x2, x3, x4, x5] T (0, 0))) : Aside0 (w6.heap[g]? = some (.cells #[u0, u1, u2, u3, u4, u5] T (0, 0))) := by
  subst hW
  exact ⟨blk_put (blk_put (blk_put (blk_put (blk_put (blk_put h 0 u0 rfl) 1 u1 rfl) 2 u2 rfl) 3 u3 rfl) 4 u4 rfl) 5 u5 rfl⟩
theorem yH7 {w W w6 : World} {g : Nat} {u0 u1 u2 u3 u4 u5 : Value} (hW : ysix W g u0 u1 u2 u3 u4 u5 = w6) (h : Below w.heap.size w W) (hg : w.heap.size ≤ g) : Aside0 (Below w.heap.size w w6) := by
  subst hW
  exact ⟨by unfold ysix; exact zs (zs (zs (zs (zs (zs h hg) hg) hg) hg) hg) hg⟩
theorem yD1 {α : Type} {k : Kd α} {t base nd : Nat} {ok : Nat → Prop} {v : Value} {W w' : World} {l : List α} (hw : w' = W.drewN nd) (h : Kd.R k t W base ok v l) : Aside0 (Kd.R k t w' base ok v l) := by
  subst hw; exact ⟨Kd.R_drewN h nd⟩
theorem yD2 {W w' : World} {l nd : Nat} {o : Obj} (hw : w' = W.drewN nd) (h : W.heap[l]? = some o) : Aside0 (w'.heap[l]? = some o) := by
  subst hw; exact ⟨blk_drewN h nd⟩
theorem yD3 {w W w' : World} {b nd : Nat} (hw : w' = W.drewN nd) (h : Below b w W) : Aside0 (Below b w w') := by
  subst hw; exact ⟨pw_below_drewN h nd⟩
mutual
def spec_StepOpt.j0 : Nat → List Int → Bool → Int → Int → Int → Int → Int → Int → Int → Int → Int → Int → Int → List Int → List Int → List Int → Int → Int → Int → Option (List Int × List Int × List Int × Int × Int × Int × Bool)
 | 0, _, _, _, _, _, _, _, _, _, _, _, _, _, _, _, _, _, _, _ => none
 | k + 1, x2, d0, D, E, I, J, L, M, O, T, U, X, a0, q, u, x, l, a, y => if d0 = true then (some (([] : List Int), ([] : List Int), ([] : List Int), 0, 0, 0, false)) else ((spec_l3Ints.f q).bind fun z => ((spec_l3Ints.f u).bind fun A => ((spec_l3Ints.f x).bind fun B => ((spec_l15Grad.f k x2).bind fun b0 => (if b0 = true then (spec_StepOpt.l0 k x2 (([] : List Int)) 0 D E I J L M O T U X a0 q u x l a y z A B (wrap64 (l + 1)) a y) else (if a > 1 then (some (z, A, B, wrap64 (l + 1), wrap64 (Int.tdiv a 2), 0, true)) else (some (z, A, B, wrap64 (l + 1), a, 0, true))))))))
def spec_StepOpt.l0 : Nat → List Int → List Int → Int → Int → Int → Int → Int → Int → Int → Int → Int → Int → Int → Int → List Int → List Int → List Int → Int → Int → Int → List Int → List Int → List Int → Int → Int → Int → Option (List Int × List Int × List Int × Int × Int × Int × Bool)
 | 0, _, _, _, _, _, _, _, _, _, _, _, _, _, _, _, _, _, _, _, _, _, _, _, _, _, _ => none
 | k + 1, x2, x9, e0, q, u, x, y, z, A, B, D, E, a, I, J, L, M, O, l, T, U, X, a0, b0, c0, d0 => if e0 < (x2.length : Int) then (if 0 ≤ e0 then ((spec_Near.f (rd x2 e0) l).bind fun i0 => (if x9.length < 17592186044416 then (spec_StepOpt.l0 k x2 (x9 ++ [i0]) (wrap64 (e0 + 1)) q u x y z A B D E a I J L M O l T U X a0 b0 c0 d0) else (none))) else (none)) else (if a > 0 then ((spec_Clip.f k x9 a).bind fun j0 => (spec_StepOpt.j2 k j0 q u x y z A B D E a I J L M O l T U X a0 b0 c0 d0)) else (spec_StepOpt.j2 k x9 q u x y z A B D E a I J L M O l T U X a0 b0 c0 d0))
def spec_StepOpt.j2 : Nat → List Int → Int → Int → Int → Int → Int → Int → Int → Int → Int → Int → Int → List Int → List Int → List Int → Int → Int → Int → List Int → List Int → List Int → Int → Int → Int → Option (List Int × List Int × List Int × Int × Int × Int × Bool)
 | 0, _, _, _, _, _, _, _, _, _, _, _, _, _, _, _, _, _, _, _, _, _, _, _, _ => none
 | k + 1, x9, y, a, l, q, u, z, A, B, D, E, I, J, L, M, x, O, T, U, X, a0, b0, c0, d0 => (spec_Rate.f a l q u x).bind fun e0 => (spec_StepOpt.l1 k x9 e0 0 y a l q u z A B D E I J L M x O T U X a0 b0 c0 d0)
def spec_StepOpt.l1 : Nat → List Int → Int → Int → Int → Int → Int → Int → Int → Int → Int → Int → Int → Int → Int → List Int → List Int → List Int → Int → Int → Int → List Int → List Int → List Int → Int → Int → Int → Option (List Int × List Int × List Int × Int × Int × Int × Bool)
 | 0, _, _, _, _, _, _, _, _, _, _, _, _, _, _, _, _, _, _, _, _, _, _, _, _, _, _ => none
 | k + 1, x9, f0, X, u, x, y, z, A, B, D, E, a, I, J, l, a0, b0, c0, d0, e0, L, M, O, T, U, q => if X < (x9.length : Int) then (if 0 ≤ X then (if X < (l.length : Int) then (if a > 0 then ((spec_Near.f (wrap64 (a * (rd l X))) 65536).bind fun i0 => ((spec_Near.f (wrap64 (f0 * i0)) 65536).bind fun j0 => ((spec_l15Bring.f (wrap64 ((rd l X) - j0))).bind fun l0 => (spec_StepOpt.j4 k x9 f0 X l0 u x y z A B D E a I J l a0 b0 c0 d0 e0 L M O T U q)))) else (spec_StepOpt.j4 k x9 f0 X (rd l X) u x y z A B D E a I J l a0 b0 c0 d0 e0 L M O T U q)) else (none)) else (none)) else (if q < 1000000 then (spec_StepOpt.j6 k u x y z A B D E a I J L M O T U (wrap64 (q + 1))) else (spec_StepOpt.j6 k u x y z A B D E a I J L M O T U q))
def spec_StepOpt.j4 : Nat → List Int → Int → Int → Int → Int → Int → Int → Int → Int → Int → Int → Int → Int → Int → Int → List Int → List Int → List Int → Int → Int → Int → List Int → List Int → List Int → Int → Int → Int → Option (List Int × List Int × List Int × Int × Int × Int × Bool)
 | 0, _, _, _, _, _, _, _, _, _, _, _, _, _, _, _, _, _, _, _, _, _, _, _, _, _, _, _ => none
 | k + 1, x9, g0, l, i0, q, B, D, E, I, u, x, z, J, L, M, O, a, y, T, U, X, a0, b0, A, c0, d0, e0 => if 0 ≤ l then (if l < (a.length : Int) then (if q = 1 then (if l < (x9.length : Int) then ((spec_Near.f (wrap64 (g0 * (rd x9 l))) 65536).bind fun n0 => (spec_StepOpt.j5 k x9 g0 l (wrap64 (i0 - n0)) (rd a l) q B D E I u x z J L M O a y T U X a0 b0 A c0 d0 e0)) else (none)) else (if q = 2 then ((spec_Near.f (wrap64 (u * (rd a l))) 65536).bind fun o0 => (if l < (x9.length : Int) then ((spec_l14Clip.f (wrap64 (o0 + (rd x9 l))) (-4294967296) 4294967296).bind fun j0 => ((spec_Near.f (wrap64 (g0 * j0)) 65536).bind fun p0 => (spec_StepOpt.j5 k x9 g0 l (wrap64 (i0 - p0)) j0 q B D E I u x z J L M O a y T U X a0 b0 A c0 d0 e0))) else (none))) else (if q = 3 then (if l < (x9.length : Int) then ((spec_Near.f (wrap64 ((wrap64 (u * (rd a l))) + (wrap64 ((wrap64 (65536 - u)) * (rd x9 l))))) 65536).bind fun l0 => (if l < (y.length : Int) then ((spec_Near.f (wrap64 ((rd x9 l) * (rd x9 l))) 65536).bind fun q0 => ((spec_Near.f (wrap64 ((wrap64 (x * (rd y l))) + (wrap64 ((wrap64 (65536 - x)) * q0)))) 65536).bind fun m0 => ((spec_Root.f k (wrap64 (65536 * m0))).bind fun s0 => ((spec_Near.f (wrap64 (g0 * l0)) (wrap64 (s0 + z))).bind fun t0 => (if l < (A.length : Int) then (spec_StepOpt.j5 k x9 g0 l (wrap64 (i0 - t0)) l0 q B D E I u x z J L M O a y T U X a0 b0 (A.set (l : Int).toNat m0) c0 d0 e0) else (none)))))) else (none))) else (none)) else (spec_StepOpt.j5 k x9 g0 l i0 (rd a l) q B D E I u x z J L M O a y T U X a0 b0 A c0 d0 e0)))) else (none)) else (none)
def spec_StepOpt.j5 : Nat → List Int → Int → Int → Int → Int → Int → Int → Int → Int → Int → Int → Int → Int → Int → Int → Int → List Int → List Int → List Int → Int → Int → Int → List Int → List Int → List Int → Int → Int → Int → Option (List Int × List Int × List Int × Int × Int × Int × Bool)
 | 0, _, _, _, _, _, _, _, _, _, _, _, _, _, _, _, _, _, _, _, _, _, _, _, _, _, _, _, _ => none
 | k + 1, x9, g0, a, i0, j0, u, x, y, z, A, B, D, E, I, J, L, M, O, T, U, X, a0, l, q, b0, c0, d0, e0 => if 0 ≤ a then (if a < (q.length : Int) then ((spec_l15Bring.f i0).bind fun f0 => (if a < (l.length : Int) then (spec_StepOpt.l1 k x9 g0 (wrap64 (a + 1)) u x y z A B D E I J L M O T U X a0 (l.set (a : Int).toNat f0) (q.set (a : Int).toNat j0) b0 c0 d0 e0) else (none))) else (none)) else (none)
def spec_StepOpt.j6 : Nat → Int → Int → Int → Int → Int → Int → Int → Int → Int → Int → Int → List Int → List Int → List Int → Int → Int → Int → Option (List Int × List Int × List Int × Int × Int × Int × Bool)
 | 0, _, _, _, _, _, _, _, _, _, _, _, _, _, _, _, _, _ => none
 | k + 1, A, B, D, E, I, J, L, M, O, T, l, q, u, x, y, z, a => if l > 0 then (spec_StepOpt.j7 k (decide (a ≥ l)) q u x y z a) else (spec_StepOpt.j7 k false q u x y z a)
def spec_StepOpt.j7 : Nat → Bool → List Int → List Int → List Int → Int → Int → Int → Option (List Int × List Int × List Int × Int × Int × Int × Bool)
 | 0, _, _, _, _, _, _, _ => none
 | k + 1, z, l, q, u, x, a, y => if z = true then (if a < 65536 then (some (l, q, u, x, wrap64 (a * 2), 0, true)) else (some (l, q, u, x, a, 0, true))) else (some (l, q, u, x, a, y, true))
end
def spec_StepOpt.f (k : Nat) (u : Int) (x : Int) (y : Int) (z : Int) (A : Int) (B : Int) (D : Int) (E : Int) (I : Int) (J : Int) (a : Int) (l : List Int) (L : List Int) (M : List Int) (q : Int) (O : Int) (T : Int) (U : List Int) : Option (List Int × List Int × List Int × Int × Int × Int × Bool) := (spec_RuleOk.f u x y z A B D E I J a).bind fun X => (if X = true then ((spec_OptOk.f k l L M q O T).bind fun a0 => (if a0 = true then (if q = 1000000 then (spec_StepOpt.j0 k U true u x y z A B D E I J a l L M q O T) else (spec_StepOpt.j0 k U ((U.length : Int) != (l.length : Int)) u x y z A B D E I J a l L M q O T)) else (spec_StepOpt.j0 k U true u x y z A B D E I J a l L M q O T))) else (spec_StepOpt.j0 k U true u x y z A B D E I J a l L M q O T))
def spec_StepOpt.T3 : Bool × List (List Nat × List Nat) := (true, [([], []), ([0], [0]), ([1], [1]), ([], []), ([3], [3]), ([4, 2], [4]), ([], []), ([6], [6]), ([7, 5], [7]), ([], []), ([9], [9]), ([10], [10]), ([], []), ([12], [12]), ([], []), ([14], [14]), ([2, 5, 8, 11, 13, 15], [2, 5, 8, 11, 13, 15]), ([], []), ([17, 16, 8, 0, 1, 2, 3, 4, 5, 6, 7, 8, 9, 10, 11, 12, 13, 14, 15, 16, 17], [16, 17])])
def spec_StepOpt.B3 : List Nat := [0, 1, 3, 0, 8, 31, 0, 64, 255, 0, 512, 1536, 0, 4096, 0, 16384, 65535, 0, 262143]
theorem spec_StepOpt.tab3 : rtab .any (opsOf Try.f8 3) = spec_StepOpt.T3 := by kernel_rfl
theorem spec_StepOpt.bits3 : waitsOk spec_StepOpt.T3.2 spec_StepOpt.B3 = true := by kernel_rfl
def spec_StepOpt.T13 : Bool × List (List Nat × List Nat) := (true, [([], []), ([], []), ([], []), ([1, 2], [1, 2]), ([3], [3]), ([], []), ([5], [5]), ([4, 6], [4, 6]), ([7], [7]), ([0, 8, 7], [0, 8]), ([9, 9, 0, 1, 2, 3, 4, 5, 6, 7, 8, 9], [0, 9])])
def spec_StepOpt.B13 : List Nat := [0, 0, 0, 6, 14, 0, 32, 126, 254, 511, 1023]
theorem spec_StepOpt.tab13 : rtab .any (opsOf Try.f8 13) = spec_StepOpt.T13 := by kernel_rfl
theorem spec_StepOpt.bits13 : waitsOk spec_StepOpt.T13.2 spec_StepOpt.B13 = true := by kernel_rfl
def spec_StepOpt.T28 : Bool × List (List Nat × List Nat) := (true, [([], []), ([0], [0]), ([], []), ([1, 2], [1, 2]), ([3], [3]), ([], []), ([], []), ([5, 6], [5, 6]), ([7], [7]), ([4, 8], [4, 8]), ([9, 4], [9]), ([10, 10, 0, 1, 2, 3, 4, 5, 6, 7, 8, 9, 10], [2, 10])])
def spec_StepOpt.B28 : List Nat := [0, 1, 0, 7, 15, 0, 0, 96, 224, 511, 1023, 2047]
theorem spec_StepOpt.tab28 : rtab .any (opsOf Try.f8 28) = spec_StepOpt.T28 := by kernel_rfl
theorem spec_StepOpt.bits28 : waitsOk spec_StepOpt.T28.2 spec_StepOpt.B28 = true := by kernel_rfl
def spec_StepOpt.T31 : Bool × List (List Nat × List Nat) := (true, [([], []), ([0], [0]), ([], []), ([1, 2], [1, 2]), ([], []), ([4], [4]), ([5], [5]), ([], []), ([], []), ([7, 8], [7, 8]), ([9], [9]), ([6, 10], [6, 10]), ([3, 11], [3, 11]), ([12], [12]), ([13, 13, 0, 1, 2, 3, 4, 5, 6, 7, 8, 9, 10, 11, 12, 13], [2, 13])])
def spec_StepOpt.B31 : List Nat := [0, 1, 0, 7, 0, 16, 48, 0, 0, 384, 896, 2032, 4095, 8191, 16383]
theorem spec_StepOpt.tab31 : rtab .any (opsOf Try.f8 31) = spec_StepOpt.T31 := by kernel_rfl
theorem spec_StepOpt.bits31 : waitsOk spec_StepOpt.T31.2 spec_StepOpt.B31 = true := by kernel_rfl
def spec_StepOpt.T32 : Bool × List (List Nat × List Nat) := (true, [([], []), ([0], [0]), ([], []), ([2], [2]), ([], []), ([3, 4], [3, 4]), ([5], [5]), ([1, 6], [1, 6]), ([], []), ([8], [8]), ([9], [9]), ([], []), ([], []), ([11, 12], [11, 12]), ([13], [13]), ([], []), ([], []), ([15, 16], [15, 16]), ([17], [17]), ([14, 18], [14, 18]), ([19], [19]), ([10, 20], [10, 20]), ([7, 21], [7, 21]), ([22, 20], [22]), ([23, 23, 0, 1, 2, 3, 4, 5, 6, 7, 8, 9, 10, 11, 12, 13, 14, 15, 16, 17, 18, 19, 20, 21, 22, 23], [23])])
def spec_StepOpt.B32 : List Nat := [0, 1, 0, 4, 0, 28, 60, 127, 0, 256, 768, 0, 0, 6144, 14336, 0, 0, 98304, 229376, 522240, 1046528, 2096896, 4194303, 8388607, 16777215]
theorem spec_StepOpt.tab32 : rtab .any (opsOf Try.f8 32) = spec_StepOpt.T32 := by kernel_rfl
theorem spec_StepOpt.bits32 : waitsOk spec_StepOpt.T32.2 spec_StepOpt.B32 = true := by kernel_rfl
def spec_StepOpt.T33 : Bool × List (List Nat × List Nat) := (true, [([], []), ([], []), ([], []), ([1, 2], [1, 2]), ([], []), ([4], [4]), ([5], [5]), ([], []), ([7], [7]), ([6, 8], [6, 8]), ([3, 9, 6], [3, 9]), ([0, 10], [0, 10]), ([11, 10, 0, 1, 2, 3, 4, 5, 6, 7, 8, 9, 10, 11], [0, 11])])
def spec_StepOpt.B33 : List Nat := [0, 0, 0, 6, 0, 16, 48, 0, 128, 496, 1022, 2047, 4095]
theorem spec_StepOpt.tab33 : rtab .any (opsOf Try.f8 33) = spec_StepOpt.T33 := by kernel_rfl
theorem spec_StepOpt.bits33 : waitsOk spec_StepOpt.T33.2 spec_StepOpt.B33 = true := by kernel_rfl
theorem spec_StepOpt.calls (k) (I0) (N0) (O0) (R0) (S0) (D0) (G0) (T0) (J0) (L0) (B0) (A1) (m1) (t0 : List Int) (n1) (j1) (o0 : List Int) (i1) (e1) (n0 : List Int) (d0) (e0) (p0) (A2) (c2) (l2 : List Int) (r1 : List Int) (r2 : List Int) (r3 : List Int) (r4) (r5) (r6) (r7 : Bool) (w) (a9u : Kd.C (Kd.int .i64) w A1 t0.length t0) (a9x : t0.length ≤ m1) (a9y : Kd.C (Kd.int .i64) w n1 o0.length o0) (a9z : o0.length ≤ j1) (b0a : Kd.C (Kd.int .i64) w i1 n0.length n0) (b0b : n0.length ≤ e1) (hr2 : Kd.C (Kd.int .i64) w A2 l2.length l2) (hc2 : l2.length ≤ c2) (h : spec_StepOpt.f k I0 N0 O0 R0 S0 D0 G0 T0 J0 L0 B0 t0 o0 n0 d0 e0 p0 l2 = some (r1, r2, r3, r4, r5, r6, r7)) :
 Calls Try.prog 8 #[.agg #[.int .i64 I0, .int .i64 N0, .int .i64 O0, .int .i64 R0, .int .i64 S0, .int .i64 D0, .int .i64 G0, .int .i64 T0, .int .i64 J0, .int .i64 L0, .int .i64 B0], .agg #[.slice A1 t0.length m1, .slice n1 o0.length j1, .slice i1 n0.length e1, .int .i64 d0, .int .i64 e0, .int .i64 p0], .slice A2 l2.length c2] w fun e w' => ∃ v0_ v1_ v2_ : Value, e = .returned (.tuple #[.agg #[v0_, v1_, v2_, .int .i64 r4, .int .i64 r5, .int .i64 r6], .bool r7]) ∧ Kd.R (Kd.int .i64) 3 w' w.heap.size (fun k_ => some k_ ≠ (v1_ : Value).ownBlock ∧ some k_ ≠ (v2_ : Value).ownBlock) v0_ r1 ∧ Kd.R (Kd.int .i64) 3 w' w.heap.size (fun k_ => some k_ ≠ (v0_ : Value).ownBlock ∧ some k_ ≠ (v2_ : Value).ownBlock) v1_ r2 ∧ Kd.R (Kd.int .i64) 3 w' w.heap.size (fun k_ => some k_ ≠ (v0_ : Value).ownBlock ∧ some k_ ≠ (v1_ : Value).ownBlock) v2_ r3 ∧ Below w.heap.size w w' := by
 have e6g := Try.underlying35
 have e6j := Try.underlying30
 have e6l := Try.underlying33
 have V2 := zK a9u
 have f3 := zK a9x
 clear a9u a9x
 have b2 := zK a9y
 have n2 := zK a9z
 clear a9y a9z
 have O1 := zK b0a
 have U1 := zK b0b
 clear b0a b0b
 have HR2 := zK hr2
 have HC2 := zK hc2
 clear hr2 hc2
 have HB := zK (Below.refl w.heap.size w)
 have H : ((spec_RuleOk.f I0 N0 O0 R0 S0 D0 G0 T0 J0 L0 B0).bind fun a3c => (if a3c = true then ((spec_OptOk.f k t0 o0 n0 d0 e0 p0).bind fun a3d => (if a3d = true then (if d0 = 1000000 then (spec_StepOpt.j0 k l2 true I0 N0 O0 R0 S0 D0 G0 T0 J0 L0 B0 t0 o0 n0 d0 e0 p0) else (spec_StepOpt.j0 k l2 ((l2.length : Int) != (t0.length : Int)) I0 N0 O0 R0 S0 D0 G0 T0 J0 L0 B0 t0 o0 n0 d0 e0 p0)) else (spec_StepOpt.j0 k l2 true I0 N0 O0 R0 S0 D0 G0 T0 J0 L0 B0 t0 o0 n0 d0 e0 p0))) else (spec_StepOpt.j0 k l2 true I0 N0 O0 R0 S0 D0 G0 T0 J0 L0 B0 t0 o0 n0 d0 e0 p0))) = some (r1, r2, r3, r4, r5, r6, r7) := h
 clear h
 have HC4 := zK H
 clear H
 go_enter Try.func8, Try.ntmps8
 go_upto_region 1 with (first | ((with_reducible refine gd 3 rfl ?_); (try (refine gate_guard (by rfl) ?_; dsimp only)); refine zJ 3 #[.int .i64 I0, .int .i64 N0, .int .i64 O0, .int .i64 R0, .int .i64 S0, .int .i64 D0, .int .i64 G0, .int .i64 T0, .int .i64 J0, .int .i64 L0, .int .i64 B0] 35 ?_; intro f0 hg w5 hbox hb; have X := z8 hb; have a0 := zK (hbox); have b0 := z9 hg; have c0 := z9 hg; revert X a0 b0 c0; clear HB; intro HB l e2y c1l; clear hb hbox hg) | ((with_reducible refine gd 4 rfl ?_); (try (refine gate_guard (by rfl) ?_; dsimp only)); refine zJ 4 #[.slice A1 t0.length m1, .slice n1 o0.length j1, .slice i1 n0.length e1, .int .i64 d0, .int .i64 e0, .int .i64 p0] 30 ?_; intro U hg w6 hbox hb; have X := z7 l hb; have a0 := z8 hb; have b0 := zK (hbox); have c0 := z9 hg; have i0 := z9 hg; have m0 := zHH hg l; have x0 := zGG hg l; revert X a0 b0 c0 i0 m0 x0; clear l HB; intro l HB a e2z c1m E1 F1; clear hb hbox hg) | ((with_reducible refine gd 6 rfl ?_); (try (refine gate_guard (by rfl) ?_; dsimp only)); refine zJ 6 #[.slice none 0 0, .slice none 0 0, .slice none 0 0, .int .i64 0, .int .i64 0, .int .i64 0] 30 ?_; intro d1 hg w7 hbox hb; have X := z7 l hb; have a0 := z7 a hb; have b0 := z8 hb; have c0 := zK (hbox); have i0 := z9 hg; have m0 := z9 hg; have x0 := zHH hg l; have C0 := zGG hg l; have V0 := zHH hg a; have M1 := zGG hg a; revert X a0 b0 c0 i0 m0 x0 C0 V0 M1; clear l a HB; intro l a HB u e3a c1n f1 g1 G1 I1; clear hb hbox hg))
 (try simp only [Act.put, zq1, zq2, zq3])
 go_cut [36] (fun v36 wc => ∃ (kq : Nat) (a8 : Bool), v36 = .bool a8 ∧ Aside0 (spec_StepOpt.j0 kq l2 a8 I0 N0 O0 R0 S0 D0 G0 T0 J0 L0 B0 t0 o0 n0 d0 e0 p0 = some (r1, r2, r3, r4, r5, r6, r7)) ∧ Aside0 (kq ≤ k) ∧ Aside0 (wc.heap[f0]? = some (.cells #[.int .i64 I0, .int .i64 N0, .int .i64 O0, .int .i64 R0, .int .i64 S0, .int .i64 D0, .int .i64 G0, .int .i64 T0, .int .i64 J0, .int .i64 L0, .int .i64 B0] 35 (0, 0))) ∧ Aside0 (wc.heap[U]? = some (.cells #[(.slice A1 t0.length m1), (.slice n1 o0.length j1), (.slice i1 n0.length e1), .int .i64 d0, .int .i64 e0, .int .i64 p0] 30 (0, 0))) ∧ Aside0 (wc.heap[d1]? = some (.cells #[(.slice none 0 0), (.slice none 0 0), (.slice none 0 0), .int .i64 0, .int .i64 0, .int .i64 0] 30 (0, 0))) ∧ Aside0 (Below w.heap.size w wc))
 case first => as_aux_lemma =>
  have H := HC4.out
  clear HC4
  replace H := z6 H
  obtain ⟨a3c, A80, H⟩ := H
  have A8 := zK A80
  clear A80
  by_cases c9 : a3c = true
  rotate_left
  · as_aux_lemma =>
    replace c9 := Bool.eq_false_iff.mpr c9
    subst c9
    rw [if_neg (show ¬ (false = true) by decide)] at H
    have H' := zK H
    clear H
    have e3b := E1.out
    have e3c := F1.out
    have e3d := f1.out
    have e3e := g1.out
    obtain ⟨b2c, b2d, b2e, b2f, b2g, b2j, b2l, b2m, b2n, b2o, a3e, b2p, b2q, b2s, b2t, b2u, b2x, b2y, b2z, b3a, b3b, a3f⟩ := zc11 l
    go_wp2_with (first | ((with_reducible refine gc 33 rfl ?_); refine zF 17 Try.func33 #[.agg #[.int .i64 I0, .int .i64 N0, .int .i64 O0, .int .i64 R0, .int .i64 S0, .int .i64 D0, .int .i64 G0, .int .i64 T0, .int .i64 J0, .int .i64 L0, .int .i64 B0]] rfl zL ?_; (with_reducible refine (spec_RuleOk.calls I0 N0 O0 R0 S0 D0 G0 T0 J0 L0 B0 false _ A8.out).mono ?_); rintro e w39 ⟨rfl, hb⟩; refine ⟨_, rfl, ?_⟩; have X := z7 l hb; have a0 := z7 a hb; have b0 := z7 u hb; have c0 := z8 hb; revert X a0 b0 c0; clear l a u HB; intro l a u HB))
    go_meet
    case rel => exact ⟨_, (true), zR, H', ⟨by first | omega | exact Nat.le_refl _⟩, ⟨zM l⟩, ⟨zM a⟩, ⟨zM u⟩, ⟨zB⟩⟩
  subst c9
  rw [if_pos rfl] at H
  replace H := z6 H
  obtain ⟨a3d, b9f, H⟩ := H
  have A10 := zK b9f
  clear b9f
  by_cases G7 : a3d = true
  rotate_left
  · as_aux_lemma =>
    replace G7 := Bool.eq_false_iff.mpr G7
    subst G7
    rw [if_neg (show ¬ (false = true) by decide)] at H
    have H' := zK H
    clear H
    have e3f := E1.out
    have e3g := F1.out
    have e3j := f1.out
    have e3l := g1.out
    obtain ⟨b3c, b3d, b3e, b3f, b3g, b3j, b3l, b3m, b3n, b3o, a3g, b3p, b3q, b3s, b3t, b3u, b3x, b3y, b3z, b4a, b4b, a3j⟩ := zc11 l
    go_wp2_with (first | ((with_reducible refine gc 33 rfl ?_); refine zF 17 Try.func33 #[.agg #[.int .i64 I0, .int .i64 N0, .int .i64 O0, .int .i64 R0, .int .i64 S0, .int .i64 D0, .int .i64 G0, .int .i64 T0, .int .i64 J0, .int .i64 L0, .int .i64 B0]] rfl zL ?_; (with_reducible refine (spec_RuleOk.calls I0 N0 O0 R0 S0 D0 G0 T0 J0 L0 B0 true _ A8.out).mono ?_); rintro e w32 ⟨rfl, hb⟩; refine ⟨_, rfl, ?_⟩; have X := z7 l hb; have a0 := z7 a hb; have b0 := z7 u hb; have c0 := z8 hb; revert X a0 b0 c0; clear l a u HB; intro l a u HB; have e3m := G1.out; have e3n := I1.out; obtain ⟨b4c, b4d, b4e, b4f, b4g, b4j, b4l, b4m, b4n, b4o, b4p, b4q⟩ := zc6 a) | (go_at_call 30; (with_reducible refine (spec_OptOk.calls k _ _ t0 _ _ o0 _ _ n0 d0 e0 p0 false _ ?side1 ?side2 ?side3 ?side4 ?side5 ?side6 A10.out).mono ?_); (case side1 => exact zS V2); (case side2 => exact f3.out); (case side3 => exact zS b2); (case side4 => exact n2.out); (case side5 => exact zS O1); (case side6 => exact U1.out); rintro e w35 ⟨rfl, hb⟩; have X := z7 l hb; have a0 := z7 a hb; have b0 := z7 u hb; have c0 := z8 hb; revert X a0 b0 c0; clear l a u HB; intro l a u HB))
    go_meet
    case rel => exact ⟨_, (true), zR, H', ⟨by first | omega | exact Nat.le_refl _⟩, ⟨zM l⟩, ⟨zM a⟩, ⟨zM u⟩, ⟨zB⟩⟩
  subst G7
  rw [if_pos rfl] at H
  by_cases I7 : d0 = 1000000
  · as_aux_lemma =>
    rw [if_pos I7] at H
    have y4 := beq_iff_eq.mpr I7
    have b0d := bne_eq_false_iff_eq.mpr I7
    clear I7
    (first | rw [y4] | (simp only [i64_w, i32_w]; rw [y4]) | skip)
    have H' := zK H
    clear H
    have e3o := E1.out
    have e3p := F1.out
    have e3q := f1.out
    have e3s := g1.out
    obtain ⟨b4s, b4t, b4u, b4x, b4y, b4z, b5a, b5b, b5c, b5d, a3l, b5e, b5f, b5g, b5j, b5l, b5m, b5n, b5o, b5p, b5q, a3m⟩ := zc11 l
    go_wp2_with (first | ((with_reducible refine gc 33 rfl ?_); refine zF 17 Try.func33 #[.agg #[.int .i64 I0, .int .i64 N0, .int .i64 O0, .int .i64 R0, .int .i64 S0, .int .i64 D0, .int .i64 G0, .int .i64 T0, .int .i64 J0, .int .i64 L0, .int .i64 B0]] rfl zL ?_; (with_reducible refine (spec_RuleOk.calls I0 N0 O0 R0 S0 D0 G0 T0 J0 L0 B0 true _ A8.out).mono ?_); rintro e w16 ⟨rfl, hb⟩; refine ⟨_, rfl, ?_⟩; have X := z7 l hb; have a0 := z7 a hb; have b0 := z7 u hb; have c0 := z8 hb; revert X a0 b0 c0; clear l a u HB; intro l a u HB; have e3t := G1.out; have e3u := I1.out; obtain ⟨b5s, b5t, b5u, b5x, b5y, b5z, b6a, b6b, b6c, b6d, b6e, b6f⟩ := zc6 a) | (go_at_call 30; (with_reducible refine (spec_OptOk.calls k _ _ t0 _ _ o0 _ _ n0 d0 e0 p0 true _ ?side1 ?side2 ?side3 ?side4 ?side5 ?side6 A10.out).mono ?_); (case side1 => exact zS V2); (case side2 => exact f3.out); (case side3 => exact zS b2); (case side4 => exact n2.out); (case side5 => exact zS O1); (case side6 => exact U1.out); rintro e w19 ⟨rfl, hb⟩; have X := z7 l hb; have a0 := z7 a hb; have b0 := z7 u hb; have c0 := z8 hb; revert X a0 b0 c0; clear l a u HB; intro l a u HB; obtain ⟨b6g, b6j, b6l, b6m, b6n, b6o, b6p, b6q, b6s, b6t, b6u, b6x⟩ := zc6 a))
    go_meet
    case rel => exact ⟨_, (true), zR, H', ⟨by first | omega | exact Nat.le_refl _⟩, ⟨zM l⟩, ⟨zM a⟩, ⟨zM u⟩, ⟨zB⟩⟩
  rw [if_neg I7] at H
  have y4 := beq_eq_false_iff_ne.mpr I7
  have b0d := bne_iff_ne.mpr I7
  (first | rw [y4] | (simp only [i64_w, i32_w]; rw [y4]) | skip)
  have H' := zK H
  clear H
  have e3x := E1.out
  have e3y := F1.out
  have e3z := f1.out
  have e4a := g1.out
  obtain ⟨b6y, b6z, b7a, b7b, b7c, b7d, b7e, b7f, b7g, b7j, a3n, b7l, b7m, b7n, b7o, b7p, b7q, b7s, b7t, b7u, b7x, a3o⟩ := zc11 l
  go_wp2_with (first | ((with_reducible refine gc 33 rfl ?_); refine zF 17 Try.func33 #[.agg #[.int .i64 I0, .int .i64 N0, .int .i64 O0, .int .i64 R0, .int .i64 S0, .int .i64 D0, .int .i64 G0, .int .i64 T0, .int .i64 J0, .int .i64 L0, .int .i64 B0]] rfl zL ?_; (with_reducible refine (spec_RuleOk.calls I0 N0 O0 R0 S0 D0 G0 T0 J0 L0 B0 true _ A8.out).mono ?_); rintro e w24 ⟨rfl, hb⟩; refine ⟨_, rfl, ?_⟩; have X := z7 l hb; have a0 := z7 a hb; have b0 := z7 u hb; have c0 := z8 hb; revert X a0 b0 c0; clear l a u HB; intro l a u HB; have e4b := G1.out; have e4c := I1.out; obtain ⟨b7y, b7z, b8a, b8b, b8c, b8d, b8e, b8f, b8g, b8j, b8l, b8m⟩ := zc6 a) | (go_at_call 30; (with_reducible refine (spec_OptOk.calls k _ _ t0 _ _ o0 _ _ n0 d0 e0 p0 true _ ?side1 ?side2 ?side3 ?side4 ?side5 ?side6 A10.out).mono ?_); (case side1 => exact zS V2); (case side2 => exact f3.out); (case side3 => exact zS b2); (case side4 => exact n2.out); (case side5 => exact zS O1); (case side6 => exact U1.out); rintro e w27 ⟨rfl, hb⟩; have X := z7 l hb; have a0 := z7 a hb; have b0 := z7 u hb; have c0 := z8 hb; revert X a0 b0 c0; clear l a u HB; intro l a u HB; obtain ⟨b8n, b8o, b8p, b8q, b8s, b8t, b8u, b8x, b8y, b8z, b9a, b9b⟩ := zc6 a))
  go_meet
  case rel => exact ⟨_, (((l2.length : Int) != (t0.length : Int))), zR, H', ⟨by first | omega | exact Nat.le_refl _⟩, ⟨zM l⟩, ⟨zM a⟩, ⟨zM u⟩, ⟨zB⟩⟩
 case rest => as_aux_lemma =>
  clear HC4
  try clear c1
  try clear c2
  try clear p2
  try clear c3
  try clear c8
  try clear c9
  try clear G7
  try clear I7
  try clear y4
  try clear b0d
  try clear c13
  try clear c14
  try clear c17
  try clear c21
  try clear c22
  try clear c25
  try clear c29
  try clear c30
  try clear c33
  try clear D9
  try clear c37
  try clear b4s b4t a3l b4u b4x b4y b4z b5a b5b b5c b5d b5e b5f a3m b5g b5j b5l b5m b5n b5o b5p b5q
  try clear b5s b5t b5u b5x b5y b5z b6a b6b b6c b6d b6e b6f
  try clear b6g b6j b6l b6m b6n b6o b6p b6q b6s b6t b6u b6x
  try clear b6y b6z a3n b7a b7b b7c b7d b7e b7f b7g b7j b7l b7m a3o b7n b7o b7p b7q b7s b7t b7u b7x
  try clear b7y b7z b8a b8b b8c b8d b8e b8f b8g b8j b8l b8m
  try clear b8n b8o b8p b8q b8s b8t b8u b8x b8y b8z b9a b9b
  try clear b3c b3d a3g b3e b3f b3g b3j b3l b3m b3n b3o b3p b3q a3j b3s b3t b3u b3x b3y b3z b4a b4b
  try clear b4c b4d b4e b4f b4g b4j b4l b4m b4n b4o b4p b4q
  try clear b2c b2d a3e b2e b2f b2g b2j b2l b2m b2n b2o b2p b2q a3f b2s b2t b2u b2x b2y b2z b3a b3b
  obtain ⟨kq, a8, rfl, HA, d3, l, a, u, HB⟩ := hcut
  cases kq with
  | zero => exact absurd HA.out (by simp [spec_StepOpt.j0])
  | succ E9 =>
   have H := HA.out
   clear HA
   simp only [spec_StepOpt.j0] at H
   by_cases c40 : a8 = true
   · as_aux_lemma =>
     subst c40
     rw [if_pos rfl] at H
     simp only [Option.some.injEq, Prod.mk.injEq] at H
     obtain ⟨rfl, rfl, rfl, rfl, rfl, rfl, rfl⟩ := H
     have e4d := g1.out
     have e4e := f1.out
     have e4f := I1.out
     have e4g := G1.out
     obtain ⟨d5j, d5l, d5m, d5n, d5o, d5p, d5q, d5s, d5t, d5u, d5x, d5y⟩ := zc6 u
     go_wp2
     refine bodyPost_ret (results_ct rfl _ _ d1 30 #[.slice none 0 0, .slice none 0 0, .slice none 0 0, .int .i64 0, .int .i64 0, .int .i64 0] (0, 0) _ rfl (zW u) Try.underlying30 rfl (by kernel_rfl)) rfl ?_
     exact ⟨_, _, _, zE, by first | exact Kd.R_nil _ _ _ _ _ | exact Kd.N_nil _ _ _ _ _ | exact Kd.V_nil _ _ _ _ _ | exact Kd.Q_nil _ _ _ _ _ | exact Kd.S_nil _ _ _ _ _, by first | exact Kd.R_nil _ _ _ _ _ | exact Kd.N_nil _ _ _ _ _ | exact Kd.V_nil _ _ _ _ _ | exact Kd.Q_nil _ _ _ _ _ | exact Kd.S_nil _ _ _ _ _, by first | exact Kd.R_nil _ _ _ _ _ | exact Kd.N_nil _ _ _ _ _ | exact Kd.V_nil _ _ _ _ _ | exact Kd.Q_nil _ _ _ _ _ | exact Kd.S_nil _ _ _ _ _, zB⟩
   replace c40 := Bool.eq_false_iff.mpr c40
   subst c40
   rw [if_neg (show ¬ (false = true) by decide)] at H
   replace H := z6 H
   obtain ⟨U0, b9n, H⟩ := H
   have F9 := zK b9n
   clear b9n
   replace H := z6 H
   obtain ⟨M0, b9o, H⟩ := H
   have q5 := zK b9o
   clear b9o
   replace H := z6 H
   obtain ⟨E0, b9p, H⟩ := H
   have X3 := zK b9p
   clear b9p
   replace H := z6 H
   obtain ⟨c5s, b9q, H⟩ := H
   have A47 := zK b9q
   clear b9q
   by_cases c48 : c5s = true
   rotate_left
   · as_aux_lemma =>
     replace c48 := Bool.eq_false_iff.mpr c48
     subst c48
     rw [if_neg (show ¬ (false = true) by decide)] at H
     by_cases O5 : e0 > 1
     rotate_left
     · as_aux_lemma =>
       rw [if_neg O5] at H
       have b9t := z2 O5
       clear O5
       simp only [Option.some.injEq, Prod.mk.injEq] at H
       obtain ⟨rfl, rfl, rfl, rfl, rfl, rfl, rfl⟩ := H
       try go_wp2
       have X := zK (zd l.out)
       have a0 := zK (zd a.out)
       have b0 := zK (zd u.out)
       have c0 := zK (ze HB.out)
       revert X a0 b0 c0
       clear l a u HB
       intro l a u HB
       refine start_ (n := 19) (S := fun w' => w'.cell? ⟨U, 0, none⟩ = some (.slice A1 t0.length m1) ∧ w'.cell? ⟨U, 1, none⟩ = some (.slice n1 o0.length j1) ∧ w'.cell? ⟨U, 2, none⟩ = some (.slice i1 n0.length e1) ∧ w'.cell? ⟨U, 3, none⟩ = some (.int .i64 d0) ∧ w'.cell? ⟨U, 4, none⟩ = some (.int .i64 e0) ∧ w'.cell? ⟨U, 5, none⟩ = some (.int .i64 p0)) (ds := []) (bl 19 0) (by kernel_rfl) rfl (by kernel_rfl) ⟨zy a 0, zy a 1, zy a 2, zy a 3, zy a 4, zy a 5⟩ (fun hHeld => ?_); refine with_tabW spec_StepOpt.tab3 spec_StepOpt.bits3 (fun HT_ HW_ => ?_)
       generalize wc.drew = e6m at l a u HB hHeld ⊢
       refine zP 0 38 (bl 19 1) HT_ ?_
       refine zP 3 41 (bl 19 9) HT_ ?_
       refine zP 6 44 (bl 19 73) HT_ ?_
       refine zP 9 47 (bl 19 585) HT_ ?_
       refine zP 12 50 (bl 19 4681) HT_ ?_
       refine zP 14 52 (bl 19 21065) HT_ ?_
       refine zT 1 39 (bl 19 21067) rfl rfl HT_ HW_ hHeld (by rintro w' ⟨s0, s1, s2, s3, s4, s5⟩; go_simp; with_reducible rfl) ?_
       refine zT 4 42 (bl 19 21083) rfl rfl HT_ HW_ hHeld (by rintro w' ⟨s0, s1, s2, s3, s4, s5⟩; go_simp; with_reducible rfl) ?_
       refine zT 7 45 (bl 19 21211) rfl rfl HT_ HW_ hHeld (by rintro w' ⟨s0, s1, s2, s3, s4, s5⟩; go_simp; with_reducible rfl) ?_
       refine zT 10 48 (bl 19 22235) rfl rfl HT_ HW_ hHeld (by rintro w' ⟨s0, s1, s2, s3, s4, s5⟩; go_simp; with_reducible rfl) ?_
       refine zP 11 49 (bl 19 24283) HT_ ?_
       refine zT 13 51 (bl 19 32475) rfl rfl HT_ HW_ hHeld (by rintro w' ⟨s0, s1, s2, s3, s4, s5⟩; go_simp; with_reducible rfl) ?_
       refine zT 15 53 (bl 19 65243) rfl rfl HT_ HW_ hHeld (by rintro w' ⟨s0, s1, s2, s3, s4, s5⟩; go_simp; with_reducible rfl) ?_
       refine join_ (σ := Value × Value × Value × Nat) 1 (bl 19 262143) (fun s_ => [(40, s_.1), (43, s_.2.1), (46, s_.2.2.1), (8, .pointer (some ⟨s_.2.2.2, 0, none⟩)), (54, .agg #[s_.1, s_.2.1, s_.2.2.1, .int .i64 (wrap64 (d0 + 1)), .int .i64 e0, .int .i64 p0])]) (fun s_ w' => (w'.cell? ⟨U, 0, none⟩ = some (.slice A1 t0.length m1) ∧ w'.cell? ⟨U, 1, none⟩ = some (.slice n1 o0.length j1) ∧ w'.cell? ⟨U, 2, none⟩ = some (.slice i1 n0.length e1) ∧ w'.cell? ⟨U, 3, none⟩ = some (.int .i64 d0) ∧ w'.cell? ⟨U, 4, none⟩ = some (.int .i64 e0) ∧ w'.cell? ⟨U, 5, none⟩ = some (.int .i64 p0)) ∧ (Kd.R (Kd.int .i64) 3 w' w.heap.size (fun k_ => some k_ ≠ (s_.2.1 : Value).ownBlock ∧ some k_ ≠ (s_.2.2.1 : Value).ownBlock) s_.1 U0) ∧ (Kd.R (Kd.int .i64) 3 w' w.heap.size (fun k_ => some k_ ≠ (s_.1 : Value).ownBlock ∧ some k_ ≠ (s_.2.2.1 : Value).ownBlock) s_.2.1 M0) ∧ (Kd.R (Kd.int .i64) 3 w' w.heap.size (fun k_ => some k_ ≠ (s_.1 : Value).ownBlock ∧ some k_ ≠ (s_.2.1 : Value).ownBlock) s_.2.2.1 E0) ∧ (w'.heap[f0]? = some (.cells #[.int .i64 I0, .int .i64 N0, .int .i64 O0, .int .i64 R0, .int .i64 S0, .int .i64 D0, .int .i64 G0, .int .i64 T0, .int .i64 J0, .int .i64 L0, .int .i64 B0] 35 (0, 0))) ∧ (w'.heap[U]? = some (.cells #[.slice A1 t0.length m1, .slice n1 o0.length j1, .slice i1 n0.length e1, .int .i64 d0, .int .i64 e0, .int .i64 p0] 30 (0, 0))) ∧ (w'.heap[d1]? = some (.cells #[.slice none 0 0, .slice none 0 0, .slice none 0 0, .int .i64 0, .int .i64 0, .int .i64 0] 30 (0, 0))) ∧ (w'.heap[s_.2.2.2]? = some (.cells #[.slice none 0 0, .slice none 0 0, .slice none 0 0, .int .i64 0, .int .i64 0, .int .i64 0] 30 (0, 0))) ∧ (w.heap.size ≤ s_.2.2.2) ∧ (w.heap.size ≤ s_.2.2.2) ∧ (f0 ≠ s_.2.2.2) ∧ (s_.2.2.2 ≠ f0) ∧ (U ≠ s_.2.2.2) ∧ (s_.2.2.2 ≠ U) ∧ (d1 ≠ s_.2.2.2) ∧ (s_.2.2.2 ≠ d1) ∧ (Below w.heap.size w w')) ?_ ?_
       rotate_left
       · as_aux_lemma =>
         intro hCont
         refine two_ (i := 2) (j := 17) (Ni := some 40) (Nj := some 8) (bl 19 65247) (bl 19 196315) rfl rfl rfl rfl (two_of HT_.out (by kernel_rfl)) (by decide) (by decide) (fun K hK => ?_) (fun K hK => ?_)
         · as_aux_lemma =>
           skip
           refine goes_ Try.func34 (by kernel_rfl) rfl #[.slice A1 t0.length m1] (by rfl) rfl rfl zL ?_
           refine (spec_l3Ints.calls _ _ t0 U0 _ (zS V2) f3.out F9.out).mono ?_
           rintro e c5t ⟨v171, rfl, g0, hb⟩
           refine ⟨_, rfl, ?_⟩
           have X := zK (Kd.R_lower g0 (zz zB))
           have a0 := z7 l hb
           have b0 := z7 a hb
           have c0 := z7 u hb
           have i0 := z8 hb
           revert X a0 b0 c0 i0
           clear l a u HB
           intro z l a u HB
           (try clear hb)
           (try clear hb2)
           (try clear hk)
           (try clear hi)
           (try clear g0)
           refine hK.out _ _ ⟨zy a 0, zy a 1, zy a 2, zy a 3, zy a 4, zy a 5⟩ (fun hHeld => ?_)
           clear hK K
           refine zU 40 ?_
           refine two_ (i := 5) (j := 17) (Ni := some 43) (Nj := some 8) (bl 19 65279) (bl 19 196319) rfl rfl rfl rfl (two_of HT_.out (by kernel_rfl)) (by decide) (by decide) (fun K hK => ?_) (fun K hK => ?_)
           · as_aux_lemma =>
             skip
             refine goes_ Try.func34 (by kernel_rfl) rfl #[.slice n1 o0.length j1] (by rfl) rfl rfl zL ?_
             refine (spec_l3Ints.calls _ _ o0 M0 _ (zS b2) n2.out q5.out).mono ?_
             rintro e b9u ⟨v174, rfl, g0, hb⟩
             refine ⟨_, rfl, ?_⟩
             have X := zK (Kd.R_elder' (zkR z) (Kd.R_base g0) hb)
             have a0 := zK (Kd.R_lower (Kd.R_new' g0 (Kd.R_lt (zkR z))) (zz zB))
             have b0 := z7 l hb
             have c0 := z7 a hb
             have i0 := z7 u hb
             have m0 := z8 hb
             revert X a0 b0 c0 i0 m0
             clear z l a u HB
             intro z E l a u HB
             (try clear hb)
             (try clear hb2)
             (try clear hk)
             (try clear hi)
             (try clear g0)
             refine hK.out _ _ ⟨zy a 0, zy a 1, zy a 2, zy a 3, zy a 4, zy a 5⟩ (fun hHeld => ?_)
             clear hK K
             refine zU 43 ?_
             refine two_ (i := 8) (j := 17) (Ni := some 46) (Nj := some 8) (bl 19 65535) (bl 19 196351) rfl rfl rfl rfl (two_of HT_.out (by kernel_rfl)) (by decide) (by decide) (fun K hK => ?_) (fun K hK => ?_)
             · as_aux_lemma =>
               skip
               refine goes_ Try.func34 (by kernel_rfl) rfl #[.slice i1 n0.length e1] (by rfl) rfl rfl zL ?_
               refine (spec_l3Ints.calls _ _ n0 E0 _ (zS O1) U1.out X3.out).mono ?_
               rintro e a3s ⟨v177, rfl, g0, hb⟩
               refine ⟨_, rfl, ?_⟩
               have X := zK (Kd.R_elder' (zkR z) (Kd.R_base g0) hb)
               have a0 := zK (Kd.R_elder' (zkR E) (Kd.R_base g0) hb)
               have b0 := zK (Kd.R_lower (Kd.R_new' (Kd.R_new' g0 (Kd.R_lt (zkR z))) (Kd.R_lt (zkR E))) (zz zB))
               have c0 := z7 l hb
               have i0 := z7 a hb
               have m0 := z7 u hb
               have x0 := z8 hb
               revert X a0 b0 c0 i0 m0 x0
               clear z E l a u HB
               intro z E y0 l a u HB
               (try clear hb)
               (try clear hb2)
               (try clear hk)
               (try clear hi)
               (try clear g0)
               obtain ⟨c1p, c1q, b0g⟩ := Kd.R_slice y0.out
               (first | subst b0g | (injection b0g with f1_ f2_ f3_; have f4_ := f1_.symm; have f5_ := f3_.symm; clear f1_ f2_ f3_; subst f4_; subst f5_))
               obtain ⟨G3, I3, F2⟩ := Kd.R_slice E.out
               (first | subst F2 | (injection F2 with f1_ f2_ f3_; have f4_ := f1_.symm; have f5_ := f3_.symm; clear f1_ f2_ f3_; subst f4_; subst f5_))
               obtain ⟨J3, L3, G2⟩ := Kd.R_slice z.out
               (first | subst G2 | (injection G2 with f1_ f2_ f3_; have f4_ := f1_.symm; have f5_ := f3_.symm; clear f1_ f2_ f3_; subst f4_; subst f5_))
               refine hK.out _ _ ⟨zy a 0, zy a 1, zy a 2, zy a 3, zy a 4, zy a 5⟩ (fun hHeld => ?_)
               clear hK K
               refine zU 46 ?_
               refine zP 16 54 (bl 19 131071) HT_ ?_ (hr := fun w2_ => bld30 w2_ rfl rfl rfl rfl rfl rfl rfl)
               refine one_ (i := 17) (N := some 8) (bl 19 262143) rfl rfl (one_of HT_.out (by kernel_rfl)) (by decide) (fun K hK => ?_)
               refine box_step ?hg (N := 8) ?hd (cs := #[.slice none 0 0, .slice none 0 0, .slice none 0 0, .int .i64 0, .int .i64 0, .int .i64 0]) (t := 30) ?hr ?_; (case hd => rfl); (case hg => rfl); (case hr => first | (go_simp; done) | (go_simp; rfl))
               intro y hg e6n hbox hb
               have X := zK (Kd.R_below (zkR z) hb)
               have a0 := zK (Kd.R_below (zkR E) hb)
               have b0 := zK (Kd.R_below (zkR y0) hb)
               have c0 := z7 l hb
               have i0 := z7 a hb
               have m0 := z7 u hb
               have x0 := z8 hb
               have C0 := zK (hbox)
               have V0 := z9 hg
               have M1 := z9 hg
               have B1 := zHH hg l
               have C1 := zGG hg l
               have D1 := zHH hg a
               have N1 := zGG hg a
               have a2 := zHH hg u
               have l3 := zGG hg u
               revert X a0 b0 c0 i0 m0 x0 C0 V0 M1 B1 C1 D1 N1 a2 l3
               clear z E y0 l a u HB
               intro z E y0 l a u HB q t1 o1 I J x L O T
               clear hb hbox hg
               refine hK.out _ _ ⟨zy a 0, zy a 1, zy a 2, zy a 3, zy a 4, zy a 5⟩ (fun hHeld => ?_)
               clear hK K
               refine zU 8 ?_
               exact norm_ (by simp only [putAll, Act.put, zq1, zq2, zq3]) (hCont (.slice J3 U0.length L3, .slice G3 M0.length I3, .slice c1p E0.length c1q, y) _ ⟨hHeld, (Kd.R_mono (zlR z.out) (fun _ hk => ⟨hk.1.2, hk.2⟩)), (Kd.R_mono (zlR E.out) (fun _ hk => ⟨hk.1.2, hk.2⟩)), (Kd.R_mono (zlR y0.out) (fun _ hk => ⟨hk.1.2, hk.2⟩)), (zM l), (zM a), (zM u), (zM q), t1.out, o1.out, I.out, J.out, x.out, L.out, O.out, T.out, zB⟩)
             · as_aux_lemma =>
               skip
               refine box_step ?hg (N := 8) ?hd (cs := #[.slice none 0 0, .slice none 0 0, .slice none 0 0, .int .i64 0, .int .i64 0, .int .i64 0]) (t := 30) ?hr ?_; (case hd => rfl); (case hg => rfl); (case hr => first | (go_simp; done) | (go_simp; rfl))
               intro y hg a3s hbox hb
               have X := zK (Kd.R_below (zkR z) hb)
               have a0 := zK (Kd.R_below (zkR E) hb)
               have b0 := z7 l hb
               have c0 := z7 a hb
               have i0 := z7 u hb
               have m0 := z8 hb
               have x0 := zK (hbox)
               have C0 := z9 hg
               have V0 := z9 hg
               have M1 := zHH hg l
               have B1 := zGG hg l
               have C1 := zHH hg a
               have D1 := zGG hg a
               have N1 := zHH hg u
               have a2 := zGG hg u
               revert X a0 b0 c0 i0 m0 x0 C0 V0 M1 B1 C1 D1 N1 a2
               clear z E l a u HB
               intro z E l a u HB q t1 o1 I J x L O T
               clear hb hbox hg
               refine hK.out _ _ ⟨zy a 0, zy a 1, zy a 2, zy a 3, zy a 4, zy a 5⟩ (fun hHeld => ?_)
               clear hK K
               refine zU 8 ?_
               refine one_ (i := 8) (N := some 46) (bl 19 196607) rfl rfl (one_of HT_.out (by kernel_rfl)) (by decide) (fun K hK => ?_)
               refine goes_ Try.func34 (by kernel_rfl) rfl #[.slice i1 n0.length e1] (by rfl) rfl rfl zL ?_
               refine (spec_l3Ints.calls _ _ n0 E0 _ (zS O1) U1.out X3.out).mono ?_
               rintro e b9x ⟨v177, rfl, g0, hb⟩
               refine ⟨_, rfl, ?_⟩
               have X := zK (Kd.R_elder' (zkR z) (Kd.R_base g0) hb)
               have a0 := zK (Kd.R_elder' (zkR E) (Kd.R_base g0) hb)
               have b0 := zK (Kd.R_lower (Kd.R_new' (Kd.R_new' g0 (Kd.R_lt (zkR z))) (Kd.R_lt (zkR E))) (zz zB))
               have c0 := z7 l hb
               have i0 := z7 a hb
               have m0 := z7 u hb
               have x0 := z7 q hb
               have C0 := z8 hb
               revert X a0 b0 c0 i0 m0 x0 C0
               clear z E l a u q HB
               intro z E y0 l a u q HB
               (try clear hb)
               (try clear hb2)
               (try clear hk)
               (try clear hi)
               (try clear g0)
               obtain ⟨G3, I3, F2⟩ := Kd.R_slice y0.out
               (first | subst F2 | (injection F2 with f1_ f2_ f3_; have f4_ := f1_.symm; have f5_ := f3_.symm; clear f1_ f2_ f3_; subst f4_; subst f5_))
               obtain ⟨J3, L3, G2⟩ := Kd.R_slice E.out
               (first | subst G2 | (injection G2 with f1_ f2_ f3_; have f4_ := f1_.symm; have f5_ := f3_.symm; clear f1_ f2_ f3_; subst f4_; subst f5_))
               obtain ⟨t5, x5, p3⟩ := Kd.R_slice z.out
               (first | subst p3 | (injection p3 with f1_ f2_ f3_; have f4_ := f1_.symm; have f5_ := f3_.symm; clear f1_ f2_ f3_; subst f4_; subst f5_))
               refine hK.out _ _ ⟨zy a 0, zy a 1, zy a 2, zy a 3, zy a 4, zy a 5⟩ (fun hHeld => ?_)
               clear hK K
               refine zU 46 ?_
               refine zP 16 54 (bl 19 262143) HT_ ?_ (hr := fun w2_ => bld30 w2_ rfl rfl rfl rfl rfl rfl rfl)
               exact norm_ (by simp only [putAll, Act.put, zq1, zq2, zq3]) (hCont (.slice t5 U0.length x5, .slice J3 M0.length L3, .slice G3 E0.length I3, y) _ ⟨hHeld, (Kd.R_mono (zlR z.out) (fun _ hk => ⟨hk.1.2, hk.2⟩)), (Kd.R_mono (zlR E.out) (fun _ hk => ⟨hk.1.2, hk.2⟩)), (Kd.R_mono (zlR y0.out) (fun _ hk => ⟨hk.1.2, hk.2⟩)), (zM l), (zM a), (zM u), (zM q), t1.out, o1.out, I.out, J.out, x.out, L.out, O.out, T.out, zB⟩)
           · as_aux_lemma =>
             skip
             refine box_step ?hg (N := 8) ?hd (cs := #[.slice none 0 0, .slice none 0 0, .slice none 0 0, .int .i64 0, .int .i64 0, .int .i64 0]) (t := 30) ?hr ?_; (case hd => rfl); (case hg => rfl); (case hr => first | (go_simp; done) | (go_simp; rfl))
             intro y hg b9u hbox hb
             have X := zK (Kd.R_below (zkR z) hb)
             have a0 := z7 l hb
             have b0 := z7 a hb
             have c0 := z7 u hb
             have i0 := z8 hb
             have m0 := zK (hbox)
             have x0 := z9 hg
             have C0 := z9 hg
             have V0 := zHH hg l
             have M1 := zGG hg l
             have B1 := zHH hg a
             have C1 := zGG hg a
             have D1 := zHH hg u
             have N1 := zGG hg u
             revert X a0 b0 c0 i0 m0 x0 C0 V0 M1 B1 C1 D1 N1
             clear z l a u HB
             intro z l a u HB q t1 o1 I J x L O T
             clear hb hbox hg
             refine hK.out _ _ ⟨zy a 0, zy a 1, zy a 2, zy a 3, zy a 4, zy a 5⟩ (fun hHeld => ?_)
             clear hK K
             refine zU 8 ?_
             refine one_ (i := 5) (N := some 43) (bl 19 196351) rfl rfl (one_of HT_.out (by kernel_rfl)) (by decide) (fun K hK => ?_)
             refine goes_ Try.func34 (by kernel_rfl) rfl #[.slice n1 o0.length j1] (by rfl) rfl rfl zL ?_
             refine (spec_l3Ints.calls _ _ o0 M0 _ (zS b2) n2.out q5.out).mono ?_
             rintro e a3s ⟨v174, rfl, g0, hb⟩
             refine ⟨_, rfl, ?_⟩
             have X := zK (Kd.R_elder' (zkR z) (Kd.R_base g0) hb)
             have a0 := zK (Kd.R_lower (Kd.R_new' g0 (Kd.R_lt (zkR z))) (zz zB))
             have b0 := z7 l hb
             have c0 := z7 a hb
             have i0 := z7 u hb
             have m0 := z7 q hb
             have x0 := z8 hb
             revert X a0 b0 c0 i0 m0 x0
             clear z l a u q HB
             intro z E l a u q HB
             (try clear hb)
             (try clear hb2)
             (try clear hk)
             (try clear hi)
             (try clear g0)
             refine hK.out _ _ ⟨zy a 0, zy a 1, zy a 2, zy a 3, zy a 4, zy a 5⟩ (fun hHeld => ?_)
             clear hK K
             refine zU 43 ?_
             refine one_ (i := 8) (N := some 46) (bl 19 196607) rfl rfl (one_of HT_.out (by kernel_rfl)) (by decide) (fun K hK => ?_)
             refine goes_ Try.func34 (by kernel_rfl) rfl #[.slice i1 n0.length e1] (by rfl) rfl rfl zL ?_
             refine (spec_l3Ints.calls _ _ n0 E0 _ (zS O1) U1.out X3.out).mono ?_
             rintro e b9x ⟨v177, rfl, g0, hb⟩
             refine ⟨_, rfl, ?_⟩
             have X := zK (Kd.R_elder' (zkR z) (Kd.R_base g0) hb)
             have a0 := zK (Kd.R_elder' (zkR E) (Kd.R_base g0) hb)
             have b0 := zK (Kd.R_lower (Kd.R_new' (Kd.R_new' g0 (Kd.R_lt (zkR z))) (Kd.R_lt (zkR E))) (zz zB))
             have c0 := z7 l hb
             have i0 := z7 a hb
             have m0 := z7 u hb
             have x0 := z7 q hb
             have C0 := z8 hb
             revert X a0 b0 c0 i0 m0 x0 C0
             clear z E l a u q HB
             intro z E y0 l a u q HB
             (try clear hb)
             (try clear hb2)
             (try clear hk)
             (try clear hi)
             (try clear g0)
             obtain ⟨G3, I3, F2⟩ := Kd.R_slice y0.out
             (first | subst F2 | (injection F2 with f1_ f2_ f3_; have f4_ := f1_.symm; have f5_ := f3_.symm; clear f1_ f2_ f3_; subst f4_; subst f5_))
             obtain ⟨J3, L3, G2⟩ := Kd.R_slice E.out
             (first | subst G2 | (injection G2 with f1_ f2_ f3_; have f4_ := f1_.symm; have f5_ := f3_.symm; clear f1_ f2_ f3_; subst f4_; subst f5_))
             obtain ⟨t5, x5, p3⟩ := Kd.R_slice z.out
             (first | subst p3 | (injection p3 with f1_ f2_ f3_; have f4_ := f1_.symm; have f5_ := f3_.symm; clear f1_ f2_ f3_; subst f4_; subst f5_))
             refine hK.out _ _ ⟨zy a 0, zy a 1, zy a 2, zy a 3, zy a 4, zy a 5⟩ (fun hHeld => ?_)
             clear hK K
             refine zU 46 ?_
             refine zP 16 54 (bl 19 262143) HT_ ?_ (hr := fun w2_ => bld30 w2_ rfl rfl rfl rfl rfl rfl rfl)
             exact norm_ (by simp only [putAll, Act.put, zq1, zq2, zq3]) (hCont (.slice t5 U0.length x5, .slice J3 M0.length L3, .slice G3 E0.length I3, y) _ ⟨hHeld, (Kd.R_mono (zlR z.out) (fun _ hk => ⟨hk.1.2, hk.2⟩)), (Kd.R_mono (zlR E.out) (fun _ hk => ⟨hk.1.2, hk.2⟩)), (Kd.R_mono (zlR y0.out) (fun _ hk => ⟨hk.1.2, hk.2⟩)), (zM l), (zM a), (zM u), (zM q), t1.out, o1.out, I.out, J.out, x.out, L.out, O.out, T.out, zB⟩)
         · as_aux_lemma =>
           skip
           refine box_step ?hg (N := 8) ?hd (cs := #[.slice none 0 0, .slice none 0 0, .slice none 0 0, .int .i64 0, .int .i64 0, .int .i64 0]) (t := 30) ?hr ?_; (case hd => rfl); (case hg => rfl); (case hr => first | (go_simp; done) | (go_simp; rfl))
           intro y hg c5t hbox hb
           have X := z7 l hb
           have a0 := z7 a hb
           have b0 := z7 u hb
           have c0 := z8 hb
           have i0 := zK (hbox)
           have m0 := z9 hg
           have x0 := z9 hg
           have C0 := zHH hg l
           have V0 := zGG hg l
           have M1 := zHH hg a
           have B1 := zGG hg a
           have C1 := zHH hg u
           have D1 := zGG hg u
           revert X a0 b0 c0 i0 m0 x0 C0 V0 M1 B1 C1 D1
           clear l a u HB
           intro l a u HB q t1 o1 I J x L O T
           clear hb hbox hg
           refine hK.out _ _ ⟨zy a 0, zy a 1, zy a 2, zy a 3, zy a 4, zy a 5⟩ (fun hHeld => ?_)
           clear hK K
           refine zU 8 ?_
           refine one_ (i := 2) (N := some 40) (bl 19 196319) rfl rfl (one_of HT_.out (by kernel_rfl)) (by decide) (fun K hK => ?_)
           refine goes_ Try.func34 (by kernel_rfl) rfl #[.slice A1 t0.length m1] (by rfl) rfl rfl zL ?_
           refine (spec_l3Ints.calls _ _ t0 U0 _ (zS V2) f3.out F9.out).mono ?_
           rintro e b9u ⟨v171, rfl, g0, hb⟩
           refine ⟨_, rfl, ?_⟩
           have X := zK (Kd.R_lower g0 (zz zB))
           have a0 := z7 l hb
           have b0 := z7 a hb
           have c0 := z7 u hb
           have i0 := z7 q hb
           have m0 := z8 hb
           revert X a0 b0 c0 i0 m0
           clear l a u q HB
           intro z l a u q HB
           (try clear hb)
           (try clear hb2)
           (try clear hk)
           (try clear hi)
           (try clear g0)
           refine hK.out _ _ ⟨zy a 0, zy a 1, zy a 2, zy a 3, zy a 4, zy a 5⟩ (fun hHeld => ?_)
           clear hK K
           refine zU 40 ?_
           refine one_ (i := 5) (N := some 43) (bl 19 196351) rfl rfl (one_of HT_.out (by kernel_rfl)) (by decide) (fun K hK => ?_)
           refine goes_ Try.func34 (by kernel_rfl) rfl #[.slice n1 o0.length j1] (by rfl) rfl rfl zL ?_
           refine (spec_l3Ints.calls _ _ o0 M0 _ (zS b2) n2.out q5.out).mono ?_
           rintro e a3s ⟨v174, rfl, g0, hb⟩
           refine ⟨_, rfl, ?_⟩
           have X := zK (Kd.R_elder' (zkR z) (Kd.R_base g0) hb)
           have a0 := zK (Kd.R_lower (Kd.R_new' g0 (Kd.R_lt (zkR z))) (zz zB))
           have b0 := z7 l hb
           have c0 := z7 a hb
           have i0 := z7 u hb
           have m0 := z7 q hb
           have x0 := z8 hb
           revert X a0 b0 c0 i0 m0 x0
           clear z l a u q HB
           intro z E l a u q HB
           (try clear hb)
           (try clear hb2)
           (try clear hk)
           (try clear hi)
           (try clear g0)
           refine hK.out _ _ ⟨zy a 0, zy a 1, zy a 2, zy a 3, zy a 4, zy a 5⟩ (fun hHeld => ?_)
           clear hK K
           refine zU 43 ?_
           refine one_ (i := 8) (N := some 46) (bl 19 196607) rfl rfl (one_of HT_.out (by kernel_rfl)) (by decide) (fun K hK => ?_)
           refine goes_ Try.func34 (by kernel_rfl) rfl #[.slice i1 n0.length e1] (by rfl) rfl rfl zL ?_
           refine (spec_l3Ints.calls _ _ n0 E0 _ (zS O1) U1.out X3.out).mono ?_
           rintro e b9x ⟨v177, rfl, g0, hb⟩
           refine ⟨_, rfl, ?_⟩
           have X := zK (Kd.R_elder' (zkR z) (Kd.R_base g0) hb)
           have a0 := zK (Kd.R_elder' (zkR E) (Kd.R_base g0) hb)
           have b0 := zK (Kd.R_lower (Kd.R_new' (Kd.R_new' g0 (Kd.R_lt (zkR z))) (Kd.R_lt (zkR E))) (zz zB))
           have c0 := z7 l hb
           have i0 := z7 a hb
           have m0 := z7 u hb
           have x0 := z7 q hb
           have C0 := z8 hb
           revert X a0 b0 c0 i0 m0 x0 C0
           clear z E l a u q HB
           intro z E y0 l a u q HB
           (try clear hb)
           (try clear hb2)
           (try clear hk)
           (try clear hi)
           (try clear g0)
           obtain ⟨G3, I3, F2⟩ := Kd.R_slice y0.out
           (first | subst F2 | (injection F2 with f1_ f2_ f3_; have f4_ := f1_.symm; have f5_ := f3_.symm; clear f1_ f2_ f3_; subst f4_; subst f5_))
           obtain ⟨J3, L3, G2⟩ := Kd.R_slice E.out
           (first | subst G2 | (injection G2 with f1_ f2_ f3_; have f4_ := f1_.symm; have f5_ := f3_.symm; clear f1_ f2_ f3_; subst f4_; subst f5_))
           obtain ⟨t5, x5, p3⟩ := Kd.R_slice z.out
           (first | subst p3 | (injection p3 with f1_ f2_ f3_; have f4_ := f1_.symm; have f5_ := f3_.symm; clear f1_ f2_ f3_; subst f4_; subst f5_))
           refine hK.out _ _ ⟨zy a 0, zy a 1, zy a 2, zy a 3, zy a 4, zy a 5⟩ (fun hHeld => ?_)
           clear hK K
           refine zU 46 ?_
           refine zP 16 54 (bl 19 262143) HT_ ?_ (hr := fun w2_ => bld30 w2_ rfl rfl rfl rfl rfl rfl rfl)
           exact norm_ (by simp only [putAll, Act.put, zq1, zq2, zq3]) (hCont (.slice t5 U0.length x5, .slice J3 M0.length L3, .slice G3 E0.length I3, y) _ ⟨hHeld, (Kd.R_mono (zlR z.out) (fun _ hk => ⟨hk.1.2, hk.2⟩)), (Kd.R_mono (zlR E.out) (fun _ hk => ⟨hk.1.2, hk.2⟩)), (Kd.R_mono (zlR y0.out) (fun _ hk => ⟨hk.1.2, hk.2⟩)), (zM l), (zM a), (zM u), (zM q), t1.out, o1.out, I.out, J.out, x.out, L.out, O.out, T.out, zB⟩)
       rintro ⟨v171, v174, v177, y⟩ S1 ⟨hS_, J7, L7, M7, N7, O7, R7, S7, T7, U7, V7, b4, d4, e4, f4, g4, i4⟩
       have X : Aside0 (Kd.R (Kd.int .i64) 3 S1 w.heap.size (fun k_ => some k_ ≠ (v174 : Value).ownBlock ∧ some k_ ≠ (v177 : Value).ownBlock) v171 U0) := ⟨J7⟩
       have a0 : Aside0 (Kd.R (Kd.int .i64) 3 S1 w.heap.size (fun k_ => some k_ ≠ (v171 : Value).ownBlock ∧ some k_ ≠ (v177 : Value).ownBlock) v174 M0) := ⟨L7⟩
       have b0 : Aside0 (Kd.R (Kd.int .i64) 3 S1 w.heap.size (fun k_ => some k_ ≠ (v171 : Value).ownBlock ∧ some k_ ≠ (v174 : Value).ownBlock) v177 E0) := ⟨M7⟩
       have c0 : Aside0 (S1.heap[f0]? = some (.cells #[.int .i64 I0, .int .i64 N0, .int .i64 O0, .int .i64 R0, .int .i64 S0, .int .i64 D0, .int .i64 G0, .int .i64 T0, .int .i64 J0, .int .i64 L0, .int .i64 B0] 35 (0, 0))) := ⟨N7⟩
       have i0 : Aside0 (S1.heap[U]? = some (.cells #[.slice A1 t0.length m1, .slice n1 o0.length j1, .slice i1 n0.length e1, .int .i64 d0, .int .i64 e0, .int .i64 p0] 30 (0, 0))) := ⟨O7⟩
       have m0 : Aside0 (S1.heap[d1]? = some (.cells #[.slice none 0 0, .slice none 0 0, .slice none 0 0, .int .i64 0, .int .i64 0, .int .i64 0] 30 (0, 0))) := ⟨R7⟩
       have x0 : Aside0 (S1.heap[y]? = some (.cells #[.slice none 0 0, .slice none 0 0, .slice none 0 0, .int .i64 0, .int .i64 0, .int .i64 0] 30 (0, 0))) := ⟨S7⟩
       have C0 : Aside0 (w.heap.size ≤ y) := ⟨T7⟩
       have V0 : Aside0 (w.heap.size ≤ y) := ⟨U7⟩
       have M1 : Aside0 (f0 ≠ y) := ⟨V7⟩
       have B1 : Aside0 (y ≠ f0) := ⟨b4⟩
       have C1 : Aside0 (U ≠ y) := ⟨d4⟩
       have D1 : Aside0 (y ≠ U) := ⟨e4⟩
       have N1 : Aside0 (d1 ≠ y) := ⟨f4⟩
       have a2 : Aside0 (y ≠ d1) := ⟨g4⟩
       have l3 : Aside0 (Below w.heap.size w S1) := ⟨i4⟩
       clear l
       clear a
       clear u
       clear HB
       clear J7 L7 M7 N7 O7 R7 S7 T7 U7 V7 b4 d4 e4 f4 g4 i4
       revert X a0 b0 c0 i0 m0 x0 C0 V0 M1 B1 C1 D1 N1 a2 l3
       intro z E y0 l a u q t1 o1 I J x L O T HB
       have hHeld : S1.cell? ⟨U, 0, none⟩ = some (.slice A1 t0.length m1) ∧ S1.cell? ⟨U, 1, none⟩ = some (.slice n1 o0.length j1) ∧ S1.cell? ⟨U, 2, none⟩ = some (.slice i1 n0.length e1) ∧ S1.cell? ⟨U, 3, none⟩ = some (.int .i64 d0) ∧ S1.cell? ⟨U, 4, none⟩ = some (.int .i64 e0) ∧ S1.cell? ⟨U, 5, none⟩ = some (.int .i64 p0) := hS_
       obtain ⟨c1s, c1t, b0j⟩ := Kd.R_slice y0.out
       (first | subst b0j | (injection b0j with f1_ f2_ f3_; have f4_ := f1_.symm; have f5_ := f3_.symm; clear f1_ f2_ f3_; subst f4_; subst f5_))
       obtain ⟨c1u, c1x, b0l⟩ := Kd.R_slice E.out
       (first | subst b0l | (injection b0l with f1_ f2_ f3_; have f4_ := f1_.symm; have f5_ := f3_.symm; clear f1_ f2_ f3_; subst f4_; subst f5_))
       obtain ⟨c1y, c1z, b0m⟩ := Kd.R_slice z.out
       (first | subst b0m | (injection b0m with f1_ f2_ f3_; have f4_ := f1_.symm; have f5_ := f3_.symm; clear f1_ f2_ f3_; subst f4_; subst f5_))
       refine norm_ (a' := ?_) ?_ ?_
       rotate_left
       · simp only [putAll, Act.put, zq1, zq2, zq3]
         rfl
       refine one_ (i := 18) (N := none) (bl 19 524287) rfl rfl (one_of HT_.out (by kernel_rfl)) (by decide) (fun K hK => ?_)
       have e4j : S1.cell? ⟨y, 0, none⟩ = some (.slice none 0 0) := zy q 0
       have hfs263 := zf q.out 0
       have hns263_0 := I.out
       have hns263_1 := x.out
       have hns263_2 := O.out
       have hms263_0 := J.out
       have hms263_1 := L.out
       have hms263_2 := T.out
       have e4l : S1.cell? ⟨y, 1, none⟩ = some (.slice none 0 0) := zy q 1
       have hfs264 := zf q.out 1
       have hns264_0 := I.out
       have hns264_1 := x.out
       have hns264_2 := O.out
       have hms264_0 := J.out
       have hms264_1 := L.out
       have hms264_2 := T.out
       have e4m : S1.cell? ⟨y, 2, none⟩ = some (.slice none 0 0) := zy q 2
       have hfs265 := zf q.out 2
       have hns265_0 := I.out
       have hns265_1 := x.out
       have hns265_2 := O.out
       have hms265_0 := J.out
       have hms265_1 := L.out
       have hms265_2 := T.out
       have e4n : S1.cell? ⟨y, 3, none⟩ = some (.int .i64 0) := zy q 3
       have hfs266 := zf q.out 3
       have hns266_0 := I.out
       have hns266_1 := x.out
       have hns266_2 := O.out
       have hms266_0 := J.out
       have hms266_1 := L.out
       have hms266_2 := T.out
       have e4o : S1.cell? ⟨y, 4, none⟩ = some (.int .i64 0) := zy q 4
       have hfs267 := zf q.out 4
       have hns267_0 := I.out
       have hns267_1 := x.out
       have hns267_2 := O.out
       have hms267_0 := J.out
       have hms267_1 := L.out
       have hms267_2 := T.out
       have e4p : S1.cell? ⟨y, 5, none⟩ = some (.int .i64 0) := zy q 5
       have hfs268 := zf q.out 5
       have hns268_0 := I.out
       have hns268_1 := x.out
       have hns268_2 := O.out
       have hms268_0 := J.out
       have hms268_1 := L.out
       have hms268_2 := T.out
       refine skip_ (w1 := ?_) (by rfl) rfl ?_ ?_
       rotate_left
       · go_simp
         rfl
       refine hK.out _ _ ⟨((cell_far (p := ⟨y, _, none⟩) x.out _).trans (((cell_far (p := ⟨y, _, none⟩) x.out _).trans (((cell_far (p := ⟨y, _, none⟩) x.out _).trans (((cell_far (p := ⟨y, _, none⟩) x.out _).trans (((cell_far (p := ⟨y, _, none⟩) x.out _).trans (((cell_far (p := ⟨y, _, none⟩) x.out _).trans (hHeld.1)))))))))))), ((cell_far (p := ⟨y, _, none⟩) x.out _).trans (((cell_far (p := ⟨y, _, none⟩) x.out _).trans (((cell_far (p := ⟨y, _, none⟩) x.out _).trans (((cell_far (p := ⟨y, _, none⟩) x.out _).trans (((cell_far (p := ⟨y, _, none⟩) x.out _).trans (((cell_far (p := ⟨y, _, none⟩) x.out _).trans (hHeld.2.1)))))))))))), ((cell_far (p := ⟨y, _, none⟩) x.out _).trans (((cell_far (p := ⟨y, _, none⟩) x.out _).trans (((cell_far (p := ⟨y, _, none⟩) x.out _).trans (((cell_far (p := ⟨y, _, none⟩) x.out _).trans (((cell_far (p := ⟨y, _, none⟩) x.out _).trans (((cell_far (p := ⟨y, _, none⟩) x.out _).trans (hHeld.2.2.1)))))))))))), ((cell_far (p := ⟨y, _, none⟩) x.out _).trans (((cell_far (p := ⟨y, _, none⟩) x.out _).trans (((cell_far (p := ⟨y, _, none⟩) x.out _).trans (((cell_far (p := ⟨y, _, none⟩) x.out _).trans (((cell_far (p := ⟨y, _, none⟩) x.out _).trans (((cell_far (p := ⟨y, _, none⟩) x.out _).trans (hHeld.2.2.2.1)))))))))))), ((cell_far (p := ⟨y, _, none⟩) x.out _).trans (((cell_far (p := ⟨y, _, none⟩) x.out _).trans (((cell_far (p := ⟨y, _, none⟩) x.out _).trans (((cell_far (p := ⟨y, _, none⟩) x.out _).trans (((cell_far (p := ⟨y, _, none⟩) x.out _).trans (((cell_far (p := ⟨y, _, none⟩) x.out _).trans (hHeld.2.2.2.2.1)))))))))))), ((cell_far (p := ⟨y, _, none⟩) x.out _).trans (((cell_far (p := ⟨y, _, none⟩) x.out _).trans (((cell_far (p := ⟨y, _, none⟩) x.out _).trans (((cell_far (p := ⟨y, _, none⟩) x.out _).trans (((cell_far (p := ⟨y, _, none⟩) x.out _).trans (((cell_far (p := ⟨y, _, none⟩) x.out _).trans (hHeld.2.2.2.2.2))))))))))))⟩ (fun hHeld => ?_)
       clear hK K
       refine done_ (done_of HT_.out (by kernel_rfl)) ?_
       generalize hW_ : (World.setCell (World.setCell (World.setCell (World.setCell (World.setCell (World.setCell _ ⟨y, 0, none⟩ _) ⟨y, 1, none⟩ _) ⟨y, 2, none⟩ _) ⟨y, 3, none⟩ _) ⟨y, 4, none⟩ _) ⟨y, 5, none⟩ _) = w6_
       have z := yT7 hW_ z.out q.out (by decide)
       have E := yT7 hW_ E.out q.out (by decide)
       have y0 := yT7 hW_ y0.out q.out (by decide)
       have l := yB7 hW_ l.out (Aside0.out (by assumption))
       have a := yB7 hW_ a.out (Aside0.out (by assumption))
       have u := yB7 hW_ u.out (Aside0.out (by assumption))
       have HB := yH7 hW_ HB.out (Aside0.out (by assumption))
       have q := yS7 hW_ q.out
       clear hW_ hHeld
       try go_wp2_with (first | ((with_reducible refine gc 35 rfl ?_); refine zF 56 Try.func35 #[.slice A2 l2.length c2] rfl zL ?_; refine (spec_l15Grad.calls E9 _ _ l2 false _ (z4 HR2.out zB) HC2.out A47.out).mono ?_; rintro e wd_ ⟨rfl, ⟨nd, hw⟩⟩; refine ⟨_, rfl, ?_⟩; have z := yD1 hw z.out; have E := yD1 hw E.out; have y0 := yD1 hw y0.out; have l := yD2 hw l.out; have a := yD2 hw a.out; have u := yD2 hw u.out; have q := yD2 hw q.out; have HB := yD3 hw HB.out; clear hw; have d6a := J.out; have d6b := I.out; have d6c := L.out; have d6d := x.out; have d6e := T.out; have d6f := O.out; obtain ⟨c5u, c5x, c5y, c5z, c6a, c6b, c6c, c6d, c6e, c6f, c6g, c6j⟩ := zc6 q; have d6g := g1.out; have d6j := f1.out; have d6l := I1.out; have d6m := G1.out; obtain ⟨c6l, c6m, c6n, c6o, c6p, c6q, c6s, c6t, c6u, c6x, c6y, c6z⟩ := zc6 u) | ((with_reducible refine gate_store (t := 3) (p := 58) rfl ?_); refine store_event (t := 3) (p := 58) (v := ?vq_58h0) (w1 := (wd_.setCell ⟨y, 5, none⟩ (.int .i64 0))) ?hg ?ho ?hn ?hr ?_; (case ho => rfl); (case hg => rfl); (case hn => rfl); (case hr => first | (go_simp; done) | (go_simp; rfl)); intro we1_ hw; have z := zT1 hw z.out q.out (by decide); have E := zT1 hw E.out q.out (by decide); have y0 := zT1 hw y0.out q.out (by decide); have l := zB1 hw l.out (Aside0.out (by assumption)); have a := zB1 hw a.out (Aside0.out (by assumption)); have u := zB1 hw u.out (Aside0.out (by assumption)); have HB := zH1 hw HB.out (Aside0.out (by assumption)); have q := zS5 hw q.out; clear hw; obtain ⟨mh00_, mh01_, mh02_, mh03_, mh04_, mh05_, mh06_, mh07_, mh08_, mh09_, mh0a_, mh0b_⟩ := zc6 q; obtain ⟨nh00_, nh01_, nh02_, nh03_, nh04_, nh05_, nh06_, nh07_, nh08_, nh09_, nh0a_, nh0b_⟩ := zc6 u; skip))
       refine bodyPost_ret (results_ct rfl _ _ d1 30 #[.slice c1y U0.length c1z, .slice c1u M0.length c1x, .slice c1s E0.length c1t, .int .i64 (wrap64 (d0 + 1)), .int .i64 e0, .int .i64 0] (0, 0) _ rfl (zW u) Try.underlying30 rfl (by kernel_rfl)) rfl ?_
       exact ⟨_, _, _, zE, Kd.R_mono (zlR (Kd.R_types (Kd.R_types z.out q.out (by decide)) u.out (by decide))) (fun _ hk => ⟨hk.1.1.1, hk.1.1.2⟩), Kd.R_mono (zlR (Kd.R_types (Kd.R_types E.out q.out (by decide)) u.out (by decide))) (fun _ hk => ⟨hk.1.1.1, hk.1.1.2⟩), Kd.R_mono (zlR (Kd.R_types (Kd.R_types y0.out q.out (by decide)) u.out (by decide))) (fun _ hk => ⟨hk.1.1.1, hk.1.1.2⟩), zB⟩
     rw [if_pos O5] at H
     have b9t := z1 O5
     clear O5
     simp only [Option.some.injEq, Prod.mk.injEq] at H
     obtain ⟨rfl, rfl, rfl, rfl, rfl, rfl, rfl⟩ := H
     try go_wp2
     have X := zK (zd l.out)
     have a0 := zK (zd a.out)
     have b0 := zK (zd u.out)
     have c0 := zK (ze HB.out)
     revert X a0 b0 c0
     clear l a u HB
     intro l a u HB
     refine start_ (n := 19) (S := fun w' => w'.cell? ⟨U, 0, none⟩ = some (.slice A1 t0.length m1) ∧ w'.cell? ⟨U, 1, none⟩ = some (.slice n1 o0.length j1) ∧ w'.cell? ⟨U, 2, none⟩ = some (.slice i1 n0.length e1) ∧ w'.cell? ⟨U, 3, none⟩ = some (.int .i64 d0) ∧ w'.cell? ⟨U, 4, none⟩ = some (.int .i64 e0) ∧ w'.cell? ⟨U, 5, none⟩ = some (.int .i64 p0)) (ds := []) (bl 19 0) (by kernel_rfl) rfl (by kernel_rfl) ⟨zy a 0, zy a 1, zy a 2, zy a 3, zy a 4, zy a 5⟩ (fun hHeld => ?_); refine with_tabW spec_StepOpt.tab3 spec_StepOpt.bits3 (fun HT_ HW_ => ?_)
     generalize wc.drew = e6o at l a u HB hHeld ⊢
     refine zP 0 38 (bl 19 1) HT_ ?_
     refine zP 3 41 (bl 19 9) HT_ ?_
     refine zP 6 44 (bl 19 73) HT_ ?_
     refine zP 9 47 (bl 19 585) HT_ ?_
     refine zP 12 50 (bl 19 4681) HT_ ?_
     refine zP 14 52 (bl 19 21065) HT_ ?_
     refine zT 1 39 (bl 19 21067) rfl rfl HT_ HW_ hHeld (by rintro w' ⟨s0, s1, s2, s3, s4, s5⟩; go_simp; with_reducible rfl) ?_
     refine zT 4 42 (bl 19 21083) rfl rfl HT_ HW_ hHeld (by rintro w' ⟨s0, s1, s2, s3, s4, s5⟩; go_simp; with_reducible rfl) ?_
     refine zT 7 45 (bl 19 21211) rfl rfl HT_ HW_ hHeld (by rintro w' ⟨s0, s1, s2, s3, s4, s5⟩; go_simp; with_reducible rfl) ?_
     refine zT 10 48 (bl 19 22235) rfl rfl HT_ HW_ hHeld (by rintro w' ⟨s0, s1, s2, s3, s4, s5⟩; go_simp; with_reducible rfl) ?_
     refine zP 11 49 (bl 19 24283) HT_ ?_
     refine zT 13 51 (bl 19 32475) rfl rfl HT_ HW_ hHeld (by rintro w' ⟨s0, s1, s2, s3, s4, s5⟩; go_simp; with_reducible rfl) ?_
     refine zT 15 53 (bl 19 65243) rfl rfl HT_ HW_ hHeld (by rintro w' ⟨s0, s1, s2, s3, s4, s5⟩; go_simp; with_reducible rfl) ?_
     refine join_ (σ := Value × Value × Value × Nat) 1 (bl 19 262143) (fun s_ => [(40, s_.1), (43, s_.2.1), (46, s_.2.2.1), (8, .pointer (some ⟨s_.2.2.2, 0, none⟩)), (54, .agg #[s_.1, s_.2.1, s_.2.2.1, .int .i64 (wrap64 (d0 + 1)), .int .i64 e0, .int .i64 p0])]) (fun s_ w' => (w'.cell? ⟨U, 0, none⟩ = some (.slice A1 t0.length m1) ∧ w'.cell? ⟨U, 1, none⟩ = some (.slice n1 o0.length j1) ∧ w'.cell? ⟨U, 2, none⟩ = some (.slice i1 n0.length e1) ∧ w'.cell? ⟨U, 3, none⟩ = some (.int .i64 d0) ∧ w'.cell? ⟨U, 4, none⟩ = some (.int .i64 e0) ∧ w'.cell? ⟨U, 5, none⟩ = some (.int .i64 p0)) ∧ (Kd.R (Kd.int .i64) 3 w' w.heap.size (fun k_ => some k_ ≠ (s_.2.1 : Value).ownBlock ∧ some k_ ≠ (s_.2.2.1 : Value).ownBlock) s_.1 U0) ∧ (Kd.R (Kd.int .i64) 3 w' w.heap.size (fun k_ => some k_ ≠ (s_.1 : Value).ownBlock ∧ some k_ ≠ (s_.2.2.1 : Value).ownBlock) s_.2.1 M0) ∧ (Kd.R (Kd.int .i64) 3 w' w.heap.size (fun k_ => some k_ ≠ (s_.1 : Value).ownBlock ∧ some k_ ≠ (s_.2.1 : Value).ownBlock) s_.2.2.1 E0) ∧ (w'.heap[f0]? = some (.cells #[.int .i64 I0, .int .i64 N0, .int .i64 O0, .int .i64 R0, .int .i64 S0, .int .i64 D0, .int .i64 G0, .int .i64 T0, .int .i64 J0, .int .i64 L0, .int .i64 B0] 35 (0, 0))) ∧ (w'.heap[U]? = some (.cells #[.slice A1 t0.length m1, .slice n1 o0.length j1, .slice i1 n0.length e1, .int .i64 d0, .int .i64 e0, .int .i64 p0] 30 (0, 0))) ∧ (w'.heap[d1]? = some (.cells #[.slice none 0 0, .slice none 0 0, .slice none 0 0, .int .i64 0, .int .i64 0, .int .i64 0] 30 (0, 0))) ∧ (w'.heap[s_.2.2.2]? = some (.cells #[.slice none 0 0, .slice none 0 0, .slice none 0 0, .int .i64 0, .int .i64 0, .int .i64 0] 30 (0, 0))) ∧ (w.heap.size ≤ s_.2.2.2) ∧ (w.heap.size ≤ s_.2.2.2) ∧ (f0 ≠ s_.2.2.2) ∧ (s_.2.2.2 ≠ f0) ∧ (U ≠ s_.2.2.2) ∧ (s_.2.2.2 ≠ U) ∧ (d1 ≠ s_.2.2.2) ∧ (s_.2.2.2 ≠ d1) ∧ (Below w.heap.size w w')) ?_ ?_
     rotate_left
     · as_aux_lemma =>
       intro hCont
       refine two_ (i := 2) (j := 17) (Ni := some 40) (Nj := some 8) (bl 19 65247) (bl 19 196315) rfl rfl rfl rfl (two_of HT_.out (by kernel_rfl)) (by decide) (by decide) (fun K hK => ?_) (fun K hK => ?_)
       · as_aux_lemma =>
         skip
         refine goes_ Try.func34 (by kernel_rfl) rfl #[.slice A1 t0.length m1] (by rfl) rfl rfl zL ?_
         refine (spec_l3Ints.calls _ _ t0 U0 _ (zS V2) f3.out F9.out).mono ?_
         rintro e c7a ⟨v171, rfl, g0, hb⟩
         refine ⟨_, rfl, ?_⟩
         have X := zK (Kd.R_lower g0 (zz zB))
         have a0 := z7 l hb
         have b0 := z7 a hb
         have c0 := z7 u hb
         have i0 := z8 hb
         revert X a0 b0 c0 i0
         clear l a u HB
         intro z l a u HB
         (try clear hb)
         (try clear hb2)
         (try clear hk)
         (try clear hi)
         (try clear g0)
         refine hK.out _ _ ⟨zy a 0, zy a 1, zy a 2, zy a 3, zy a 4, zy a 5⟩ (fun hHeld => ?_)
         clear hK K
         refine zU 40 ?_
         refine two_ (i := 5) (j := 17) (Ni := some 43) (Nj := some 8) (bl 19 65279) (bl 19 196319) rfl rfl rfl rfl (two_of HT_.out (by kernel_rfl)) (by decide) (by decide) (fun K hK => ?_) (fun K hK => ?_)
         · as_aux_lemma =>
           skip
           refine goes_ Try.func34 (by kernel_rfl) rfl #[.slice n1 o0.length j1] (by rfl) rfl rfl zL ?_
           refine (spec_l3Ints.calls _ _ o0 M0 _ (zS b2) n2.out q5.out).mono ?_
           rintro e b9y ⟨v174, rfl, g0, hb⟩
           refine ⟨_, rfl, ?_⟩
           have X := zK (Kd.R_elder' (zkR z) (Kd.R_base g0) hb)
           have a0 := zK (Kd.R_lower (Kd.R_new' g0 (Kd.R_lt (zkR z))) (zz zB))
           have b0 := z7 l hb
           have c0 := z7 a hb
           have i0 := z7 u hb
           have m0 := z8 hb
           revert X a0 b0 c0 i0 m0
           clear z l a u HB
           intro z E l a u HB
           (try clear hb)
           (try clear hb2)
           (try clear hk)
           (try clear hi)
           (try clear g0)
           refine hK.out _ _ ⟨zy a 0, zy a 1, zy a 2, zy a 3, zy a 4, zy a 5⟩ (fun hHeld => ?_)
           clear hK K
           refine zU 43 ?_
           refine two_ (i := 8) (j := 17) (Ni := some 46) (Nj := some 8) (bl 19 65535) (bl 19 196351) rfl rfl rfl rfl (two_of HT_.out (by kernel_rfl)) (by decide) (by decide) (fun K hK => ?_) (fun K hK => ?_)
           · as_aux_lemma =>
             skip
             refine goes_ Try.func34 (by kernel_rfl) rfl #[.slice i1 n0.length e1] (by rfl) rfl rfl zL ?_
             refine (spec_l3Ints.calls _ _ n0 E0 _ (zS O1) U1.out X3.out).mono ?_
             rintro e a3t ⟨v177, rfl, g0, hb⟩
             refine ⟨_, rfl, ?_⟩
             have X := zK (Kd.R_elder' (zkR z) (Kd.R_base g0) hb)
             have a0 := zK (Kd.R_elder' (zkR E) (Kd.R_base g0) hb)
             have b0 := zK (Kd.R_lower (Kd.R_new' (Kd.R_new' g0 (Kd.R_lt (zkR z))) (Kd.R_lt (zkR E))) (zz zB))
             have c0 := z7 l hb
             have i0 := z7 a hb
             have m0 := z7 u hb
             have x0 := z8 hb
             revert X a0 b0 c0 i0 m0 x0
             clear z E l a u HB
             intro z E y0 l a u HB
             (try clear hb)
             (try clear hb2)
             (try clear hk)
             (try clear hi)
             (try clear g0)
             obtain ⟨c2a, c2b, b0n⟩ := Kd.R_slice y0.out
             (first | subst b0n | (injection b0n with f1_ f2_ f3_; have f4_ := f1_.symm; have f5_ := f3_.symm; clear f1_ f2_ f3_; subst f4_; subst f5_))
             obtain ⟨M3, N3, I2⟩ := Kd.R_slice E.out
             (first | subst I2 | (injection I2 with f1_ f2_ f3_; have f4_ := f1_.symm; have f5_ := f3_.symm; clear f1_ f2_ f3_; subst f4_; subst f5_))
             obtain ⟨O3, R3, J2⟩ := Kd.R_slice z.out
             (first | subst J2 | (injection J2 with f1_ f2_ f3_; have f4_ := f1_.symm; have f5_ := f3_.symm; clear f1_ f2_ f3_; subst f4_; subst f5_))
             refine hK.out _ _ ⟨zy a 0, zy a 1, zy a 2, zy a 3, zy a 4, zy a 5⟩ (fun hHeld => ?_)
             clear hK K
             refine zU 46 ?_
             refine zP 16 54 (bl 19 131071) HT_ ?_ (hr := fun w2_ => bld30 w2_ rfl rfl rfl rfl rfl rfl rfl)
             refine one_ (i := 17) (N := some 8) (bl 19 262143) rfl rfl (one_of HT_.out (by kernel_rfl)) (by decide) (fun K hK => ?_)
             refine box_step ?hg (N := 8) ?hd (cs := #[.slice none 0 0, .slice none 0 0, .slice none 0 0, .int .i64 0, .int .i64 0, .int .i64 0]) (t := 30) ?hr ?_; (case hd => rfl); (case hg => rfl); (case hr => first | (go_simp; done) | (go_simp; rfl))
             intro y hg e6p hbox hb
             have X := zK (Kd.R_below (zkR z) hb)
             have a0 := zK (Kd.R_below (zkR E) hb)
             have b0 := zK (Kd.R_below (zkR y0) hb)
             have c0 := z7 l hb
             have i0 := z7 a hb
             have m0 := z7 u hb
             have x0 := z8 hb
             have C0 := zK (hbox)
             have V0 := z9 hg
             have M1 := z9 hg
             have B1 := zHH hg l
             have C1 := zGG hg l
             have D1 := zHH hg a
             have N1 := zGG hg a
             have a2 := zHH hg u
             have l3 := zGG hg u
             revert X a0 b0 c0 i0 m0 x0 C0 V0 M1 B1 C1 D1 N1 a2 l3
             clear z E y0 l a u HB
             intro z E y0 l a u HB q t1 o1 I J x L O T
             clear hb hbox hg
             refine hK.out _ _ ⟨zy a 0, zy a 1, zy a 2, zy a 3, zy a 4, zy a 5⟩ (fun hHeld => ?_)
             clear hK K
             refine zU 8 ?_
             exact norm_ (by simp only [putAll, Act.put, zq1, zq2, zq3]) (hCont (.slice O3 U0.length R3, .slice M3 M0.length N3, .slice c2a E0.length c2b, y) _ ⟨hHeld, (Kd.R_mono (zlR z.out) (fun _ hk => ⟨hk.1.2, hk.2⟩)), (Kd.R_mono (zlR E.out) (fun _ hk => ⟨hk.1.2, hk.2⟩)), (Kd.R_mono (zlR y0.out) (fun _ hk => ⟨hk.1.2, hk.2⟩)), (zM l), (zM a), (zM u), (zM q), t1.out, o1.out, I.out, J.out, x.out, L.out, O.out, T.out, zB⟩)
           · as_aux_lemma =>
             skip
             refine box_step ?hg (N := 8) ?hd (cs := #[.slice none 0 0, .slice none 0 0, .slice none 0 0, .int .i64 0, .int .i64 0, .int .i64 0]) (t := 30) ?hr ?_; (case hd => rfl); (case hg => rfl); (case hr => first | (go_simp; done) | (go_simp; rfl))
             intro y hg a3t hbox hb
             have X := zK (Kd.R_below (zkR z) hb)
             have a0 := zK (Kd.R_below (zkR E) hb)
             have b0 := z7 l hb
             have c0 := z7 a hb
             have i0 := z7 u hb
             have m0 := z8 hb
             have x0 := zK (hbox)
             have C0 := z9 hg
             have V0 := z9 hg
             have M1 := zHH hg l
             have B1 := zGG hg l
             have C1 := zHH hg a
             have D1 := zGG hg a
             have N1 := zHH hg u
             have a2 := zGG hg u
             revert X a0 b0 c0 i0 m0 x0 C0 V0 M1 B1 C1 D1 N1 a2
             clear z E l a u HB
             intro z E l a u HB q t1 o1 I J x L O T
             clear hb hbox hg
             refine hK.out _ _ ⟨zy a 0, zy a 1, zy a 2, zy a 3, zy a 4, zy a 5⟩ (fun hHeld => ?_)
             clear hK K
             refine zU 8 ?_
             refine one_ (i := 8) (N := some 46) (bl 19 196607) rfl rfl (one_of HT_.out (by kernel_rfl)) (by decide) (fun K hK => ?_)
             refine goes_ Try.func34 (by kernel_rfl) rfl #[.slice i1 n0.length e1] (by rfl) rfl rfl zL ?_
             refine (spec_l3Ints.calls _ _ n0 E0 _ (zS O1) U1.out X3.out).mono ?_
             rintro e b9z ⟨v177, rfl, g0, hb⟩
             refine ⟨_, rfl, ?_⟩
             have X := zK (Kd.R_elder' (zkR z) (Kd.R_base g0) hb)
             have a0 := zK (Kd.R_elder' (zkR E) (Kd.R_base g0) hb)
             have b0 := zK (Kd.R_lower (Kd.R_new' (Kd.R_new' g0 (Kd.R_lt (zkR z))) (Kd.R_lt (zkR E))) (zz zB))
             have c0 := z7 l hb
             have i0 := z7 a hb
             have m0 := z7 u hb
             have x0 := z7 q hb
             have C0 := z8 hb
             revert X a0 b0 c0 i0 m0 x0 C0
             clear z E l a u q HB
             intro z E y0 l a u q HB
             (try clear hb)
             (try clear hb2)
             (try clear hk)
             (try clear hi)
             (try clear g0)
             obtain ⟨M3, N3, I2⟩ := Kd.R_slice y0.out
             (first | subst I2 | (injection I2 with f1_ f2_ f3_; have f4_ := f1_.symm; have f5_ := f3_.symm; clear f1_ f2_ f3_; subst f4_; subst f5_))
             obtain ⟨O3, R3, J2⟩ := Kd.R_slice E.out
             (first | subst J2 | (injection J2 with f1_ f2_ f3_; have f4_ := f1_.symm; have f5_ := f3_.symm; clear f1_ f2_ f3_; subst f4_; subst f5_))
             obtain ⟨y5, A5, q3⟩ := Kd.R_slice z.out
             (first | subst q3 | (injection q3 with f1_ f2_ f3_; have f4_ := f1_.symm; have f5_ := f3_.symm; clear f1_ f2_ f3_; subst f4_; subst f5_))
             refine hK.out _ _ ⟨zy a 0, zy a 1, zy a 2, zy a 3, zy a 4, zy a 5⟩ (fun hHeld => ?_)
             clear hK K
             refine zU 46 ?_
             refine zP 16 54 (bl 19 262143) HT_ ?_ (hr := fun w2_ => bld30 w2_ rfl rfl rfl rfl rfl rfl rfl)
             exact norm_ (by simp only [putAll, Act.put, zq1, zq2, zq3]) (hCont (.slice y5 U0.length A5, .slice O3 M0.length R3, .slice M3 E0.length N3, y) _ ⟨hHeld, (Kd.R_mono (zlR z.out) (fun _ hk => ⟨hk.1.2, hk.2⟩)), (Kd.R_mono (zlR E.out) (fun _ hk => ⟨hk.1.2, hk.2⟩)), (Kd.R_mono (zlR y0.out) (fun _ hk => ⟨hk.1.2, hk.2⟩)), (zM l), (zM a), (zM u), (zM q), t1.out, o1.out, I.out, J.out, x.out, L.out, O.out, T.out, zB⟩)
         · as_aux_lemma =>
           skip
           refine box_step ?hg (N := 8) ?hd (cs := #[.slice none 0 0, .slice none 0 0, .slice none 0 0, .int .i64 0, .int .i64 0, .int .i64 0]) (t := 30) ?hr ?_; (case hd => rfl); (case hg => rfl); (case hr => first | (go_simp; done) | (go_simp; rfl))
           intro y hg b9y hbox hb
           have X := zK (Kd.R_below (zkR z) hb)
           have a0 := z7 l hb
           have b0 := z7 a hb
           have c0 := z7 u hb
           have i0 := z8 hb
           have m0 := zK (hbox)
           have x0 := z9 hg
           have C0 := z9 hg
           have V0 := zHH hg l
           have M1 := zGG hg l
           have B1 := zHH hg a
           have C1 := zGG hg a
           have D1 := zHH hg u
           have N1 := zGG hg u
           revert X a0 b0 c0 i0 m0 x0 C0 V0 M1 B1 C1 D1 N1
           clear z l a u HB
           intro z l a u HB q t1 o1 I J x L O T
           clear hb hbox hg
           refine hK.out _ _ ⟨zy a 0, zy a 1, zy a 2, zy a 3, zy a 4, zy a 5⟩ (fun hHeld => ?_)
           clear hK K
           refine zU 8 ?_
           refine one_ (i := 5) (N := some 43) (bl 19 196351) rfl rfl (one_of HT_.out (by kernel_rfl)) (by decide) (fun K hK => ?_)
           refine goes_ Try.func34 (by kernel_rfl) rfl #[.slice n1 o0.length j1] (by rfl) rfl rfl zL ?_
           refine (spec_l3Ints.calls _ _ o0 M0 _ (zS b2) n2.out q5.out).mono ?_
           rintro e a3t ⟨v174, rfl, g0, hb⟩
           refine ⟨_, rfl, ?_⟩
           have X := zK (Kd.R_elder' (zkR z) (Kd.R_base g0) hb)
           have a0 := zK (Kd.R_lower (Kd.R_new' g0 (Kd.R_lt (zkR z))) (zz zB))
           have b0 := z7 l hb
           have c0 := z7 a hb
           have i0 := z7 u hb
           have m0 := z7 q hb
           have x0 := z8 hb
           revert X a0 b0 c0 i0 m0 x0
           clear z l a u q HB
           intro z E l a u q HB
           (try clear hb)
           (try clear hb2)
           (try clear hk)
           (try clear hi)
           (try clear g0)
           refine hK.out _ _ ⟨zy a 0, zy a 1, zy a 2, zy a 3, zy a 4, zy a 5⟩ (fun hHeld => ?_)
           clear hK K
           refine zU 43 ?_
           refine one_ (i := 8) (N := some 46) (bl 19 196607) rfl rfl (one_of HT_.out (by kernel_rfl)) (by decide) (fun K hK => ?_)
           refine goes_ Try.func34 (by kernel_rfl) rfl #[.slice i1 n0.length e1] (by rfl) rfl rfl zL ?_
           refine (spec_l3Ints.calls _ _ n0 E0 _ (zS O1) U1.out X3.out).mono ?_
           rintro e b9z ⟨v177, rfl, g0, hb⟩
           refine ⟨_, rfl, ?_⟩
           have X := zK (Kd.R_elder' (zkR z) (Kd.R_base g0) hb)
           have a0 := zK (Kd.R_elder' (zkR E) (Kd.R_base g0) hb)
           have b0 := zK (Kd.R_lower (Kd.R_new' (Kd.R_new' g0 (Kd.R_lt (zkR z))) (Kd.R_lt (zkR E))) (zz zB))
           have c0 := z7 l hb
           have i0 := z7 a hb
           have m0 := z7 u hb
           have x0 := z7 q hb
           have C0 := z8 hb
           revert X a0 b0 c0 i0 m0 x0 C0
           clear z E l a u q HB
           intro z E y0 l a u q HB
           (try clear hb)
           (try clear hb2)
           (try clear hk)
           (try clear hi)
           (try clear g0)
           obtain ⟨M3, N3, I2⟩ := Kd.R_slice y0.out
           (first | subst I2 | (injection I2 with f1_ f2_ f3_; have f4_ := f1_.symm; have f5_ := f3_.symm; clear f1_ f2_ f3_; subst f4_; subst f5_))
           obtain ⟨O3, R3, J2⟩ := Kd.R_slice E.out
           (first | subst J2 | (injection J2 with f1_ f2_ f3_; have f4_ := f1_.symm; have f5_ := f3_.symm; clear f1_ f2_ f3_; subst f4_; subst f5_))
           obtain ⟨y5, A5, q3⟩ := Kd.R_slice z.out
           (first | subst q3 | (injection q3 with f1_ f2_ f3_; have f4_ := f1_.symm; have f5_ := f3_.symm; clear f1_ f2_ f3_; subst f4_; subst f5_))
           refine hK.out _ _ ⟨zy a 0, zy a 1, zy a 2, zy a 3, zy a 4, zy a 5⟩ (fun hHeld => ?_)
           clear hK K
           refine zU 46 ?_
           refine zP 16 54 (bl 19 262143) HT_ ?_ (hr := fun w2_ => bld30 w2_ rfl rfl rfl rfl rfl rfl rfl)
           exact norm_ (by simp only [putAll, Act.put, zq1, zq2, zq3]) (hCont (.slice y5 U0.length A5, .slice O3 M0.length R3, .slice M3 E0.length N3, y) _ ⟨hHeld, (Kd.R_mono (zlR z.out) (fun _ hk => ⟨hk.1.2, hk.2⟩)), (Kd.R_mono (zlR E.out) (fun _ hk => ⟨hk.1.2, hk.2⟩)), (Kd.R_mono (zlR y0.out) (fun _ hk => ⟨hk.1.2, hk.2⟩)), (zM l), (zM a), (zM u), (zM q), t1.out, o1.out, I.out, J.out, x.out, L.out, O.out, T.out, zB⟩)
       · as_aux_lemma =>
         skip
         refine box_step ?hg (N := 8) ?hd (cs := #[.slice none 0 0, .slice none 0 0, .slice none 0 0, .int .i64 0, .int .i64 0, .int .i64 0]) (t := 30) ?hr ?_; (case hd => rfl); (case hg => rfl); (case hr => first | (go_simp; done) | (go_simp; rfl))
         intro y hg c7a hbox hb
         have X := z7 l hb
         have a0 := z7 a hb
         have b0 := z7 u hb
         have c0 := z8 hb
         have i0 := zK (hbox)
         have m0 := z9 hg
         have x0 := z9 hg
         have C0 := zHH hg l
         have V0 := zGG hg l
         have M1 := zHH hg a
         have B1 := zGG hg a
         have C1 := zHH hg u
         have D1 := zGG hg u
         revert X a0 b0 c0 i0 m0 x0 C0 V0 M1 B1 C1 D1
         clear l a u HB
         intro l a u HB q t1 o1 I J x L O T
         clear hb hbox hg
         refine hK.out _ _ ⟨zy a 0, zy a 1, zy a 2, zy a 3, zy a 4, zy a 5⟩ (fun hHeld => ?_)
         clear hK K
         refine zU 8 ?_
         refine one_ (i := 2) (N := some 40) (bl 19 196319) rfl rfl (one_of HT_.out (by kernel_rfl)) (by decide) (fun K hK => ?_)
         refine goes_ Try.func34 (by kernel_rfl) rfl #[.slice A1 t0.length m1] (by rfl) rfl rfl zL ?_
         refine (spec_l3Ints.calls _ _ t0 U0 _ (zS V2) f3.out F9.out).mono ?_
         rintro e b9y ⟨v171, rfl, g0, hb⟩
         refine ⟨_, rfl, ?_⟩
         have X := zK (Kd.R_lower g0 (zz zB))
         have a0 := z7 l hb
         have b0 := z7 a hb
         have c0 := z7 u hb
         have i0 := z7 q hb
         have m0 := z8 hb
         revert X a0 b0 c0 i0 m0
         clear l a u q HB
         intro z l a u q HB
         (try clear hb)
         (try clear hb2)
         (try clear hk)
         (try clear hi)
         (try clear g0)
         refine hK.out _ _ ⟨zy a 0, zy a 1, zy a 2, zy a 3, zy a 4, zy a 5⟩ (fun hHeld => ?_)
         clear hK K
         refine zU 40 ?_
         refine one_ (i := 5) (N := some 43) (bl 19 196351) rfl rfl (one_of HT_.out (by kernel_rfl)) (by decide) (fun K hK => ?_)
         refine goes_ Try.func34 (by kernel_rfl) rfl #[.slice n1 o0.length j1] (by rfl) rfl rfl zL ?_
         refine (spec_l3Ints.calls _ _ o0 M0 _ (zS b2) n2.out q5.out).mono ?_
         rintro e a3t ⟨v174, rfl, g0, hb⟩
         refine ⟨_, rfl, ?_⟩
         have X := zK (Kd.R_elder' (zkR z) (Kd.R_base g0) hb)
         have a0 := zK (Kd.R_lower (Kd.R_new' g0 (Kd.R_lt (zkR z))) (zz zB))
         have b0 := z7 l hb
         have c0 := z7 a hb
         have i0 := z7 u hb
         have m0 := z7 q hb
         have x0 := z8 hb
         revert X a0 b0 c0 i0 m0 x0
         clear z l a u q HB
         intro z E l a u q HB
         (try clear hb)
         (try clear hb2)
         (try clear hk)
         (try clear hi)
         (try clear g0)
         refine hK.out _ _ ⟨zy a 0, zy a 1, zy a 2, zy a 3, zy a 4, zy a 5⟩ (fun hHeld => ?_)
         clear hK K
         refine zU 43 ?_
         refine one_ (i := 8) (N := some 46) (bl 19 196607) rfl rfl (one_of HT_.out (by kernel_rfl)) (by decide) (fun K hK => ?_)
         refine goes_ Try.func34 (by kernel_rfl) rfl #[.slice i1 n0.length e1] (by rfl) rfl rfl zL ?_
         refine (spec_l3Ints.calls _ _ n0 E0 _ (zS O1) U1.out X3.out).mono ?_
         rintro e b9z ⟨v177, rfl, g0, hb⟩
         refine ⟨_, rfl, ?_⟩
         have X := zK (Kd.R_elder' (zkR z) (Kd.R_base g0) hb)
         have a0 := zK (Kd.R_elder' (zkR E) (Kd.R_base g0) hb)
         have b0 := zK (Kd.R_lower (Kd.R_new' (Kd.R_new' g0 (Kd.R_lt (zkR z))) (Kd.R_lt (zkR E))) (zz zB))
         have c0 := z7 l hb
         have i0 := z7 a hb
         have m0 := z7 u hb
         have x0 := z7 q hb
         have C0 := z8 hb
         revert X a0 b0 c0 i0 m0 x0 C0
         clear z E l a u q HB
         intro z E y0 l a u q HB
         (try clear hb)
         (try clear hb2)
         (try clear hk)
         (try clear hi)
         (try clear g0)
         obtain ⟨M3, N3, I2⟩ := Kd.R_slice y0.out
         (first | subst I2 | (injection I2 with f1_ f2_ f3_; have f4_ := f1_.symm; have f5_ := f3_.symm; clear f1_ f2_ f3_; subst f4_; subst f5_))
         obtain ⟨O3, R3, J2⟩ := Kd.R_slice E.out
         (first | subst J2 | (injection J2 with f1_ f2_ f3_; have f4_ := f1_.symm; have f5_ := f3_.symm; clear f1_ f2_ f3_; subst f4_; subst f5_))
         obtain ⟨y5, A5, q3⟩ := Kd.R_slice z.out
         (first | subst q3 | (injection q3 with f1_ f2_ f3_; have f4_ := f1_.symm; have f5_ := f3_.symm; clear f1_ f2_ f3_; subst f4_; subst f5_))
         refine hK.out _ _ ⟨zy a 0, zy a 1, zy a 2, zy a 3, zy a 4, zy a 5⟩ (fun hHeld => ?_)
         clear hK K
         refine zU 46 ?_
         refine zP 16 54 (bl 19 262143) HT_ ?_ (hr := fun w2_ => bld30 w2_ rfl rfl rfl rfl rfl rfl rfl)
         exact norm_ (by simp only [putAll, Act.put, zq1, zq2, zq3]) (hCont (.slice y5 U0.length A5, .slice O3 M0.length R3, .slice M3 E0.length N3, y) _ ⟨hHeld, (Kd.R_mono (zlR z.out) (fun _ hk => ⟨hk.1.2, hk.2⟩)), (Kd.R_mono (zlR E.out) (fun _ hk => ⟨hk.1.2, hk.2⟩)), (Kd.R_mono (zlR y0.out) (fun _ hk => ⟨hk.1.2, hk.2⟩)), (zM l), (zM a), (zM u), (zM q), t1.out, o1.out, I.out, J.out, x.out, L.out, O.out, T.out, zB⟩)
     rintro ⟨v171, v174, v177, y⟩ T1 ⟨hS_, J7, L7, M7, N7, O7, R7, S7, T7, U7, V7, b4, d4, e4, f4, g4, i4⟩
     have X : Aside0 (Kd.R (Kd.int .i64) 3 T1 w.heap.size (fun k_ => some k_ ≠ (v174 : Value).ownBlock ∧ some k_ ≠ (v177 : Value).ownBlock) v171 U0) := ⟨J7⟩
     have a0 : Aside0 (Kd.R (Kd.int .i64) 3 T1 w.heap.size (fun k_ => some k_ ≠ (v171 : Value).ownBlock ∧ some k_ ≠ (v177 : Value).ownBlock) v174 M0) := ⟨L7⟩
     have b0 : Aside0 (Kd.R (Kd.int .i64) 3 T1 w.heap.size (fun k_ => some k_ ≠ (v171 : Value).ownBlock ∧ some k_ ≠ (v174 : Value).ownBlock) v177 E0) := ⟨M7⟩
     have c0 : Aside0 (T1.heap[f0]? = some (.cells #[.int .i64 I0, .int .i64 N0, .int .i64 O0, .int .i64 R0, .int .i64 S0, .int .i64 D0, .int .i64 G0, .int .i64 T0, .int .i64 J0, .int .i64 L0, .int .i64 B0] 35 (0, 0))) := ⟨N7⟩
     have i0 : Aside0 (T1.heap[U]? = some (.cells #[.slice A1 t0.length m1, .slice n1 o0.length j1, .slice i1 n0.length e1, .int .i64 d0, .int .i64 e0, .int .i64 p0] 30 (0, 0))) := ⟨O7⟩
     have m0 : Aside0 (T1.heap[d1]? = some (.cells #[.slice none 0 0, .slice none 0 0, .slice none 0 0, .int .i64 0, .int .i64 0, .int .i64 0] 30 (0, 0))) := ⟨R7⟩
     have x0 : Aside0 (T1.heap[y]? = some (.cells #[.slice none 0 0, .slice none 0 0, .slice none 0 0, .int .i64 0, .int .i64 0, .int .i64 0] 30 (0, 0))) := ⟨S7⟩
     have C0 : Aside0 (w.heap.size ≤ y) := ⟨T7⟩
     have V0 : Aside0 (w.heap.size ≤ y) := ⟨U7⟩
     have M1 : Aside0 (f0 ≠ y) := ⟨V7⟩
     have B1 : Aside0 (y ≠ f0) := ⟨b4⟩
     have C1 : Aside0 (U ≠ y) := ⟨d4⟩
     have D1 : Aside0 (y ≠ U) := ⟨e4⟩
     have N1 : Aside0 (d1 ≠ y) := ⟨f4⟩
     have a2 : Aside0 (y ≠ d1) := ⟨g4⟩
     have l3 : Aside0 (Below w.heap.size w T1) := ⟨i4⟩
     clear l
     clear a
     clear u
     clear HB
     clear J7 L7 M7 N7 O7 R7 S7 T7 U7 V7 b4 d4 e4 f4 g4 i4
     revert X a0 b0 c0 i0 m0 x0 C0 V0 M1 B1 C1 D1 N1 a2 l3
     intro z E y0 l a u q t1 o1 I J x L O T HB
     have hHeld : T1.cell? ⟨U, 0, none⟩ = some (.slice A1 t0.length m1) ∧ T1.cell? ⟨U, 1, none⟩ = some (.slice n1 o0.length j1) ∧ T1.cell? ⟨U, 2, none⟩ = some (.slice i1 n0.length e1) ∧ T1.cell? ⟨U, 3, none⟩ = some (.int .i64 d0) ∧ T1.cell? ⟨U, 4, none⟩ = some (.int .i64 e0) ∧ T1.cell? ⟨U, 5, none⟩ = some (.int .i64 p0) := hS_
     obtain ⟨c2c, c2d, b0o⟩ := Kd.R_slice y0.out
     (first | subst b0o | (injection b0o with f1_ f2_ f3_; have f4_ := f1_.symm; have f5_ := f3_.symm; clear f1_ f2_ f3_; subst f4_; subst f5_))
     obtain ⟨c2e, c2f, b0p⟩ := Kd.R_slice E.out
     (first | subst b0p | (injection b0p with f1_ f2_ f3_; have f4_ := f1_.symm; have f5_ := f3_.symm; clear f1_ f2_ f3_; subst f4_; subst f5_))
     obtain ⟨c2g, c2j, b0q⟩ := Kd.R_slice z.out
     (first | subst b0q | (injection b0q with f1_ f2_ f3_; have f4_ := f1_.symm; have f5_ := f3_.symm; clear f1_ f2_ f3_; subst f4_; subst f5_))
     refine norm_ (a' := ?_) ?_ ?_
     rotate_left
     · simp only [putAll, Act.put, zq1, zq2, zq3]
       rfl
     refine one_ (i := 18) (N := none) (bl 19 524287) rfl rfl (one_of HT_.out (by kernel_rfl)) (by decide) (fun K hK => ?_)
     have e4q : T1.cell? ⟨y, 0, none⟩ = some (.slice none 0 0) := zy q 0
     have hfs238 := zf q.out 0
     have hns238_0 := I.out
     have hns238_1 := x.out
     have hns238_2 := O.out
     have hms238_0 := J.out
     have hms238_1 := L.out
     have hms238_2 := T.out
     have e4s : T1.cell? ⟨y, 1, none⟩ = some (.slice none 0 0) := zy q 1
     have hfs239 := zf q.out 1
     have hns239_0 := I.out
     have hns239_1 := x.out
     have hns239_2 := O.out
     have hms239_0 := J.out
     have hms239_1 := L.out
     have hms239_2 := T.out
     have e4t : T1.cell? ⟨y, 2, none⟩ = some (.slice none 0 0) := zy q 2
     have hfs240 := zf q.out 2
     have hns240_0 := I.out
     have hns240_1 := x.out
     have hns240_2 := O.out
     have hms240_0 := J.out
     have hms240_1 := L.out
     have hms240_2 := T.out
     have e4u : T1.cell? ⟨y, 3, none⟩ = some (.int .i64 0) := zy q 3
     have hfs241 := zf q.out 3
     have hns241_0 := I.out
     have hns241_1 := x.out
     have hns241_2 := O.out
     have hms241_0 := J.out
     have hms241_1 := L.out
     have hms241_2 := T.out
     have e4x : T1.cell? ⟨y, 4, none⟩ = some (.int .i64 0) := zy q 4
     have hfs242 := zf q.out 4
     have hns242_0 := I.out
     have hns242_1 := x.out
     have hns242_2 := O.out
     have hms242_0 := J.out
     have hms242_1 := L.out
     have hms242_2 := T.out
     have e4y : T1.cell? ⟨y, 5, none⟩ = some (.int .i64 0) := zy q 5
     have hfs243 := zf q.out 5
     have hns243_0 := I.out
     have hns243_1 := x.out
     have hns243_2 := O.out
     have hms243_0 := J.out
     have hms243_1 := L.out
     have hms243_2 := T.out
     refine skip_ (w1 := ?_) (by rfl) rfl ?_ ?_
     rotate_left
     · go_simp
       rfl
     refine hK.out _ _ ⟨((cell_far (p := ⟨y, _, none⟩) x.out _).trans (((cell_far (p := ⟨y, _, none⟩) x.out _).trans (((cell_far (p := ⟨y, _, none⟩) x.out _).trans (((cell_far (p := ⟨y, _, none⟩) x.out _).trans (((cell_far (p := ⟨y, _, none⟩) x.out _).trans (((cell_far (p := ⟨y, _, none⟩) x.out _).trans (hHeld.1)))))))))))), ((cell_far (p := ⟨y, _, none⟩) x.out _).trans (((cell_far (p := ⟨y, _, none⟩) x.out _).trans (((cell_far (p := ⟨y, _, none⟩) x.out _).trans (((cell_far (p := ⟨y, _, none⟩) x.out _).trans (((cell_far (p := ⟨y, _, none⟩) x.out _).trans (((cell_far (p := ⟨y, _, none⟩) x.out _).trans (hHeld.2.1)))))))))))), ((cell_far (p := ⟨y, _, none⟩) x.out _).trans (((cell_far (p := ⟨y, _, none⟩) x.out _).trans (((cell_far (p := ⟨y, _, none⟩) x.out _).trans (((cell_far (p := ⟨y, _, none⟩) x.out _).trans (((cell_far (p := ⟨y, _, none⟩) x.out _).trans (((cell_far (p := ⟨y, _, none⟩) x.out _).trans (hHeld.2.2.1)))))))))))), ((cell_far (p := ⟨y, _, none⟩) x.out _).trans (((cell_far (p := ⟨y, _, none⟩) x.out _).trans (((cell_far (p := ⟨y, _, none⟩) x.out _).trans (((cell_far (p := ⟨y, _, none⟩) x.out _).trans (((cell_far (p := ⟨y, _, none⟩) x.out _).trans (((cell_far (p := ⟨y, _, none⟩) x.out _).trans (hHeld.2.2.2.1)))))))))))), ((cell_far (p := ⟨y, _, none⟩) x.out _).trans (((cell_far (p := ⟨y, _, none⟩) x.out _).trans (((cell_far (p := ⟨y, _, none⟩) x.out _).trans (((cell_far (p := ⟨y, _, none⟩) x.out _).trans (((cell_far (p := ⟨y, _, none⟩) x.out _).trans (((cell_far (p := ⟨y, _, none⟩) x.out _).trans (hHeld.2.2.2.2.1)))))))))))), ((cell_far (p := ⟨y, _, none⟩) x.out _).trans (((cell_far (p := ⟨y, _, none⟩) x.out _).trans (((cell_far (p := ⟨y, _, none⟩) x.out _).trans (((cell_far (p := ⟨y, _, none⟩) x.out _).trans (((cell_far (p := ⟨y, _, none⟩) x.out _).trans (((cell_far (p := ⟨y, _, none⟩) x.out _).trans (hHeld.2.2.2.2.2))))))))))))⟩ (fun hHeld => ?_)
     clear hK K
     refine done_ (done_of HT_.out (by kernel_rfl)) ?_
     generalize hW_ : (World.setCell (World.setCell (World.setCell (World.setCell (World.setCell (World.setCell _ ⟨y, 0, none⟩ _) ⟨y, 1, none⟩ _) ⟨y, 2, none⟩ _) ⟨y, 3, none⟩ _) ⟨y, 4, none⟩ _) ⟨y, 5, none⟩ _) = w6_
     have z := yT7 hW_ z.out q.out (by decide)
     have E := yT7 hW_ E.out q.out (by decide)
     have y0 := yT7 hW_ y0.out q.out (by decide)
     have l := yB7 hW_ l.out (Aside0.out (by assumption))
     have a := yB7 hW_ a.out (Aside0.out (by assumption))
     have u := yB7 hW_ u.out (Aside0.out (by assumption))
     have HB := yH7 hW_ HB.out (Aside0.out (by assumption))
     have q := yS7 hW_ q.out
     clear hW_ hHeld
     try go_wp2_with (first | ((with_reducible refine gc 35 rfl ?_); refine zF 56 Try.func35 #[.slice A2 l2.length c2] rfl zL ?_; refine (spec_l15Grad.calls E9 _ _ l2 false _ (z4 HR2.out zB) HC2.out A47.out).mono ?_; rintro e wd_ ⟨rfl, ⟨nd, hw⟩⟩; refine ⟨_, rfl, ?_⟩; have z := yD1 hw z.out; have E := yD1 hw E.out; have y0 := yD1 hw y0.out; have l := yD2 hw l.out; have a := yD2 hw a.out; have u := yD2 hw u.out; have q := yD2 hw q.out; have HB := yD3 hw HB.out; clear hw; have d6n := J.out; have d6o := I.out; have d6p := L.out; have d6q := x.out; have d6s := T.out; have d6t := O.out; obtain ⟨c7b, c7c, c7d, c7e, c7f, c7g, c7j, c7l, c7m, c7n, c7o, c7p⟩ := zc6 q; have d6u := g1.out; have d6x := f1.out; have d6y := I1.out; have d6z := G1.out; obtain ⟨c7q, c7s, c7t, c7u, c7x, c7y, c7z, c8a, c8b, c8c, c8d, c8e⟩ := zc6 u) | ((with_reducible refine gate_store (t := 3) (p := 58) rfl ?_); refine store_event (t := 3) (p := 58) (v := ?vq_58h1) (w1 := (wd_.setCell ⟨y, 5, none⟩ (.int .i64 0))) ?hg ?ho ?hn ?hr ?_; (case ho => rfl); (case hg => rfl); (case hn => rfl); (case hr => first | (go_simp; done) | (go_simp; rfl)); intro we1_ hw; have z := zT1 hw z.out q.out (by decide); have E := zT1 hw E.out q.out (by decide); have y0 := zT1 hw y0.out q.out (by decide); have l := zB1 hw l.out (Aside0.out (by assumption)); have a := zB1 hw a.out (Aside0.out (by assumption)); have u := zB1 hw u.out (Aside0.out (by assumption)); have HB := zH1 hw HB.out (Aside0.out (by assumption)); have q := zS5 hw q.out; clear hw; obtain ⟨mh10_, mh11_, mh12_, mh13_, mh14_, mh15_, mh16_, mh17_, mh18_, mh19_, mh1a_, mh1b_⟩ := zc6 q; obtain ⟨nh10_, nh11_, nh12_, nh13_, nh14_, nh15_, nh16_, nh17_, nh18_, nh19_, nh1a_, nh1b_⟩ := zc6 u; skip) | ((with_reducible refine gate_store (t := 3) (p := 65) rfl ?_); refine store_event (t := 3) (p := 65) (v := ?vq_65i1) (w1 := (we1_.setCell ⟨y, 4, none⟩ (.int .i64 (wrap64 (Int.tdiv e0 2))))) ?hg ?ho ?hn ?hr ?_; (case ho => rfl); (case hg => rfl); (case hn => rfl); (case hr => first | (go_simp; done) | (go_simp; rfl)); intro we2_ hw; have z := zT1 hw z.out q.out (by decide); have E := zT1 hw E.out q.out (by decide); have y0 := zT1 hw y0.out q.out (by decide); have l := zB1 hw l.out (Aside0.out (by assumption)); have a := zB1 hw a.out (Aside0.out (by assumption)); have u := zB1 hw u.out (Aside0.out (by assumption)); have HB := zH1 hw HB.out (Aside0.out (by assumption)); have q := zS4 hw q.out; clear hw; obtain ⟨mi10_, mi11_, mi12_, mi13_, mi14_, mi15_, mi16_, mi17_, mi18_, mi19_, mi1a_, mi1b_⟩ := zc6 q; obtain ⟨ni10_, ni11_, ni12_, ni13_, ni14_, ni15_, ni16_, ni17_, ni18_, ni19_, ni1a_, ni1b_⟩ := zc6 u; skip))
     refine bodyPost_ret (results_ct rfl _ _ d1 30 #[.slice c2g U0.length c2j, .slice c2e M0.length c2f, .slice c2c E0.length c2d, .int .i64 (wrap64 (d0 + 1)), .int .i64 (wrap64 (Int.tdiv e0 2)), .int .i64 0] (0, 0) _ rfl (zW u) Try.underlying30 rfl (by kernel_rfl)) rfl ?_
     exact ⟨_, _, _, zE, Kd.R_mono (zlR (Kd.R_types (Kd.R_types z.out q.out (by decide)) u.out (by decide))) (fun _ hk => ⟨hk.1.1.1, hk.1.1.2⟩), Kd.R_mono (zlR (Kd.R_types (Kd.R_types E.out q.out (by decide)) u.out (by decide))) (fun _ hk => ⟨hk.1.1.1, hk.1.1.2⟩), Kd.R_mono (zlR (Kd.R_types (Kd.R_types y0.out q.out (by decide)) u.out (by decide))) (fun _ hk => ⟨hk.1.1.1, hk.1.1.2⟩), zB⟩
   subst c48
   rw [if_pos rfl] at H
   obtain ⟨c0a, B5⟩ : ∃ y_ : List Int, y_ = (([] : List Int)) := ⟨_, rfl⟩
   replace H : (spec_StepOpt.l0 E9 l2 c0a 0 I0 N0 O0 R0 S0 D0 G0 T0 J0 L0 B0 t0 o0 n0 d0 e0 p0 U0 M0 E0 (wrap64 (d0 + 1)) e0 p0) = some (r1, r2, r3, r4, r5, r6, r7) := by first | (rw [B5]; with_reducible exact H) | (have L2 := (Option.bind_some _ _).symm.trans H; rw [B5]; with_reducible exact L2) | (have L2 := (Option.bind_some _ _).symm.trans H; with_reducible exact L2) | with_reducible exact H | (rw [B5]; exact H) | exact H
   have Ny181 := zK B5
   clear B5
   have H' := zK H
   clear H
   try go_wp2
   have X := zK (zd l.out)
   have a0 := zK (zd a.out)
   have b0 := zK (zd u.out)
   have c0 := zK (ze HB.out)
   revert X a0 b0 c0
   clear l a u HB
   intro l a u HB
   refine start_ (n := 19) (S := fun w' => w'.cell? ⟨U, 0, none⟩ = some (.slice A1 t0.length m1) ∧ w'.cell? ⟨U, 1, none⟩ = some (.slice n1 o0.length j1) ∧ w'.cell? ⟨U, 2, none⟩ = some (.slice i1 n0.length e1) ∧ w'.cell? ⟨U, 3, none⟩ = some (.int .i64 d0) ∧ w'.cell? ⟨U, 4, none⟩ = some (.int .i64 e0) ∧ w'.cell? ⟨U, 5, none⟩ = some (.int .i64 p0)) (ds := []) (bl 19 0) (by kernel_rfl) rfl (by kernel_rfl) ⟨zy a 0, zy a 1, zy a 2, zy a 3, zy a 4, zy a 5⟩ (fun hHeld => ?_); refine with_tabW spec_StepOpt.tab3 spec_StepOpt.bits3 (fun HT_ HW_ => ?_)
   generalize wc.drew = w49 at l a u HB hHeld ⊢
   refine zP 0 38 (bl 19 1) HT_ ?_
   refine zP 3 41 (bl 19 9) HT_ ?_
   refine zP 6 44 (bl 19 73) HT_ ?_
   refine zP 9 47 (bl 19 585) HT_ ?_
   refine zP 12 50 (bl 19 4681) HT_ ?_
   refine zP 14 52 (bl 19 21065) HT_ ?_
   refine zT 1 39 (bl 19 21067) rfl rfl HT_ HW_ hHeld (by rintro w' ⟨s0, s1, s2, s3, s4, s5⟩; go_simp; with_reducible rfl) ?_
   refine zT 4 42 (bl 19 21083) rfl rfl HT_ HW_ hHeld (by rintro w' ⟨s0, s1, s2, s3, s4, s5⟩; go_simp; with_reducible rfl) ?_
   refine zT 7 45 (bl 19 21211) rfl rfl HT_ HW_ hHeld (by rintro w' ⟨s0, s1, s2, s3, s4, s5⟩; go_simp; with_reducible rfl) ?_
   refine zT 10 48 (bl 19 22235) rfl rfl HT_ HW_ hHeld (by rintro w' ⟨s0, s1, s2, s3, s4, s5⟩; go_simp; with_reducible rfl) ?_
   refine zP 11 49 (bl 19 24283) HT_ ?_
   refine zT 13 51 (bl 19 32475) rfl rfl HT_ HW_ hHeld (by rintro w' ⟨s0, s1, s2, s3, s4, s5⟩; go_simp; with_reducible rfl) ?_
   refine zT 15 53 (bl 19 65243) rfl rfl HT_ HW_ hHeld (by rintro w' ⟨s0, s1, s2, s3, s4, s5⟩; go_simp; with_reducible rfl) ?_
   refine join_ (σ := Value × Value × Value × Nat) 1 (bl 19 262143) (fun s_ => [(40, s_.1), (43, s_.2.1), (46, s_.2.2.1), (8, .pointer (some ⟨s_.2.2.2, 0, none⟩)), (54, .agg #[s_.1, s_.2.1, s_.2.2.1, .int .i64 (wrap64 (d0 + 1)), .int .i64 e0, .int .i64 p0])]) (fun s_ w' => (w'.cell? ⟨U, 0, none⟩ = some (.slice A1 t0.length m1) ∧ w'.cell? ⟨U, 1, none⟩ = some (.slice n1 o0.length j1) ∧ w'.cell? ⟨U, 2, none⟩ = some (.slice i1 n0.length e1) ∧ w'.cell? ⟨U, 3, none⟩ = some (.int .i64 d0) ∧ w'.cell? ⟨U, 4, none⟩ = some (.int .i64 e0) ∧ w'.cell? ⟨U, 5, none⟩ = some (.int .i64 p0)) ∧ (Kd.R (Kd.int .i64) 3 w' w.heap.size (fun k_ => some k_ ≠ (s_.2.1 : Value).ownBlock ∧ some k_ ≠ (s_.2.2.1 : Value).ownBlock) s_.1 U0) ∧ (Kd.R (Kd.int .i64) 3 w' w.heap.size (fun k_ => some k_ ≠ (s_.1 : Value).ownBlock ∧ some k_ ≠ (s_.2.2.1 : Value).ownBlock) s_.2.1 M0) ∧ (Kd.R (Kd.int .i64) 3 w' w.heap.size (fun k_ => some k_ ≠ (s_.1 : Value).ownBlock ∧ some k_ ≠ (s_.2.1 : Value).ownBlock) s_.2.2.1 E0) ∧ (w'.heap[f0]? = some (.cells #[.int .i64 I0, .int .i64 N0, .int .i64 O0, .int .i64 R0, .int .i64 S0, .int .i64 D0, .int .i64 G0, .int .i64 T0, .int .i64 J0, .int .i64 L0, .int .i64 B0] 35 (0, 0))) ∧ (w'.heap[U]? = some (.cells #[.slice A1 t0.length m1, .slice n1 o0.length j1, .slice i1 n0.length e1, .int .i64 d0, .int .i64 e0, .int .i64 p0] 30 (0, 0))) ∧ (w'.heap[d1]? = some (.cells #[.slice none 0 0, .slice none 0 0, .slice none 0 0, .int .i64 0, .int .i64 0, .int .i64 0] 30 (0, 0))) ∧ (w'.heap[s_.2.2.2]? = some (.cells #[.slice none 0 0, .slice none 0 0, .slice none 0 0, .int .i64 0, .int .i64 0, .int .i64 0] 30 (0, 0))) ∧ (w.heap.size ≤ s_.2.2.2) ∧ (w.heap.size ≤ s_.2.2.2) ∧ (f0 ≠ s_.2.2.2) ∧ (s_.2.2.2 ≠ f0) ∧ (U ≠ s_.2.2.2) ∧ (s_.2.2.2 ≠ U) ∧ (d1 ≠ s_.2.2.2) ∧ (s_.2.2.2 ≠ d1) ∧ (Below w.heap.size w w')) ?_ ?_
   rotate_left
   · as_aux_lemma =>
     intro hCont
     refine two_ (i := 2) (j := 17) (Ni := some 40) (Nj := some 8) (bl 19 65247) (bl 19 196315) rfl rfl rfl rfl (two_of HT_.out (by kernel_rfl)) (by decide) (by decide) (fun K hK => ?_) (fun K hK => ?_)
     · as_aux_lemma =>
       skip
       refine goes_ Try.func34 (by kernel_rfl) rfl #[.slice A1 t0.length m1] (by rfl) rfl rfl zL ?_
       refine (spec_l3Ints.calls _ _ t0 U0 _ (zS V2) f3.out F9.out).mono ?_
       rintro e w50 ⟨v171, rfl, g0, hb⟩
       refine ⟨_, rfl, ?_⟩
       have X := zK (Kd.R_lower g0 (zz zB))
       have a0 := z7 l hb
       have b0 := z7 a hb
       have c0 := z7 u hb
       have i0 := z8 hb
       revert X a0 b0 c0 i0
       clear l a u HB
       intro z l a u HB
       (try clear hb)
       (try clear hb2)
       (try clear hk)
       (try clear hi)
       (try clear g0)
       refine hK.out _ _ ⟨zy a 0, zy a 1, zy a 2, zy a 3, zy a 4, zy a 5⟩ (fun hHeld => ?_)
       clear hK K
       refine zU 40 ?_
       refine two_ (i := 5) (j := 17) (Ni := some 43) (Nj := some 8) (bl 19 65279) (bl 19 196319) rfl rfl rfl rfl (two_of HT_.out (by kernel_rfl)) (by decide) (by decide) (fun K hK => ?_) (fun K hK => ?_)
       · as_aux_lemma =>
         skip
         refine goes_ Try.func34 (by kernel_rfl) rfl #[.slice n1 o0.length j1] (by rfl) rfl rfl zL ?_
         refine (spec_l3Ints.calls _ _ o0 M0 _ (zS b2) n2.out q5.out).mono ?_
         rintro e w51 ⟨v174, rfl, g0, hb⟩
         refine ⟨_, rfl, ?_⟩
         have X := zK (Kd.R_elder' (zkR z) (Kd.R_base g0) hb)
         have a0 := zK (Kd.R_lower (Kd.R_new' g0 (Kd.R_lt (zkR z))) (zz zB))
         have b0 := z7 l hb
         have c0 := z7 a hb
         have i0 := z7 u hb
         have m0 := z8 hb
         revert X a0 b0 c0 i0 m0
         clear z l a u HB
         intro z E l a u HB
         (try clear hb)
         (try clear hb2)
         (try clear hk)
         (try clear hi)
         (try clear g0)
         refine hK.out _ _ ⟨zy a 0, zy a 1, zy a 2, zy a 3, zy a 4, zy a 5⟩ (fun hHeld => ?_)
         clear hK K
         refine zU 43 ?_
         refine two_ (i := 8) (j := 17) (Ni := some 46) (Nj := some 8) (bl 19 65535) (bl 19 196351) rfl rfl rfl rfl (two_of HT_.out (by kernel_rfl)) (by decide) (by decide) (fun K hK => ?_) (fun K hK => ?_)
         · as_aux_lemma =>
           skip
           refine goes_ Try.func34 (by kernel_rfl) rfl #[.slice i1 n0.length e1] (by rfl) rfl rfl zL ?_
           refine (spec_l3Ints.calls _ _ n0 E0 _ (zS O1) U1.out X3.out).mono ?_
           rintro e w52 ⟨v177, rfl, g0, hb⟩
           refine ⟨_, rfl, ?_⟩
           have X := zK (Kd.R_elder' (zkR z) (Kd.R_base g0) hb)
           have a0 := zK (Kd.R_elder' (zkR E) (Kd.R_base g0) hb)
           have b0 := zK (Kd.R_lower (Kd.R_new' (Kd.R_new' g0 (Kd.R_lt (zkR z))) (Kd.R_lt (zkR E))) (zz zB))
           have c0 := z7 l hb
           have i0 := z7 a hb
           have m0 := z7 u hb
           have x0 := z8 hb
           revert X a0 b0 c0 i0 m0 x0
           clear z E l a u HB
           intro z E y0 l a u HB
           (try clear hb)
           (try clear hb2)
           (try clear hk)
           (try clear hi)
           (try clear g0)
           obtain ⟨c8f, c8g, c0c⟩ := Kd.R_slice y0.out
           (first | subst c0c | (injection c0c with f1_ f2_ f3_; have f4_ := f1_.symm; have f5_ := f3_.symm; clear f1_ f2_ f3_; subst f4_; subst f5_))
           obtain ⟨B4, C4, m3⟩ := Kd.R_slice E.out
           (first | subst m3 | (injection m3 with f1_ f2_ f3_; have f4_ := f1_.symm; have f5_ := f3_.symm; clear f1_ f2_ f3_; subst f4_; subst f5_))
           obtain ⟨D4, E4, n3⟩ := Kd.R_slice z.out
           (first | subst n3 | (injection n3 with f1_ f2_ f3_; have f4_ := f1_.symm; have f5_ := f3_.symm; clear f1_ f2_ f3_; subst f4_; subst f5_))
           refine hK.out _ _ ⟨zy a 0, zy a 1, zy a 2, zy a 3, zy a 4, zy a 5⟩ (fun hHeld => ?_)
           clear hK K
           refine zU 46 ?_
           refine zP 16 54 (bl 19 131071) HT_ ?_ (hr := fun w2_ => bld30 w2_ rfl rfl rfl rfl rfl rfl rfl)
           refine one_ (i := 17) (N := some 8) (bl 19 262143) rfl rfl (one_of HT_.out (by kernel_rfl)) (by decide) (fun K hK => ?_)
           refine box_step ?hg (N := 8) ?hd (cs := #[.slice none 0 0, .slice none 0 0, .slice none 0 0, .int .i64 0, .int .i64 0, .int .i64 0]) (t := 30) ?hr ?_; (case hd => rfl); (case hg => rfl); (case hr => first | (go_simp; done) | (go_simp; rfl))
           intro y hg w56 hbox hb
           have X := zK (Kd.R_below (zkR z) hb)
           have a0 := zK (Kd.R_below (zkR E) hb)
           have b0 := zK (Kd.R_below (zkR y0) hb)
           have c0 := z7 l hb
           have i0 := z7 a hb
           have m0 := z7 u hb
           have x0 := z8 hb
           have C0 := zK (hbox)
           have V0 := z9 hg
           have M1 := z9 hg
           have B1 := zHH hg l
           have C1 := zGG hg l
           have D1 := zHH hg a
           have N1 := zGG hg a
           have a2 := zHH hg u
           have l3 := zGG hg u
           revert X a0 b0 c0 i0 m0 x0 C0 V0 M1 B1 C1 D1 N1 a2 l3
           clear z E y0 l a u HB
           intro z E y0 l a u HB q t1 o1 I J x L O T
           clear hb hbox hg
           refine hK.out _ _ ⟨zy a 0, zy a 1, zy a 2, zy a 3, zy a 4, zy a 5⟩ (fun hHeld => ?_)
           clear hK K
           refine zU 8 ?_
           exact norm_ (by simp only [putAll, Act.put, zq1, zq2, zq3]) (hCont (.slice D4 U0.length E4, .slice B4 M0.length C4, .slice c8f E0.length c8g, y) _ ⟨hHeld, (Kd.R_mono (zlR z.out) (fun _ hk => ⟨hk.1.2, hk.2⟩)), (Kd.R_mono (zlR E.out) (fun _ hk => ⟨hk.1.2, hk.2⟩)), (Kd.R_mono (zlR y0.out) (fun _ hk => ⟨hk.1.2, hk.2⟩)), (zM l), (zM a), (zM u), (zM q), t1.out, o1.out, I.out, J.out, x.out, L.out, O.out, T.out, zB⟩)
         · as_aux_lemma =>
           skip
           refine box_step ?hg (N := 8) ?hd (cs := #[.slice none 0 0, .slice none 0 0, .slice none 0 0, .int .i64 0, .int .i64 0, .int .i64 0]) (t := 30) ?hr ?_; (case hd => rfl); (case hg => rfl); (case hr => first | (go_simp; done) | (go_simp; rfl))
           intro y hg w52 hbox hb
           have X := zK (Kd.R_below (zkR z) hb)
           have a0 := zK (Kd.R_below (zkR E) hb)
           have b0 := z7 l hb
           have c0 := z7 a hb
           have i0 := z7 u hb
           have m0 := z8 hb
           have x0 := zK (hbox)
           have C0 := z9 hg
           have V0 := z9 hg
           have M1 := zHH hg l
           have B1 := zGG hg l
           have C1 := zHH hg a
           have D1 := zGG hg a
           have N1 := zHH hg u
           have a2 := zGG hg u
           revert X a0 b0 c0 i0 m0 x0 C0 V0 M1 B1 C1 D1 N1 a2
           clear z E l a u HB
           intro z E l a u HB q t1 o1 I J x L O T
           clear hb hbox hg
           refine hK.out _ _ ⟨zy a 0, zy a 1, zy a 2, zy a 3, zy a 4, zy a 5⟩ (fun hHeld => ?_)
           clear hK K
           refine zU 8 ?_
           refine one_ (i := 8) (N := some 46) (bl 19 196607) rfl rfl (one_of HT_.out (by kernel_rfl)) (by decide) (fun K hK => ?_)
           refine goes_ Try.func34 (by kernel_rfl) rfl #[.slice i1 n0.length e1] (by rfl) rfl rfl zL ?_
           refine (spec_l3Ints.calls _ _ n0 E0 _ (zS O1) U1.out X3.out).mono ?_
           rintro e w53 ⟨v177, rfl, g0, hb⟩
           refine ⟨_, rfl, ?_⟩
           have X := zK (Kd.R_elder' (zkR z) (Kd.R_base g0) hb)
           have a0 := zK (Kd.R_elder' (zkR E) (Kd.R_base g0) hb)
           have b0 := zK (Kd.R_lower (Kd.R_new' (Kd.R_new' g0 (Kd.R_lt (zkR z))) (Kd.R_lt (zkR E))) (zz zB))
           have c0 := z7 l hb
           have i0 := z7 a hb
           have m0 := z7 u hb
           have x0 := z7 q hb
           have C0 := z8 hb
           revert X a0 b0 c0 i0 m0 x0 C0
           clear z E l a u q HB
           intro z E y0 l a u q HB
           (try clear hb)
           (try clear hb2)
           (try clear hk)
           (try clear hi)
           (try clear g0)
           obtain ⟨B4, C4, m3⟩ := Kd.R_slice y0.out
           (first | subst m3 | (injection m3 with f1_ f2_ f3_; have f4_ := f1_.symm; have f5_ := f3_.symm; clear f1_ f2_ f3_; subst f4_; subst f5_))
           obtain ⟨D4, E4, n3⟩ := Kd.R_slice E.out
           (first | subst n3 | (injection n3 with f1_ f2_ f3_; have f4_ := f1_.symm; have f5_ := f3_.symm; clear f1_ f2_ f3_; subst f4_; subst f5_))
           obtain ⟨g8, i8, l4⟩ := Kd.R_slice z.out
           (first | subst l4 | (injection l4 with f1_ f2_ f3_; have f4_ := f1_.symm; have f5_ := f3_.symm; clear f1_ f2_ f3_; subst f4_; subst f5_))
           refine hK.out _ _ ⟨zy a 0, zy a 1, zy a 2, zy a 3, zy a 4, zy a 5⟩ (fun hHeld => ?_)
           clear hK K
           refine zU 46 ?_
           refine zP 16 54 (bl 19 262143) HT_ ?_ (hr := fun w2_ => bld30 w2_ rfl rfl rfl rfl rfl rfl rfl)
           exact norm_ (by simp only [putAll, Act.put, zq1, zq2, zq3]) (hCont (.slice g8 U0.length i8, .slice D4 M0.length E4, .slice B4 E0.length C4, y) _ ⟨hHeld, (Kd.R_mono (zlR z.out) (fun _ hk => ⟨hk.1.2, hk.2⟩)), (Kd.R_mono (zlR E.out) (fun _ hk => ⟨hk.1.2, hk.2⟩)), (Kd.R_mono (zlR y0.out) (fun _ hk => ⟨hk.1.2, hk.2⟩)), (zM l), (zM a), (zM u), (zM q), t1.out, o1.out, I.out, J.out, x.out, L.out, O.out, T.out, zB⟩)
       · as_aux_lemma =>
         skip
         refine box_step ?hg (N := 8) ?hd (cs := #[.slice none 0 0, .slice none 0 0, .slice none 0 0, .int .i64 0, .int .i64 0, .int .i64 0]) (t := 30) ?hr ?_; (case hd => rfl); (case hg => rfl); (case hr => first | (go_simp; done) | (go_simp; rfl))
         intro y hg w51 hbox hb
         have X := zK (Kd.R_below (zkR z) hb)
         have a0 := z7 l hb
         have b0 := z7 a hb
         have c0 := z7 u hb
         have i0 := z8 hb
         have m0 := zK (hbox)
         have x0 := z9 hg
         have C0 := z9 hg
         have V0 := zHH hg l
         have M1 := zGG hg l
         have B1 := zHH hg a
         have C1 := zGG hg a
         have D1 := zHH hg u
         have N1 := zGG hg u
         revert X a0 b0 c0 i0 m0 x0 C0 V0 M1 B1 C1 D1 N1
         clear z l a u HB
         intro z l a u HB q t1 o1 I J x L O T
         clear hb hbox hg
         refine hK.out _ _ ⟨zy a 0, zy a 1, zy a 2, zy a 3, zy a 4, zy a 5⟩ (fun hHeld => ?_)
         clear hK K
         refine zU 8 ?_
         refine one_ (i := 5) (N := some 43) (bl 19 196351) rfl rfl (one_of HT_.out (by kernel_rfl)) (by decide) (fun K hK => ?_)
         refine goes_ Try.func34 (by kernel_rfl) rfl #[.slice n1 o0.length j1] (by rfl) rfl rfl zL ?_
         refine (spec_l3Ints.calls _ _ o0 M0 _ (zS b2) n2.out q5.out).mono ?_
         rintro e w52 ⟨v174, rfl, g0, hb⟩
         refine ⟨_, rfl, ?_⟩
         have X := zK (Kd.R_elder' (zkR z) (Kd.R_base g0) hb)
         have a0 := zK (Kd.R_lower (Kd.R_new' g0 (Kd.R_lt (zkR z))) (zz zB))
         have b0 := z7 l hb
         have c0 := z7 a hb
         have i0 := z7 u hb
         have m0 := z7 q hb
         have x0 := z8 hb
         revert X a0 b0 c0 i0 m0 x0
         clear z l a u q HB
         intro z E l a u q HB
         (try clear hb)
         (try clear hb2)
         (try clear hk)
         (try clear hi)
         (try clear g0)
         refine hK.out _ _ ⟨zy a 0, zy a 1, zy a 2, zy a 3, zy a 4, zy a 5⟩ (fun hHeld => ?_)
         clear hK K
         refine zU 43 ?_
         refine one_ (i := 8) (N := some 46) (bl 19 196607) rfl rfl (one_of HT_.out (by kernel_rfl)) (by decide) (fun K hK => ?_)
         refine goes_ Try.func34 (by kernel_rfl) rfl #[.slice i1 n0.length e1] (by rfl) rfl rfl zL ?_
         refine (spec_l3Ints.calls _ _ n0 E0 _ (zS O1) U1.out X3.out).mono ?_
         rintro e w53 ⟨v177, rfl, g0, hb⟩
         refine ⟨_, rfl, ?_⟩
         have X := zK (Kd.R_elder' (zkR z) (Kd.R_base g0) hb)
         have a0 := zK (Kd.R_elder' (zkR E) (Kd.R_base g0) hb)
         have b0 := zK (Kd.R_lower (Kd.R_new' (Kd.R_new' g0 (Kd.R_lt (zkR z))) (Kd.R_lt (zkR E))) (zz zB))
         have c0 := z7 l hb
         have i0 := z7 a hb
         have m0 := z7 u hb
         have x0 := z7 q hb
         have C0 := z8 hb
         revert X a0 b0 c0 i0 m0 x0 C0
         clear z E l a u q HB
         intro z E y0 l a u q HB
         (try clear hb)
         (try clear hb2)
         (try clear hk)
         (try clear hi)
         (try clear g0)
         obtain ⟨B4, C4, m3⟩ := Kd.R_slice y0.out
         (first | subst m3 | (injection m3 with f1_ f2_ f3_; have f4_ := f1_.symm; have f5_ := f3_.symm; clear f1_ f2_ f3_; subst f4_; subst f5_))
         obtain ⟨D4, E4, n3⟩ := Kd.R_slice E.out
         (first | subst n3 | (injection n3 with f1_ f2_ f3_; have f4_ := f1_.symm; have f5_ := f3_.symm; clear f1_ f2_ f3_; subst f4_; subst f5_))
         obtain ⟨g8, i8, l4⟩ := Kd.R_slice z.out
         (first | subst l4 | (injection l4 with f1_ f2_ f3_; have f4_ := f1_.symm; have f5_ := f3_.symm; clear f1_ f2_ f3_; subst f4_; subst f5_))
         refine hK.out _ _ ⟨zy a 0, zy a 1, zy a 2, zy a 3, zy a 4, zy a 5⟩ (fun hHeld => ?_)
         clear hK K
         refine zU 46 ?_
         refine zP 16 54 (bl 19 262143) HT_ ?_ (hr := fun w2_ => bld30 w2_ rfl rfl rfl rfl rfl rfl rfl)
         exact norm_ (by simp only [putAll, Act.put, zq1, zq2, zq3]) (hCont (.slice g8 U0.length i8, .slice D4 M0.length E4, .slice B4 E0.length C4, y) _ ⟨hHeld, (Kd.R_mono (zlR z.out) (fun _ hk => ⟨hk.1.2, hk.2⟩)), (Kd.R_mono (zlR E.out) (fun _ hk => ⟨hk.1.2, hk.2⟩)), (Kd.R_mono (zlR y0.out) (fun _ hk => ⟨hk.1.2, hk.2⟩)), (zM l), (zM a), (zM u), (zM q), t1.out, o1.out, I.out, J.out, x.out, L.out, O.out, T.out, zB⟩)
     · as_aux_lemma =>
       skip
       refine box_step ?hg (N := 8) ?hd (cs := #[.slice none 0 0, .slice none 0 0, .slice none 0 0, .int .i64 0, .int .i64 0, .int .i64 0]) (t := 30) ?hr ?_; (case hd => rfl); (case hg => rfl); (case hr => first | (go_simp; done) | (go_simp; rfl))
       intro y hg w50 hbox hb
       have X := z7 l hb
       have a0 := z7 a hb
       have b0 := z7 u hb
       have c0 := z8 hb
       have i0 := zK (hbox)
       have m0 := z9 hg
       have x0 := z9 hg
       have C0 := zHH hg l
       have V0 := zGG hg l
       have M1 := zHH hg a
       have B1 := zGG hg a
       have C1 := zHH hg u
       have D1 := zGG hg u
       revert X a0 b0 c0 i0 m0 x0 C0 V0 M1 B1 C1 D1
       clear l a u HB
       intro l a u HB q t1 o1 I J x L O T
       clear hb hbox hg
       refine hK.out _ _ ⟨zy a 0, zy a 1, zy a 2, zy a 3, zy a 4, zy a 5⟩ (fun hHeld => ?_)
       clear hK K
       refine zU 8 ?_
       refine one_ (i := 2) (N := some 40) (bl 19 196319) rfl rfl (one_of HT_.out (by kernel_rfl)) (by decide) (fun K hK => ?_)
       refine goes_ Try.func34 (by kernel_rfl) rfl #[.slice A1 t0.length m1] (by rfl) rfl rfl zL ?_
       refine (spec_l3Ints.calls _ _ t0 U0 _ (zS V2) f3.out F9.out).mono ?_
       rintro e w51 ⟨v171, rfl, g0, hb⟩
       refine ⟨_, rfl, ?_⟩
       have X := zK (Kd.R_lower g0 (zz zB))
       have a0 := z7 l hb
       have b0 := z7 a hb
       have c0 := z7 u hb
       have i0 := z7 q hb
       have m0 := z8 hb
       revert X a0 b0 c0 i0 m0
       clear l a u q HB
       intro z l a u q HB
       (try clear hb)
       (try clear hb2)
       (try clear hk)
       (try clear hi)
       (try clear g0)
       refine hK.out _ _ ⟨zy a 0, zy a 1, zy a 2, zy a 3, zy a 4, zy a 5⟩ (fun hHeld => ?_)
       clear hK K
       refine zU 40 ?_
       refine one_ (i := 5) (N := some 43) (bl 19 196351) rfl rfl (one_of HT_.out (by kernel_rfl)) (by decide) (fun K hK => ?_)
       refine goes_ Try.func34 (by kernel_rfl) rfl #[.slice n1 o0.length j1] (by rfl) rfl rfl zL ?_
       refine (spec_l3Ints.calls _ _ o0 M0 _ (zS b2) n2.out q5.out).mono ?_
       rintro e w52 ⟨v174, rfl, g0, hb⟩
       refine ⟨_, rfl, ?_⟩
       have X := zK (Kd.R_elder' (zkR z) (Kd.R_base g0) hb)
       have a0 := zK (Kd.R_lower (Kd.R_new' g0 (Kd.R_lt (zkR z))) (zz zB))
       have b0 := z7 l hb
       have c0 := z7 a hb
       have i0 := z7 u hb
       have m0 := z7 q hb
       have x0 := z8 hb
       revert X a0 b0 c0 i0 m0 x0
       clear z l a u q HB
       intro z E l a u q HB
       (try clear hb)
       (try clear hb2)
       (try clear hk)
       (try clear hi)
       (try clear g0)
       refine hK.out _ _ ⟨zy a 0, zy a 1, zy a 2, zy a 3, zy a 4, zy a 5⟩ (fun hHeld => ?_)
       clear hK K
       refine zU 43 ?_
       refine one_ (i := 8) (N := some 46) (bl 19 196607) rfl rfl (one_of HT_.out (by kernel_rfl)) (by decide) (fun K hK => ?_)
       refine goes_ Try.func34 (by kernel_rfl) rfl #[.slice i1 n0.length e1] (by rfl) rfl rfl zL ?_
       refine (spec_l3Ints.calls _ _ n0 E0 _ (zS O1) U1.out X3.out).mono ?_
       rintro e w53 ⟨v177, rfl, g0, hb⟩
       refine ⟨_, rfl, ?_⟩
       have X := zK (Kd.R_elder' (zkR z) (Kd.R_base g0) hb)
       have a0 := zK (Kd.R_elder' (zkR E) (Kd.R_base g0) hb)
       have b0 := zK (Kd.R_lower (Kd.R_new' (Kd.R_new' g0 (Kd.R_lt (zkR z))) (Kd.R_lt (zkR E))) (zz zB))
       have c0 := z7 l hb
       have i0 := z7 a hb
       have m0 := z7 u hb
       have x0 := z7 q hb
       have C0 := z8 hb
       revert X a0 b0 c0 i0 m0 x0 C0
       clear z E l a u q HB
       intro z E y0 l a u q HB
       (try clear hb)
       (try clear hb2)
       (try clear hk)
       (try clear hi)
       (try clear g0)
       obtain ⟨B4, C4, m3⟩ := Kd.R_slice y0.out
       (first | subst m3 | (injection m3 with f1_ f2_ f3_; have f4_ := f1_.symm; have f5_ := f3_.symm; clear f1_ f2_ f3_; subst f4_; subst f5_))
       obtain ⟨D4, E4, n3⟩ := Kd.R_slice E.out
       (first | subst n3 | (injection n3 with f1_ f2_ f3_; have f4_ := f1_.symm; have f5_ := f3_.symm; clear f1_ f2_ f3_; subst f4_; subst f5_))
       obtain ⟨g8, i8, l4⟩ := Kd.R_slice z.out
       (first | subst l4 | (injection l4 with f1_ f2_ f3_; have f4_ := f1_.symm; have f5_ := f3_.symm; clear f1_ f2_ f3_; subst f4_; subst f5_))
       refine hK.out _ _ ⟨zy a 0, zy a 1, zy a 2, zy a 3, zy a 4, zy a 5⟩ (fun hHeld => ?_)
       clear hK K
       refine zU 46 ?_
       refine zP 16 54 (bl 19 262143) HT_ ?_ (hr := fun w2_ => bld30 w2_ rfl rfl rfl rfl rfl rfl rfl)
       exact norm_ (by simp only [putAll, Act.put, zq1, zq2, zq3]) (hCont (.slice g8 U0.length i8, .slice D4 M0.length E4, .slice B4 E0.length C4, y) _ ⟨hHeld, (Kd.R_mono (zlR z.out) (fun _ hk => ⟨hk.1.2, hk.2⟩)), (Kd.R_mono (zlR E.out) (fun _ hk => ⟨hk.1.2, hk.2⟩)), (Kd.R_mono (zlR y0.out) (fun _ hk => ⟨hk.1.2, hk.2⟩)), (zM l), (zM a), (zM u), (zM q), t1.out, o1.out, I.out, J.out, x.out, L.out, O.out, T.out, zB⟩)
   rintro ⟨v171, v174, v177, y⟩ E2 ⟨hS_, J7, L7, M7, N7, O7, R7, S7, T7, U7, V7, b4, d4, e4, f4, g4, i4⟩
   have X : Aside0 (Kd.R (Kd.int .i64) 3 E2 w.heap.size (fun k_ => some k_ ≠ (v174 : Value).ownBlock ∧ some k_ ≠ (v177 : Value).ownBlock) v171 U0) := ⟨J7⟩
   have a0 : Aside0 (Kd.R (Kd.int .i64) 3 E2 w.heap.size (fun k_ => some k_ ≠ (v171 : Value).ownBlock ∧ some k_ ≠ (v177 : Value).ownBlock) v174 M0) := ⟨L7⟩
   have b0 : Aside0 (Kd.R (Kd.int .i64) 3 E2 w.heap.size (fun k_ => some k_ ≠ (v171 : Value).ownBlock ∧ some k_ ≠ (v174 : Value).ownBlock) v177 E0) := ⟨M7⟩
   have c0 : Aside0 (E2.heap[f0]? = some (.cells #[.int .i64 I0, .int .i64 N0, .int .i64 O0, .int .i64 R0, .int .i64 S0, .int .i64 D0, .int .i64 G0, .int .i64 T0, .int .i64 J0, .int .i64 L0, .int .i64 B0] 35 (0, 0))) := ⟨N7⟩
   have i0 : Aside0 (E2.heap[U]? = some (.cells #[.slice A1 t0.length m1, .slice n1 o0.length j1, .slice i1 n0.length e1, .int .i64 d0, .int .i64 e0, .int .i64 p0] 30 (0, 0))) := ⟨O7⟩
   have m0 : Aside0 (E2.heap[d1]? = some (.cells #[.slice none 0 0, .slice none 0 0, .slice none 0 0, .int .i64 0, .int .i64 0, .int .i64 0] 30 (0, 0))) := ⟨R7⟩
   have x0 : Aside0 (E2.heap[y]? = some (.cells #[.slice none 0 0, .slice none 0 0, .slice none 0 0, .int .i64 0, .int .i64 0, .int .i64 0] 30 (0, 0))) := ⟨S7⟩
   have C0 : Aside0 (w.heap.size ≤ y) := ⟨T7⟩
   have V0 : Aside0 (w.heap.size ≤ y) := ⟨U7⟩
   have M1 : Aside0 (f0 ≠ y) := ⟨V7⟩
   have B1 : Aside0 (y ≠ f0) := ⟨b4⟩
   have C1 : Aside0 (U ≠ y) := ⟨d4⟩
   have D1 : Aside0 (y ≠ U) := ⟨e4⟩
   have N1 : Aside0 (d1 ≠ y) := ⟨f4⟩
   have a2 : Aside0 (y ≠ d1) := ⟨g4⟩
   have l3 : Aside0 (Below w.heap.size w E2) := ⟨i4⟩
   clear l
   clear a
   clear u
   clear HB
   clear J7 L7 M7 N7 O7 R7 S7 T7 U7 V7 b4 d4 e4 f4 g4 i4
   revert X a0 b0 c0 i0 m0 x0 C0 V0 M1 B1 C1 D1 N1 a2 l3
   intro z E y0 l a u q t1 o1 I J x L O T HB
   have hHeld : E2.cell? ⟨U, 0, none⟩ = some (.slice A1 t0.length m1) ∧ E2.cell? ⟨U, 1, none⟩ = some (.slice n1 o0.length j1) ∧ E2.cell? ⟨U, 2, none⟩ = some (.slice i1 n0.length e1) ∧ E2.cell? ⟨U, 3, none⟩ = some (.int .i64 d0) ∧ E2.cell? ⟨U, 4, none⟩ = some (.int .i64 e0) ∧ E2.cell? ⟨U, 5, none⟩ = some (.int .i64 p0) := hS_
   obtain ⟨o2, t2, c0d⟩ := Kd.R_slice y0.out
   (first | subst c0d | (injection c0d with f1_ f2_ f3_; have f4_ := f1_.symm; have f5_ := f3_.symm; clear f1_ f2_ f3_; subst f4_; subst f5_))
   obtain ⟨x2, y2, c0e⟩ := Kd.R_slice E.out
   (first | subst c0e | (injection c0e with f1_ f2_ f3_; have f4_ := f1_.symm; have f5_ := f3_.symm; clear f1_ f2_ f3_; subst f4_; subst f5_))
   obtain ⟨B2, C2, c0f⟩ := Kd.R_slice z.out
   (first | subst c0f | (injection c0f with f1_ f2_ f3_; have f4_ := f1_.symm; have f5_ := f3_.symm; clear f1_ f2_ f3_; subst f4_; subst f5_))
   refine norm_ (a' := ?_) ?_ ?_
   rotate_left
   · simp only [putAll, Act.put, zq1, zq2, zq3]
     rfl
   refine one_ (i := 18) (N := none) (bl 19 524287) rfl rfl (one_of HT_.out (by kernel_rfl)) (by decide) (fun K hK => ?_)
   have e6q : E2.cell? ⟨y, 0, none⟩ = some (.slice none 0 0) := zy q 0
   have hfs61 := zf q.out 0
   have hns61_0 := I.out
   have hns61_1 := x.out
   have hns61_2 := O.out
   have hms61_0 := J.out
   have hms61_1 := L.out
   have hms61_2 := T.out
   have e6s : E2.cell? ⟨y, 1, none⟩ = some (.slice none 0 0) := zy q 1
   have hfs62 := zf q.out 1
   have hns62_0 := I.out
   have hns62_1 := x.out
   have hns62_2 := O.out
   have hms62_0 := J.out
   have hms62_1 := L.out
   have hms62_2 := T.out
   have e6t : E2.cell? ⟨y, 2, none⟩ = some (.slice none 0 0) := zy q 2
   have hfs63 := zf q.out 2
   have hns63_0 := I.out
   have hns63_1 := x.out
   have hns63_2 := O.out
   have hms63_0 := J.out
   have hms63_1 := L.out
   have hms63_2 := T.out
   have e6u : E2.cell? ⟨y, 3, none⟩ = some (.int .i64 0) := zy q 3
   have hfs64 := zf q.out 3
   have hns64_0 := I.out
   have hns64_1 := x.out
   have hns64_2 := O.out
   have hms64_0 := J.out
   have hms64_1 := L.out
   have hms64_2 := T.out
   have e6x : E2.cell? ⟨y, 4, none⟩ = some (.int .i64 0) := zy q 4
   have hfs65 := zf q.out 4
   have hns65_0 := I.out
   have hns65_1 := x.out
   have hns65_2 := O.out
   have hms65_0 := J.out
   have hms65_1 := L.out
   have hms65_2 := T.out
   have e6y : E2.cell? ⟨y, 5, none⟩ = some (.int .i64 0) := zy q 5
   have hfs66 := zf q.out 5
   have hns66_0 := I.out
   have hns66_1 := x.out
   have hns66_2 := O.out
   have hms66_0 := J.out
   have hms66_1 := L.out
   have hms66_2 := T.out
   refine skip_ (w1 := ?_) (by rfl) rfl ?_ ?_
   rotate_left
   · go_simp
     rfl
   refine hK.out _ _ ⟨((cell_far (p := ⟨y, _, none⟩) x.out _).trans (((cell_far (p := ⟨y, _, none⟩) x.out _).trans (((cell_far (p := ⟨y, _, none⟩) x.out _).trans (((cell_far (p := ⟨y, _, none⟩) x.out _).trans (((cell_far (p := ⟨y, _, none⟩) x.out _).trans (((cell_far (p := ⟨y, _, none⟩) x.out _).trans (hHeld.1)))))))))))), ((cell_far (p := ⟨y, _, none⟩) x.out _).trans (((cell_far (p := ⟨y, _, none⟩) x.out _).trans (((cell_far (p := ⟨y, _, none⟩) x.out _).trans (((cell_far (p := ⟨y, _, none⟩) x.out _).trans (((cell_far (p := ⟨y, _, none⟩) x.out _).trans (((cell_far (p := ⟨y, _, none⟩) x.out _).trans (hHeld.2.1)))))))))))), ((cell_far (p := ⟨y, _, none⟩) x.out _).trans (((cell_far (p := ⟨y, _, none⟩) x.out _).trans (((cell_far (p := ⟨y, _, none⟩) x.out _).trans (((cell_far (p := ⟨y, _, none⟩) x.out _).trans (((cell_far (p := ⟨y, _, none⟩) x.out _).trans (((cell_far (p := ⟨y, _, none⟩) x.out _).trans (hHeld.2.2.1)))))))))))), ((cell_far (p := ⟨y, _, none⟩) x.out _).trans (((cell_far (p := ⟨y, _, none⟩) x.out _).trans (((cell_far (p := ⟨y, _, none⟩) x.out _).trans (((cell_far (p := ⟨y, _, none⟩) x.out _).trans (((cell_far (p := ⟨y, _, none⟩) x.out _).trans (((cell_far (p := ⟨y, _, none⟩) x.out _).trans (hHeld.2.2.2.1)))))))))))), ((cell_far (p := ⟨y, _, none⟩) x.out _).trans (((cell_far (p := ⟨y, _, none⟩) x.out _).trans (((cell_far (p := ⟨y, _, none⟩) x.out _).trans (((cell_far (p := ⟨y, _, none⟩) x.out _).trans (((cell_far (p := ⟨y, _, none⟩) x.out _).trans (((cell_far (p := ⟨y, _, none⟩) x.out _).trans (hHeld.2.2.2.2.1)))))))))))), ((cell_far (p := ⟨y, _, none⟩) x.out _).trans (((cell_far (p := ⟨y, _, none⟩) x.out _).trans (((cell_far (p := ⟨y, _, none⟩) x.out _).trans (((cell_far (p := ⟨y, _, none⟩) x.out _).trans (((cell_far (p := ⟨y, _, none⟩) x.out _).trans (((cell_far (p := ⟨y, _, none⟩) x.out _).trans (hHeld.2.2.2.2.2))))))))))))⟩ (fun hHeld => ?_)
   clear hK K
   refine done_ (done_of HT_.out (by kernel_rfl)) ?_
   try go_wp2_with (first | ((with_reducible refine gc 35 rfl ?_); refine zF 56 Try.func35 #[.slice A2 l2.length c2] rfl zL ?_; refine (spec_l15Grad.calls E9 _ _ l2 true _ (z4 HR2.out zB) HC2.out A47.out).mono ?_; rintro e w' ⟨rfl, ⟨nd, rfl⟩⟩; refine ⟨_, rfl, ?_⟩) | ((with_reducible refine gd 67 rfl ?_); (try (refine gate_guard (by rfl) ?_; dsimp only)); refine Kd.R_lit (Kd.int .i64) _ 3 ?hg (N := 67) ?hd (xs := ([] : List Int)) (inner := []) (ok := fun _ => True) (okp := fun _ => True) ?hr ?hp (fun _ hk => hk) trivial (Below.refl _ _) (Nat.le_refl _) (by simp) ?_; (case hd => rfl); (case hg => rfl); (case hr => first | (go_simp; done) | (go_simp; rfl)); (case hp => exact (Reps.none _ _)); intro v182 w67 m4 hb hg_ hnew_; clear hg_ hnew_; (first | rw [← Ny181.out] at m4 | (simp only [Int.reduceToNat] at m4; rw [← Ny181.out] at m4)); have X := zK (Kd.R_elder' (Kd.R_mono (zlR (Kd.R_types z.out q.out (by decide))) (fun _ h_ => h_.1)) (Kd.R_base m4) hb); have a0 := zK (Kd.R_elder' (Kd.R_mono (zlR (Kd.R_types E.out q.out (by decide))) (fun _ h_ => h_.1)) (Kd.R_base m4) hb); have b0 := zK (Kd.R_elder' (Kd.R_mono (zlR (Kd.R_types y0.out q.out (by decide))) (fun _ h_ => h_.1)) (Kd.R_base m4) hb); have c0 := zK (Kd.R_lower (Kd.R_new' (Kd.R_new' (Kd.R_new' m4 (Kd.R_lt (Kd.R_mono (zlR (Kd.R_types z.out q.out (by decide))) (fun _ h_ => h_.1)))) (Kd.R_lt (Kd.R_mono (zlR (Kd.R_types E.out q.out (by decide))) (fun _ h_ => h_.1)))) (Kd.R_lt (Kd.R_mono (zlR (Kd.R_types y0.out q.out (by decide))) (fun _ h_ => h_.1)))) (zz zB)); have i0 := zK (zg (zV l) hb); have m0 := zK (zg (zV a) hb); have x0 := zK (zg (zV u) hb); have C0 := zK (zg (g := y) (o := .cells #[.slice B2 U0.length C2, .slice x2 M0.length y2, .slice o2 E0.length t2, .int .i64 (wrap64 (d0 + 1)), .int .i64 e0, .int .i64 p0] 30 (0, 0)) (zW q) hb); have V0 := z8 hb; revert X a0 b0 c0 i0 m0 x0 C0 V0; clear z E y0 l a u q HB; intro z E y0 c2l l a u q HB; clear hb m4))
   go_loopg [9, 10] E9 (fun kq v9 v10 w' => ∃ (S3 : List Int) (X1 : Int), v10 = .int .i64 X1 ∧ Aside0 (spec_StepOpt.l0 kq l2 S3 X1 I0 N0 O0 R0 S0 D0 G0 T0 J0 L0 B0 t0 o0 n0 d0 e0 p0 U0 M0 E0 (wrap64 (d0 + 1)) e0 p0 = some (r1, r2, r3, r4, r5, r6, r7)) ∧ Aside0 (kq ≤ E9) ∧ Aside0 (Kd.R (Kd.int .i64) 3 w' w.heap.size (fun k_ => some k_ ≠ ((.slice B2 U0.length C2) : Value).ownBlock ∧ some k_ ≠ ((.slice x2 M0.length y2) : Value).ownBlock ∧ some k_ ≠ ((.slice o2 E0.length t2) : Value).ownBlock) v9 S3) ∧ Aside0 (Kd.R (Kd.int .i64) 3 w' w.heap.size (fun k_ => some k_ ≠ (v9 : Value).ownBlock ∧ some k_ ≠ ((.slice x2 M0.length y2) : Value).ownBlock ∧ some k_ ≠ ((.slice o2 E0.length t2) : Value).ownBlock) (.slice B2 U0.length C2) U0) ∧ Aside0 (Kd.R (Kd.int .i64) 3 w' w.heap.size (fun k_ => some k_ ≠ (v9 : Value).ownBlock ∧ some k_ ≠ ((.slice B2 U0.length C2) : Value).ownBlock ∧ some k_ ≠ ((.slice o2 E0.length t2) : Value).ownBlock) (.slice x2 M0.length y2) M0) ∧ Aside0 (Kd.R (Kd.int .i64) 3 w' w.heap.size (fun k_ => some k_ ≠ (v9 : Value).ownBlock ∧ some k_ ≠ ((.slice B2 U0.length C2) : Value).ownBlock ∧ some k_ ≠ ((.slice x2 M0.length y2) : Value).ownBlock) (.slice o2 E0.length t2) E0) ∧ Aside0 (w'.heap[f0]? = some (.cells #[.int .i64 I0, .int .i64 N0, .int .i64 O0, .int .i64 R0, .int .i64 S0, .int .i64 D0, .int .i64 G0, .int .i64 T0, .int .i64 J0, .int .i64 L0, .int .i64 B0] 35 (0, 0))) ∧ Aside0 (w'.heap[U]? = some (.cells #[(.slice A1 t0.length m1), (.slice n1 o0.length j1), (.slice i1 n0.length e1), .int .i64 d0, .int .i64 e0, .int .i64 p0] 30 (0, 0))) ∧ Aside0 (w'.heap[d1]? = some (.cells #[(.slice none 0 0), (.slice none 0 0), (.slice none 0 0), .int .i64 0, .int .i64 0, .int .i64 0] 30 (0, 0))) ∧ Aside0 (w'.heap[y]? = some (.cells #[(.slice B2 U0.length C2), (.slice x2 M0.length y2), (.slice o2 E0.length t2), .int .i64 (wrap64 (d0 + 1)), .int .i64 e0, .int .i64 p0] 30 (0, 0))) ∧ Aside0 (Below w.heap.size w w'))
   case atStart => exact ⟨(c0a), (0), zR, H', ⟨Nat.le_refl _⟩, ⟨Kd.R_mono (zlR c2l.out) (fun _ hk => ⟨hk.1.1.2, ⟨hk.1.2, hk.2⟩⟩)⟩, ⟨Kd.R_mono (zlR z.out) (fun _ hk => ⟨hk.2, ⟨hk.1.1, hk.1.2⟩⟩)⟩, ⟨Kd.R_mono (zlR E.out) (fun _ hk => ⟨hk.2, ⟨hk.1.1, hk.1.2⟩⟩)⟩, ⟨Kd.R_mono (zlR y0.out) (fun _ hk => ⟨hk.2, ⟨hk.1.1, hk.1.2⟩⟩)⟩, ⟨zM l⟩, ⟨zM a⟩, ⟨zM u⟩, ⟨zM q⟩, ⟨zB⟩⟩
   clear H'
   try clear c1
   try clear c2
   try clear p2
   try clear c3
   try clear p6
   try clear c34
   try clear c35
   try clear n4
   obtain ⟨S3, X1, rfl, HA, e3, q0, B, D, A, l, a, u, q, HB⟩ := hrel
   rcases gk with _ | k2
   · exact absurd HA.out (by simp [spec_StepOpt.l0])
   have H := HA.out
   clear HA
   simp only [spec_StepOpt.l0] at H
   by_cases C5 : X1 < (l2.length : Int)
   · as_aux_lemma =>
     rw [if_pos C5] at H
     have b8 := z1 C5
     clear C5
     by_cases l8 : 0 ≤ X1
     rotate_left
     · rw [if_neg l8] at H
       exact absurd H (by simp)
     rw [if_pos l8] at H
     have a1e := z1 l8
     clear l8
     replace H := z6 H
     obtain ⟨a1f, c0l, H⟩ := H
     have A71 := zK c0l
     clear c0l
     by_cases m8 : S3.length < 17592186044416
     rotate_left
     · rw [if_neg m8] at H
       exact absurd H (by simp)
     rw [if_pos m8] at H
     have LMc72 := zK m8
     clear m8
     obtain ⟨c0m, D5⟩ : ∃ y_ : List Int, y_ = (S3 ++ [a1f]) := ⟨_, rfl⟩
     replace H : (spec_StepOpt.l0 k2 l2 c0m (wrap64 (X1 + 1)) I0 N0 O0 R0 S0 D0 G0 T0 J0 L0 B0 t0 o0 n0 d0 e0 p0 U0 M0 E0 (wrap64 (d0 + 1)) e0 p0) = some (r1, r2, r3, r4, r5, r6, r7) := by first | (rw [D5]; with_reducible exact H) | (have L2 := (Option.bind_some _ _).symm.trans H; rw [D5]; with_reducible exact L2) | (have L2 := (Option.bind_some _ _).symm.trans H; with_reducible exact L2) | with_reducible exact H | (rw [D5]; exact H) | exact H
     have Ny186 := zK D5
     clear D5
     have H' := zK H
     clear H
     try go_wp2
     have X := zK (Kd.R_drew q0.out)
     have a0 := zK (Kd.R_drew B.out)
     have b0 := zK (Kd.R_drew D.out)
     have c0 := zK (Kd.R_drew A.out)
     have i0 := zK (zd l.out)
     have m0 := zK (zd a.out)
     have x0 := zK (zd u.out)
     have C0 := zK (zd q.out)
     have V0 := zK (ze HB.out)
     revert X a0 b0 c0 i0 m0 x0 C0 V0
     clear q0 B D A l a u q HB
     intro q0 B D A l a u q HB
     have R5 : 0 ≤ (X1 : Int) := z3
     have S5 : X1 < (l2.length : Int) := z3
     obtain ⟨c2m, c8j, O2⟩ := Kd.at_int HR2.out X1 R5 S5
     have A3 := O2
     cases c8j
     (try replace O2 := zX HB O2)
     replace R5 := eq_true R5
     replace S5 := eq_true S5
     refine start_ (n := 11) (S := fun w' => w'.cell? ⟨U, 0, none⟩ = some (.slice A1 t0.length m1) ∧ w'.cell? ⟨U, 1, none⟩ = some (.slice n1 o0.length j1) ∧ w'.cell? ⟨U, 2, none⟩ = some (.slice i1 n0.length e1) ∧ w'.cell? ⟨U, 3, none⟩ = some (.int .i64 d0) ∧ w'.cell? ⟨U, 4, none⟩ = some (.int .i64 e0) ∧ w'.cell? ⟨U, 5, none⟩ = some (.int .i64 p0) ∧ w'.cell? (c2m.add (X1).toNat) = some (.int .i64 (rd l2 X1))) (ds := []) (bl 11 0) (by kernel_rfl) rfl (by kernel_rfl) ⟨zy a 0, zy a 1, zy a 2, zy a 3, zy a 4, zy a 5, (zX HB A3:)⟩ (fun hHeld => ?_); refine with_tabW spec_StepOpt.tab13 spec_StepOpt.bits13 (fun HT_ HW_ => ?_)
     generalize wr.drew = w73 at q0 B D A l a u q HB O2 hHeld ⊢
     refine zP 0 74 (bl 11 1) HT_ ?_
     refine zP 1 75 (bl 11 3) HT_ ?_
     refine zP 2 76 (bl 11 7) HT_ ?_
     refine zP 3 77 (bl 11 15) HT_ ?_
     refine zP 5 79 (bl 11 47) HT_ ?_
     refine zT 4 78 (bl 11 63) rfl rfl HT_ HW_ hHeld (by rintro w' ⟨s0, s1, s2, s3, s4, s5, s6⟩; go_simp; with_reducible rfl) ?_
     refine zT 6 80 (bl 11 127) rfl rfl HT_ HW_ hHeld (by rintro w' ⟨s0, s1, s2, s3, s4, s5, s6⟩; go_simp; with_reducible rfl) ?_
     refine one_ (i := 7) (N := some 81) (bl 11 255) rfl rfl (one_of HT_.out (by kernel_rfl)) (by decide) (fun K hK => ?_)
     refine goes_ Try.func36 (by kernel_rfl) rfl #[.int .i64 (rd l2 X1), .int .i64 e0] (by rfl) rfl rfl zL ?_
     with_reducible refine (spec_Near.calls (rd l2 X1) e0 a1f _ A71.out).mono ?_
     rintro e w' ⟨rfl, ⟨nd, rfl⟩⟩
     refine ⟨_, rfl, ?_⟩
     refine hK.out _ _ ⟨zy a 0, zy a 1, zy a 2, zy a 3, zy a 4, zy a 5, (zX HB A3:)⟩ (fun hHeld => ?_)
     clear hK K
     refine zU 81 ?_
     refine one_ (i := 8) (N := some 82) (bl 11 511) rfl rfl (one_of HT_.out (by kernel_rfl)) (by decide) (fun K hK => ?_)
     refine value_ (w1 := ?_) (v := ?_) (by rfl) rfl ?_ ?_
     rotate_left 2
     · go_simp
       constructor
       · rfl
       · rfl
     refine hK.out _ _ ⟨(zc (za a.out _) 0).trans rfl, (zc (za a.out _) 1).trans rfl, (zc (za a.out _) 2).trans rfl, (zc (za a.out _) 3).trans rfl, (zc (za a.out _) 4).trans rfl, (zc (za a.out _) 5).trans rfl, (World.cell?_alloc_lt _ _ _ (World.block_lt_of_cell? _ _ ((zX HB A3:)))).trans ((zX HB A3:))⟩ (fun hHeld => ?_)
     clear hK K
     refine zU 82 ?_
     refine one_ (i := 9) (N := some 83) (bl 11 1023) rfl rfl (one_of HT_.out (by kernel_rfl)) (by decide) (fun K hK => ?_)
     refine Kd.R_append_step (Kd.int .i64) (w0 := w) w.heap.size (by rfl) (.tmp 74) (.tmp 82) 26 3 (.int .i64 0) 8 rfl Try.underlying26 info3 rfl (by decide) (by omega) u9 S3 a1f [.int .i64 a1f] (fun k_ => some k_ ≠ (.slice B2 U0.length C2 : Value).ownBlock ∧ some k_ ≠ (.slice x2 M0.length y2 : Value).ownBlock ∧ some k_ ≠ (.slice o2 E0.length t2 : Value).ownBlock) (fun _ => False) rfl rfl ?aP (fun _ hk => hk.elim) ?aF ?aO ?aB ?aS ?aL ?_
     (case aP => exact rfl)
     (case aB => exact zB)
     (case aF => exact (fun k_ hk => ⟨Kd.fresh' (Kd.R_lt (zkR B)) k_ hk, Kd.fresh' (Kd.R_lt (zkR D)) k_ hk, Kd.fresh' (Kd.R_lt (zkR A)) k_ hk⟩))
     (case aO => exact (zkR q0))
     (case aS => exact (zz zB))
     (case aL => have := LMc72.out; omega)
     intro v187 w74 ho hb hg hat
     rw [← Ny186.out] at ho
     have X := zK (Kd.R_after (ok := (fun k_ => some k_ ≠ (.slice x2 M0.length y2 : Value).ownBlock ∧ some k_ ≠ (.slice o2 E0.length t2 : Value).ownBlock)) (Kd.R_mono (zlR B.out) (fun _ hk => ⟨⟨hk.2.1, hk.2.2⟩, hk.1⟩)) hg hat)
     have a0 := zK (Kd.R_after (ok := (fun k_ => some k_ ≠ (.slice B2 U0.length C2 : Value).ownBlock ∧ some k_ ≠ (.slice o2 E0.length t2 : Value).ownBlock)) (Kd.R_mono (zlR D.out) (fun _ hk => ⟨⟨hk.2.1, hk.2.2⟩, hk.1⟩)) hg hat)
     have b0 := zK (Kd.R_after (ok := (fun k_ => some k_ ≠ (.slice B2 U0.length C2 : Value).ownBlock ∧ some k_ ≠ (.slice x2 M0.length y2 : Value).ownBlock)) (Kd.R_mono (zlR A.out) (fun _ hk => ⟨⟨hk.2.1, hk.2.2⟩, hk.1⟩)) hg hat)
     have c0 := zK (blk_grown (zM l) hg (Kd.R_ne q0.out l.out (by decide)))
     have i0 := zK (blk_grown (zM a) hg (Kd.R_ne q0.out a.out (by decide)))
     have m0 := zK (blk_grown (zM u) hg (Kd.R_ne q0.out u.out (by decide)))
     have x0 := zK (blk_grown (zM q) hg (Kd.R_ne q0.out q.out (by decide)))
     have C0 := zK (hb)
     have V0 := zK (ho)
     revert X a0 b0 c0 i0 m0 x0 C0 V0
     clear B D A l a u q HB q0
     intro B D A l a u q HB c2n
     clear ho hb hg hat
     refine hK.out _ _ ⟨zy a 0, zy a 1, zy a 2, zy a 3, zy a 4, zy a 5, (zX HB A3:)⟩ (fun hHeld => ?_)
     clear hK K
     refine zU 83 ?_
     refine zP 10 9 (bl 11 2047) HT_ ?_
     refine done_ (done_of HT_.out (by kernel_rfl)) ?_
     try go_wp2
     go_roundg k2
     case measure => have := d3.out; have := e3.out; omega
     case rel => exact ⟨(c0m), (wrap64 (X1 + 1)), zR, H', ⟨by have := d3.out; have := e3.out; omega⟩, ⟨zkR c2n⟩, ⟨Kd.R_mono (zlR B.out) (fun _ hk => ⟨hk.2, ⟨hk.1.1, hk.1.2⟩⟩)⟩, ⟨Kd.R_mono (zlR D.out) (fun _ hk => ⟨hk.2, ⟨hk.1.1, hk.1.2⟩⟩)⟩, ⟨Kd.R_mono (zlR A.out) (fun _ hk => ⟨hk.2, ⟨hk.1.1, hk.1.2⟩⟩)⟩, ⟨zM l⟩, ⟨zM a⟩, ⟨zM u⟩, ⟨zM q⟩, ⟨zB⟩⟩
   rw [if_neg C5] at H
   have b8 := z2 C5
   clear C5
   have a3u := zK H
   clear H
   have e4z := E1.out
   have e5a := F1.out
   have e5b := f1.out
   have e5c := g1.out
   have e5d := I.out
   have e5e := J.out
   obtain ⟨U5, V5, X5, a6, b6, d6, e6, f6, g6, i6, F4, l6, m6, n6, o6, q6, t6, x6, y6, A6, B6, G4⟩ := zc11 l
   go_upto_if 86 with (fail)
   go_cut [9] (fun v9 wc => ∃ (kq : Nat) (d8 : List Int), Aside0 (spec_StepOpt.j2 kq d8 I0 N0 O0 R0 S0 D0 G0 T0 J0 L0 B0 t0 o0 n0 d0 e0 p0 U0 M0 E0 (wrap64 (d0 + 1)) e0 p0 = some (r1, r2, r3, r4, r5, r6, r7)) ∧ Aside0 (kq ≤ k2) ∧ Aside0 (Kd.R (Kd.int .i64) 3 wc w.heap.size (fun k_ => some k_ ≠ ((.slice B2 U0.length C2) : Value).ownBlock ∧ some k_ ≠ ((.slice x2 M0.length y2) : Value).ownBlock ∧ some k_ ≠ ((.slice o2 E0.length t2) : Value).ownBlock) v9 d8) ∧ Aside0 (Kd.R (Kd.int .i64) 3 wc w.heap.size (fun k_ => some k_ ≠ (v9 : Value).ownBlock ∧ some k_ ≠ ((.slice x2 M0.length y2) : Value).ownBlock ∧ some k_ ≠ ((.slice o2 E0.length t2) : Value).ownBlock) (.slice B2 U0.length C2) U0) ∧ Aside0 (Kd.R (Kd.int .i64) 3 wc w.heap.size (fun k_ => some k_ ≠ (v9 : Value).ownBlock ∧ some k_ ≠ ((.slice B2 U0.length C2) : Value).ownBlock ∧ some k_ ≠ ((.slice o2 E0.length t2) : Value).ownBlock) (.slice x2 M0.length y2) M0) ∧ Aside0 (Kd.R (Kd.int .i64) 3 wc w.heap.size (fun k_ => some k_ ≠ (v9 : Value).ownBlock ∧ some k_ ≠ ((.slice B2 U0.length C2) : Value).ownBlock ∧ some k_ ≠ ((.slice x2 M0.length y2) : Value).ownBlock) (.slice o2 E0.length t2) E0) ∧ Aside0 (wc.heap[f0]? = some (.cells #[.int .i64 I0, .int .i64 N0, .int .i64 O0, .int .i64 R0, .int .i64 S0, .int .i64 D0, .int .i64 G0, .int .i64 T0, .int .i64 J0, .int .i64 L0, .int .i64 B0] 35 (0, 0))) ∧ Aside0 (wc.heap[U]? = some (.cells #[(.slice A1 t0.length m1), (.slice n1 o0.length j1), (.slice i1 n0.length e1), .int .i64 d0, .int .i64 e0, .int .i64 p0] 30 (0, 0))) ∧ Aside0 (wc.heap[d1]? = some (.cells #[(.slice none 0 0), (.slice none 0 0), (.slice none 0 0), .int .i64 0, .int .i64 0, .int .i64 0] 30 (0, 0))) ∧ Aside0 (wc.heap[y]? = some (.cells #[(.slice B2 U0.length C2), (.slice x2 M0.length y2), (.slice o2 E0.length t2), .int .i64 (wrap64 (d0 + 1)), .int .i64 e0, .int .i64 p0] 30 (0, 0))) ∧ Aside0 (Below w.heap.size w wc))
   case first => as_aux_lemma =>
    have H := a3u.out
    clear a3u
    by_cases E5 : L0 > 0
    rotate_left
    · rw [if_neg E5] at H
      have t3 := z2 E5
      clear E5
      (first | rw [t3] | (simp only [i64_w, i32_w]; rw [t3]) | skip)
      have H' := zK H
      clear H
      go_wp2
      go_meet
      case rel => exact ⟨_, (S3), H', ⟨by have := d3.out; have := e3.out; first | omega | exact Nat.le_refl _⟩, ⟨zkR q0⟩, ⟨zkR B⟩, ⟨zkR D⟩, ⟨zkR A⟩, ⟨zM l⟩, ⟨zM a⟩, ⟨zM u⟩, ⟨zM q⟩, ⟨zB⟩⟩
    rw [if_pos E5] at H
    have t3 := z1 E5
    clear E5
    (first | rw [t3] | (simp only [i64_w, i32_w]; rw [t3]) | skip)
    replace H := z6 H
    obtain ⟨c0n, c0o, H⟩ := H
    have A81 := zK c0o
    clear c0o
    have H' := zK H
    clear H
    have e5f := E1.out
    have e5g := F1.out
    have e5j := f1.out
    have e5l := g1.out
    have e5m := I.out
    have e5n := J.out
    obtain ⟨C6, D6, E6, F6, G6, I6, J6, L6, M6, N6, I4, O6, R6, S6, T6, U6, V6, X6, a7, b7, d7, J4⟩ := zc11 l
    obtain ⟨c8l, c8m, c8n⟩ := Kd.R_slice q0.out
    subst c8n
    go_wp2_with (first | ((with_reducible refine gc 37 rfl ?_); refine zF 90 Try.func37 #[.slice c8l S3.length c8m, .int .i64 L0] rfl zL ?_; refine (spec_Clip.calls k2 _ _ S3 L0 c0n _ (zC (Kd.R_reads' q0.out).2.2) ((Kd.R_reads' q0.out).2.1) A81.out).mono ?_; rintro e w87 ⟨v190, rfl, g0, hb⟩; refine ⟨_, rfl, ?_⟩; have X := zK (Kd.R_elder' (zkR q0) (Kd.R_base g0) hb); have a0 := zK (Kd.R_elder' (zkR B) (Kd.R_base g0) hb); have b0 := zK (Kd.R_elder' (zkR D) (Kd.R_base g0) hb); have c0 := zK (Kd.R_elder' (zkR A) (Kd.R_base g0) hb); have i0 := zK (Kd.R_lower (Kd.R_new' (Kd.R_new' (Kd.R_new' (Kd.R_new' g0 (Kd.R_lt (zkR q0))) (Kd.R_lt (zkR B))) (Kd.R_lt (zkR D))) (Kd.R_lt (zkR A))) (zz zB)); have m0 := z7 l hb; have x0 := z7 a hb; have C0 := z7 u hb; have V0 := z7 q hb; have M1 := z8 hb; revert X a0 b0 c0 i0 m0 x0 C0 V0 M1; clear q0 B D A l a u q HB; intro q0 B D A c2o l a u q HB))
    go_meet
    case rel => exact ⟨_, (c0n), H', ⟨by have := d3.out; have := e3.out; first | omega | exact Nat.le_refl _⟩, ⟨Kd.R_mono (zlR c2o.out) (fun _ hk => ⟨hk.1.1.2, ⟨hk.1.2, hk.2⟩⟩)⟩, ⟨Kd.R_mono (zlR B.out) (fun _ hk => ⟨hk.2, ⟨hk.1.2.1, hk.1.2.2⟩⟩)⟩, ⟨Kd.R_mono (zlR D.out) (fun _ hk => ⟨hk.2, ⟨hk.1.2.1, hk.1.2.2⟩⟩)⟩, ⟨Kd.R_mono (zlR A.out) (fun _ hk => ⟨hk.2, ⟨hk.1.2.1, hk.1.2.2⟩⟩)⟩, ⟨zM l⟩, ⟨zM a⟩, ⟨zM u⟩, ⟨zM q⟩, ⟨zB⟩⟩
   case rest => as_aux_lemma =>
    clear a3u
    try clear c1
    try clear p1
    try clear q1
    try clear hx1
    try clear c2
    try clear p2
    try clear c3
    try clear c6
    try clear p6
    try clear c7
    try clear c8
    try clear p18
    try clear q18
    try clear c0p
    try clear c34
    try clear c35
    try clear D9
    try clear c37
    try clear n4
    try clear C5
    try clear b8
    try clear l8
    try clear a1e
    try clear m8
    try clear c76
    try clear c77
    try clear c78
    try clear E5
    try clear t3
    try clear c82
    try clear c83
    try clear c84
    try clear U5 V5 F4 X5 a6 b6 d6 e6 f6 g6 i6 l6 m6 G4 n6 o6 q6 t6 x6 y6 A6 B6
    try clear C6 D6 I4 E6 F6 G6 I6 J6 L6 M6 N6 O6 R6 J4 S6 T6 U6 V6 X6 a7 b7 d7
    try clear O2
    try clear R5
    try clear p2
    try clear p6
    try clear n4
    try clear S5
    obtain ⟨kq, d8, HA, b3, q0, B, D, A, l, a, u, q, HB⟩ := hcut
    cases kq with
    | zero => exact absurd HA.out (by simp [spec_StepOpt.j2])
    | succ c0q =>
     have H := HA.out
     clear HA
     simp only [spec_StepOpt.j2] at H
     replace H := z6 H
     obtain ⟨D2, c0s, H⟩ := H
     have A88 := zK c0s
     clear c0s
     have H' := zK H
     clear H
     have e5o := E1.out
     have e5p := F1.out
     have e5q := f1.out
     have e5s := g1.out
     have e5t := I.out
     have e5u := J.out
     obtain ⟨G9, I9, J9, L9, M9, N9, O9, R9, S9, T9, n8, U9, V9, X9, a0a, a0b, a0c, a0d, a0e, a0f, a0g, o8⟩ := zc11 l
     have e5x := G1.out
     have e5y := I1.out
     have e5z := x.out
     have e6a := L.out
     obtain ⟨a0j, a0l, a0m, a0n, a0o, a0p, a0q, a0s, a0t, a0u, a0x, a0y⟩ := zc6 a
     go_wp2_with (first | ((with_reducible refine gc 38 rfl ?_); refine zF 95 Try.func38 #[.agg #[.int .i64 N0, .int .i64 O0, .int .i64 R0, .int .i64 S0], .int .i64 d0] rfl zL ?_; (with_reducible refine (spec_Rate.calls N0 O0 R0 S0 d0 D2 _ A88.out).mono ?_); rintro e w96 ⟨rfl, hb⟩; refine ⟨_, rfl, ?_⟩; have X := zK (Kd.R_below (zkR q0) hb); have a0 := zK (Kd.R_below (zkR B) hb); have b0 := zK (Kd.R_below (zkR D) hb); have c0 := zK (Kd.R_below (zkR A) hb); have i0 := z7 l hb; have m0 := z7 a hb; have x0 := z7 u hb; have C0 := z7 q hb; have V0 := z8 hb; revert X a0 b0 c0 i0 m0 x0 C0 V0; clear q0 B D A l a u q HB; intro q0 B D A l a u q HB))
     go_loopg [12] c0q (fun kq v12 w' => ∃ (F0 : List Int) (M : Int) (X0 : List Int) (a1 : List Int) (A0 : List Int) (u180000 : Value) (u180001 : Value) (u180002 : Value), v12 = .int .i64 M ∧ Aside0 (spec_StepOpt.l1 kq F0 D2 M I0 N0 O0 R0 S0 D0 G0 T0 J0 L0 B0 t0 o0 n0 d0 e0 p0 X0 a1 A0 (wrap64 (d0 + 1)) e0 p0 = some (r1, r2, r3, r4, r5, r6, r7)) ∧ Aside0 (kq ≤ c0q) ∧ Aside0 (Kd.R (Kd.int .i64) 3 w' w.heap.size (fun k_ => some k_ ≠ (u180000 : Value).ownBlock ∧ some k_ ≠ (u180001 : Value).ownBlock ∧ some k_ ≠ (u180002 : Value).ownBlock) u9 F0) ∧ Aside0 (Kd.R (Kd.int .i64) 3 w' w.heap.size (fun k_ => some k_ ≠ (u9 : Value).ownBlock ∧ some k_ ≠ (u180001 : Value).ownBlock ∧ some k_ ≠ (u180002 : Value).ownBlock) u180000 X0) ∧ Aside0 (Kd.R (Kd.int .i64) 3 w' w.heap.size (fun k_ => some k_ ≠ (u9 : Value).ownBlock ∧ some k_ ≠ (u180000 : Value).ownBlock ∧ some k_ ≠ (u180002 : Value).ownBlock) u180001 a1) ∧ Aside0 (Kd.R (Kd.int .i64) 3 w' w.heap.size (fun k_ => some k_ ≠ (u9 : Value).ownBlock ∧ some k_ ≠ (u180000 : Value).ownBlock ∧ some k_ ≠ (u180001 : Value).ownBlock) u180002 A0) ∧ Aside0 (w'.heap[f0]? = some (.cells #[.int .i64 I0, .int .i64 N0, .int .i64 O0, .int .i64 R0, .int .i64 S0, .int .i64 D0, .int .i64 G0, .int .i64 T0, .int .i64 J0, .int .i64 L0, .int .i64 B0] 35 (0, 0))) ∧ Aside0 (w'.heap[U]? = some (.cells #[(.slice A1 t0.length m1), (.slice n1 o0.length j1), (.slice i1 n0.length e1), .int .i64 d0, .int .i64 e0, .int .i64 p0] 30 (0, 0))) ∧ Aside0 (w'.heap[d1]? = some (.cells #[(.slice none 0 0), (.slice none 0 0), (.slice none 0 0), .int .i64 0, .int .i64 0, .int .i64 0] 30 (0, 0))) ∧ Aside0 (w'.heap[y]? = some (.cells #[u180000, u180001, u180002, .int .i64 (wrap64 (d0 + 1)), .int .i64 e0, .int .i64 p0] 30 (0, 0))) ∧ Aside0 (Below w.heap.size w w'))
     case atStart => exact ⟨(d8), (0), (U0), (M0), (E0), (.slice B2 U0.length C2), (.slice x2 M0.length y2), (.slice o2 E0.length t2), zR, H', ⟨Nat.le_refl _⟩, ⟨zkR q0⟩, ⟨zkR B⟩, ⟨zkR D⟩, ⟨zkR A⟩, ⟨zM l⟩, ⟨zM a⟩, ⟨zM u⟩, ⟨zM q⟩, ⟨zB⟩⟩
     clear H'
     try clear c1
     try clear p1
     try clear q1
     try clear hx1
     try clear c2
     try clear p2
     try clear c3
     try clear c6
     try clear p6
     try clear c7
     try clear c8
     try clear c9
     try clear p18
     try clear q18
     try clear c0p
     try clear c34
     try clear c35
     try clear D9
     try clear c37
     try clear c38
     try clear n4
     try clear C5
     try clear b8
     try clear l8
     try clear a1e
     try clear m8
     try clear c76
     try clear c77
     try clear c78
     try clear E5
     try clear t3
     try clear c82
     try clear c83
     try clear c84
     try clear c89
     try clear c90
     try clear c91
     try clear c93
     try clear c94
     try clear U5 V5 F4 X5 a6 b6 d6 e6 f6 g6 i6 l6 m6 G4 n6 o6 q6 t6 x6 y6 A6 B6
     try clear C6 D6 I4 E6 F6 G6 I6 J6 L6 M6 N6 O6 R6 J4 S6 T6 U6 V6 X6 a7 b7 d7
     try clear G9 I9 n8 J9 L9 M9 N9 O9 R9 S9 T9 U9 V9 o8 X9 a0a a0b a0c a0d a0e a0f a0g
     try clear a0j a0l a0m a0n a0o a0p a0q a0s a0t a0u a0x a0y
     try clear O2
     try clear p1
     try clear p18
     try clear R5
     try clear p2
     try clear p6
     try clear n4
     try clear q1
     try clear q18
     try clear S5
     obtain ⟨F0, M, X0, a1, A0, u180000, u180001, u180002, rfl, HA, a4, q0, B, D, A, l, a, u, q, HB⟩ := hrel
     rcases gk with _ | k4
     · exact absurd HA.out (by simp [spec_StepOpt.l1])
     have H := HA.out
     clear HA
     simp only [spec_StepOpt.l1] at H
     by_cases F5 : M < (F0.length : Int)
     rotate_left
     · as_aux_lemma =>
       rw [if_neg F5] at H
       have e8 := z2 F5
       clear F5
       have a1l := zK H
       clear H
       obtain ⟨e6b, e6c, c2p⟩ := Kd.R_slice q0.out
       subst c2p
       have d7p := J.out
       have d7q := I.out
       have d7s := L.out
       have d7t := x.out
       have d7u := T.out
       have d7x := O.out
       have p8 : wr.cell? ⟨y, 0, none⟩ = some (u180000) := zy q 0
       have q8 : wr.cell? ⟨y, 1, none⟩ = some (u180001) := zy q 1
       have t8 : wr.cell? ⟨y, 2, none⟩ = some (u180002) := zy q 2
       have x8 : wr.cell? ⟨y, 3, none⟩ = some (.int .i64 (wrap64 (d0 + 1))) := zy q 3
       have y8 : wr.cell? ⟨y, 4, none⟩ = some (.int .i64 e0) := zy q 4
       have B8 : wr.cell? ⟨y, 5, none⟩ = some (.int .i64 p0) := zy q 5
       have C8 := zf q.out 0
       have D8 := zf q.out 1
       have E8 := zf q.out 2
       have F8 := zf q.out 3
       have G8 := zf q.out 4
       have I8 := zf q.out 5
       go_upto_if 228 with (fail)
       go_cut [] (fun wc => ∃ (kq : Nat) (y1 : Int), Aside0 (spec_StepOpt.j6 kq I0 N0 O0 R0 S0 D0 G0 T0 J0 L0 B0 X0 a1 A0 (wrap64 (d0 + 1)) e0 y1 = some (r1, r2, r3, r4, r5, r6, r7)) ∧ Aside0 (kq ≤ k4) ∧ Aside0 (Kd.R (Kd.int .i64) 3 wc w.heap.size (fun k_ => some k_ ≠ (u180001 : Value).ownBlock ∧ some k_ ≠ (u180002 : Value).ownBlock) u180000 X0) ∧ Aside0 (Kd.R (Kd.int .i64) 3 wc w.heap.size (fun k_ => some k_ ≠ (u180000 : Value).ownBlock ∧ some k_ ≠ (u180002 : Value).ownBlock) u180001 a1) ∧ Aside0 (Kd.R (Kd.int .i64) 3 wc w.heap.size (fun k_ => some k_ ≠ (u180000 : Value).ownBlock ∧ some k_ ≠ (u180001 : Value).ownBlock) u180002 A0) ∧ Aside0 (wc.heap[f0]? = some (.cells #[.int .i64 I0, .int .i64 N0, .int .i64 O0, .int .i64 R0, .int .i64 S0, .int .i64 D0, .int .i64 G0, .int .i64 T0, .int .i64 J0, .int .i64 L0, .int .i64 B0] 35 (0, 0))) ∧ Aside0 (wc.heap[U]? = some (.cells #[(.slice A1 t0.length m1), (.slice n1 o0.length j1), (.slice i1 n0.length e1), .int .i64 d0, .int .i64 e0, .int .i64 p0] 30 (0, 0))) ∧ Aside0 (wc.heap[d1]? = some (.cells #[(.slice none 0 0), (.slice none 0 0), (.slice none 0 0), .int .i64 0, .int .i64 0, .int .i64 0] 30 (0, 0))) ∧ Aside0 (wc.heap[y]? = some (.cells #[u180000, u180001, u180002, .int .i64 (wrap64 (d0 + 1)), .int .i64 e0, .int .i64 y1] 30 (0, 0))) ∧ Aside0 (Below w.heap.size w wc))
       case first => as_aux_lemma =>
        have H := a1l.out
        clear a1l
        by_cases o4 : p0 < 1000000
        rotate_left
        · rw [if_neg o4] at H
          have o3 := z2 o4
          clear o4
          (first | rw [o3] | (simp only [i64_w, i32_w]; rw [o3]) | skip)
          have H' := zK H
          clear H
          go_wp2
          go_meet
          case rel => exact ⟨_, (p0), H', ⟨by have := d3.out; have := e3.out; have := b3.out; have := a4.out; first | omega | exact Nat.le_refl _⟩, ⟨Kd.R_mono (zlR B.out) (fun _ hk => ⟨hk.2.1, hk.2.2⟩)⟩, ⟨Kd.R_mono (zlR D.out) (fun _ hk => ⟨hk.2.1, hk.2.2⟩)⟩, ⟨Kd.R_mono (zlR A.out) (fun _ hk => ⟨hk.2.1, hk.2.2⟩)⟩, ⟨zM l⟩, ⟨zM a⟩, ⟨zM u⟩, ⟨zM q⟩, ⟨zB⟩⟩
        rw [if_pos o4] at H
        have o3 := z1 o4
        clear o4
        (first | rw [o3] | (simp only [i64_w, i32_w]; rw [o3]) | skip)
        have H' := zK H
        clear H
        have d7y := J.out
        have d7z := I.out
        have d8a := L.out
        have d8b := x.out
        have d8c := T.out
        have d8d := O.out
        have J8 : wr.cell? ⟨y, 0, none⟩ = some (u180000) := zy q 0
        have L8 : wr.cell? ⟨y, 1, none⟩ = some (u180001) := zy q 1
        have M8 : wr.cell? ⟨y, 2, none⟩ = some (u180002) := zy q 2
        have N8 : wr.cell? ⟨y, 3, none⟩ = some (.int .i64 (wrap64 (d0 + 1))) := zy q 3
        have O8 : wr.cell? ⟨y, 4, none⟩ = some (.int .i64 e0) := zy q 4
        have R8 : wr.cell? ⟨y, 5, none⟩ = some (.int .i64 p0) := zy q 5
        have S8 := zf q.out 0
        have T8 := zf q.out 1
        have U8 := zf q.out 2
        have V8 := zf q.out 3
        have X8 := zf q.out 4
        have a9 := zf q.out 5
        go_wp2
        go_meet
        case rel => exact ⟨_, (wrap64 (p0 + 1)), H', ⟨by have := d3.out; have := e3.out; have := b3.out; have := a4.out; first | omega | exact Nat.le_refl _⟩, ⟨Kd.R_mono (zlR (Kd.R_types B.out q.out (by decide))) (fun _ hk => ⟨hk.1.2.1, hk.1.2.2⟩)⟩, ⟨Kd.R_mono (zlR (Kd.R_types D.out q.out (by decide))) (fun _ hk => ⟨hk.1.2.1, hk.1.2.2⟩)⟩, ⟨Kd.R_mono (zlR (Kd.R_types A.out q.out (by decide))) (fun _ hk => ⟨hk.1.2.1, hk.1.2.2⟩)⟩, ⟨zV l⟩, ⟨zV a⟩, ⟨zV u⟩, ⟨zW q⟩, ⟨zB⟩⟩
       case rest => as_aux_lemma =>
        clear a1l
        try clear c1
        try clear p1
        try clear q1
        try clear hx1
        try clear p2
        try clear q2
        try clear hx2
        try clear c3
        try clear c4
        try clear p6
        try clear c9
        try clear G7
        try clear c13
        try clear c14
        try clear p14
        try clear q14
        try clear c0t
        try clear hf14
        try clear c15
        try clear p15
        try clear q15
        try clear c8o
        try clear hf15
        try clear c16
        try clear p16
        try clear q16
        try clear c8p
        try clear hf16
        try clear c17
        try clear p20
        try clear q20
        try clear c0u
        try clear D9
        try clear c39
        try clear c41
        try clear n4
        try clear F5
        try clear e8
        try clear b9
        try clear d9
        try clear e7
        try clear f7
        try clear y3
        try clear G5
        try clear I5
        try clear L4
        try clear M4
        try clear N4
        try clear T3
        try clear U3
        try clear b1a
        try clear hf145
        try clear c0x
        try clear c0y
        try clear c0z
        try clear g7
        try clear a2d
        try clear i7
        try clear a2e
        try clear O4
        try clear R4
        try clear c2s
        try clear hf157
        try clear l7
        try clear a2f
        try clear S4
        try clear T4
        try clear c2t
        try clear hf160
        try clear c8q
        try clear c8s
        try clear c8t
        try clear c8u
        try clear c8x
        try clear c8y
        try clear o4
        try clear o3
        try clear c8z
        try clear c9a
        try clear c9b
        try clear U4 V4 X4 a5 b5 c5 d5 e5 f5 g5 i5 l5
        try clear e9 f9 g9 i9 j9 l9 m9 n9 o9 p9 q9 t9
        try clear p8 q8 t8 x8 y8 B8 C8 D8 E8 F8 G8 I8
        try clear J8 L8 M8 N8 O8 R8 S8 T8 U8 V8 X8 a9
        try clear m7
        try clear a0z
        try clear a1a
        try clear B3
        try clear R2
        try clear C3
        try clear D3
        try clear p1
        try clear p14
        try clear T3
        try clear O4
        try clear S4
        try clear p2
        try clear p20
        try clear n7
        try clear o7
        try clear p7
        try clear q7
        try clear p6
        try clear n4
        try clear q1
        try clear q14
        try clear U3
        try clear R4
        try clear T4
        try clear q2
        try clear q20
        try clear t7
        try clear x7
        try clear y7
        try clear A7
        obtain ⟨kq, y1, HA, b1b, B, D, A, l, a, u, q, HB⟩ := hcut
        cases kq with
        | zero => exact absurd HA.out (by simp [spec_StepOpt.j6])
        | succ c2u =>
         have H := HA.out
         clear HA
         simp only [spec_StepOpt.j6] at H
         have a1m := zK H
         clear H
         go_upto_region 39 with (fail)
         go_cut [242] (fun v242 wc => ∃ (kq : Nat) (V3 : Bool), v242 = .bool V3 ∧ Aside0 (spec_StepOpt.j7 kq V3 X0 a1 A0 (wrap64 (d0 + 1)) e0 y1 = some (r1, r2, r3, r4, r5, r6, r7)) ∧ Aside0 (kq ≤ c2u) ∧ Aside0 (Kd.R (Kd.int .i64) 3 wc w.heap.size (fun k_ => some k_ ≠ (u180001 : Value).ownBlock ∧ some k_ ≠ (u180002 : Value).ownBlock) u180000 X0) ∧ Aside0 (Kd.R (Kd.int .i64) 3 wc w.heap.size (fun k_ => some k_ ≠ (u180000 : Value).ownBlock ∧ some k_ ≠ (u180002 : Value).ownBlock) u180001 a1) ∧ Aside0 (Kd.R (Kd.int .i64) 3 wc w.heap.size (fun k_ => some k_ ≠ (u180000 : Value).ownBlock ∧ some k_ ≠ (u180001 : Value).ownBlock) u180002 A0) ∧ Aside0 (wc.heap[f0]? = some (.cells #[.int .i64 I0, .int .i64 N0, .int .i64 O0, .int .i64 R0, .int .i64 S0, .int .i64 D0, .int .i64 G0, .int .i64 T0, .int .i64 J0, .int .i64 L0, .int .i64 B0] 35 (0, 0))) ∧ Aside0 (wc.heap[U]? = some (.cells #[(.slice A1 t0.length m1), (.slice n1 o0.length j1), (.slice i1 n0.length e1), .int .i64 d0, .int .i64 e0, .int .i64 p0] 30 (0, 0))) ∧ Aside0 (wc.heap[d1]? = some (.cells #[(.slice none 0 0), (.slice none 0 0), (.slice none 0 0), .int .i64 0, .int .i64 0, .int .i64 0] 30 (0, 0))) ∧ Aside0 (wc.heap[y]? = some (.cells #[u180000, u180001, u180002, .int .i64 (wrap64 (d0 + 1)), .int .i64 e0, .int .i64 y1] 30 (0, 0))) ∧ Aside0 (Below w.heap.size w wc))
         case first => as_aux_lemma =>
          have H := a1m.out
          clear a1m
          by_cases m5 : B0 > 0
          rotate_left
          · as_aux_lemma =>
            rw [if_neg m5] at H
            have E3 := z2 m5
            clear m5
            (first | rw [E3] | (simp only [i64_w, i32_w]; rw [E3]) | skip)
            have H' := zK H
            clear H
            have d8g := E1.out
            have d8j := F1.out
            have d8l := f1.out
            have d8m := g1.out
            have d8n := I.out
            have d8o := J.out
            obtain ⟨a3x, a3y, a3z, a4a, a4b, a4c, a4d, a4e, a4f, a4g, a2g, a4j, a4l, a4m, a4n, a4o, a4p, a4q, a4s, a4t, a4u, a2j⟩ := zc11 l
            go_wp2
            go_meet
            case rel => exact ⟨_, (false), zR, H', ⟨by have := d3.out; have := e3.out; have := b3.out; have := a4.out; have := b1b.out; first | omega | exact Nat.le_refl _⟩, ⟨zkR B⟩, ⟨zkR D⟩, ⟨zkR A⟩, ⟨zM l⟩, ⟨zM a⟩, ⟨zM u⟩, ⟨zM q⟩, ⟨zB⟩⟩
          rw [if_pos m5] at H
          have E3 := z1 m5
          clear m5
          (first | rw [E3] | (simp only [i64_w, i32_w]; rw [E3]) | skip)
          have H' := zK H
          clear H
          have d8p := E1.out
          have d8q := F1.out
          have d8s := f1.out
          have d8t := g1.out
          have d8u := I.out
          have d8x := J.out
          obtain ⟨a4x, a4y, a4z, a5a, a5b, a5c, a5d, a5e, a5f, a5g, a2l, a5j, a5l, a5m, a5n, a5o, a5p, a5q, a5s, a5t, a5u, a2m⟩ := zc11 l
          have d8y := L.out
          have d8z := x.out
          have d9a := T.out
          have d9b := O.out
          have a5x : wc.cell? ⟨y, 0, none⟩ = some (u180000) := zy q 0
          have a5y : wc.cell? ⟨y, 1, none⟩ = some (u180001) := zy q 1
          have a5z : wc.cell? ⟨y, 2, none⟩ = some (u180002) := zy q 2
          have a6a : wc.cell? ⟨y, 3, none⟩ = some (.int .i64 (wrap64 (d0 + 1))) := zy q 3
          have a6b : wc.cell? ⟨y, 4, none⟩ = some (.int .i64 e0) := zy q 4
          have a6c : wc.cell? ⟨y, 5, none⟩ = some (.int .i64 y1) := zy q 5
          have a6d := zf q.out 0
          have a6e := zf q.out 1
          have a6f := zf q.out 2
          have a6g := zf q.out 3
          have a6j := zf q.out 4
          have a6l := zf q.out 5
          go_wp2
          go_meet
          case rel => exact ⟨_, (decide (y1 ≥ B0)), zR, H', ⟨by have := d3.out; have := e3.out; have := b3.out; have := a4.out; have := b1b.out; first | omega | exact Nat.le_refl _⟩, ⟨zkR B⟩, ⟨zkR D⟩, ⟨zkR A⟩, ⟨zM l⟩, ⟨zM a⟩, ⟨zM u⟩, ⟨zM q⟩, ⟨zB⟩⟩
         case rest => as_aux_lemma =>
          clear a1m
          try clear c1
          try clear p1
          try clear q1
          try clear hx1
          try clear p2
          try clear q2
          try clear hx2
          try clear c3
          try clear c4
          try clear p6
          try clear c9
          try clear G7
          try clear c13
          try clear c14
          try clear p14
          try clear q14
          try clear c0t
          try clear hf14
          try clear c15
          try clear p15
          try clear q15
          try clear c8o
          try clear hf15
          try clear c16
          try clear p16
          try clear q16
          try clear c8p
          try clear hf16
          try clear c17
          try clear c18
          try clear c19
          try clear p20
          try clear q20
          try clear c0u
          try clear D9
          try clear c39
          try clear c41
          try clear n4
          try clear F5
          try clear e8
          try clear b9
          try clear d9
          try clear e7
          try clear f7
          try clear y3
          try clear G5
          try clear I5
          try clear L4
          try clear M4
          try clear N4
          try clear T3
          try clear U3
          try clear b1a
          try clear hf145
          try clear c0x
          try clear c0y
          try clear c0z
          try clear g7
          try clear a2d
          try clear i7
          try clear a2e
          try clear O4
          try clear R4
          try clear c2s
          try clear hf157
          try clear l7
          try clear a2f
          try clear S4
          try clear T4
          try clear c2t
          try clear hf160
          try clear c8q
          try clear c8s
          try clear c8t
          try clear c8u
          try clear c8x
          try clear c8y
          try clear o4
          try clear o3
          try clear c8z
          try clear c9a
          try clear c9b
          try clear m5
          try clear E3
          try clear e6z
          try clear e7a
          try clear e7b
          try clear e7c
          try clear e7d
          try clear e7e
          try clear e7f
          try clear e7g
          try clear U4 V4 X4 a5 b5 c5 d5 e5 f5 g5 i5 l5
          try clear e9 f9 g9 i9 j9 l9 m9 n9 o9 p9 q9 t9
          try clear p8 q8 t8 x8 y8 B8 C8 D8 E8 F8 G8 I8
          try clear J8 L8 M8 N8 O8 R8 S8 T8 U8 V8 X8 a9
          try clear a4x a4y a2l a4z a5a a5b a5c a5d a5e a5f a5g a5j a5l a2m a5m a5n a5o a5p a5q a5s a5t a5u
          try clear a5x a5y a5z a6a a6b a6c a6d a6e a6f a6g a6j a6l
          try clear a3x a3y a2g a3z a4a a4b a4c a4d a4e a4f a4g a4j a4l a2j a4m a4n a4o a4p a4q a4s a4t a4u
          try clear m7
          try clear a0z
          try clear a1a
          try clear B3
          try clear R2
          try clear C3
          try clear D3
          try clear p1
          try clear p14
          try clear T3
          try clear p15
          try clear O4
          try clear p16
          try clear S4
          try clear p2
          try clear p20
          try clear n7
          try clear o7
          try clear p7
          try clear q7
          try clear p6
          try clear n4
          try clear q1
          try clear q14
          try clear U3
          try clear q15
          try clear R4
          try clear q16
          try clear T4
          try clear q2
          try clear q20
          try clear t7
          try clear x7
          try clear y7
          try clear A7
          obtain ⟨kq, V3, rfl, HA, e6d, B, D, A, l, a, u, q, HB⟩ := hcut
          cases kq with
          | zero => exact absurd HA.out (by simp [spec_StepOpt.j7])
          | succ e6e =>
           have H := HA.out
           clear HA
           simp only [spec_StepOpt.j7] at H
           by_cases a1n : V3 = true
           rotate_left
           · as_aux_lemma =>
             replace a1n := Bool.eq_false_iff.mpr a1n
             subst a1n
             rw [if_neg (show ¬ (false = true) by decide)] at H
             simp only [Option.some.injEq, Prod.mk.injEq] at H
             obtain ⟨rfl, rfl, rfl, rfl, rfl, rfl, rfl⟩ := H
             have d9c := J.out
             have d9d := I.out
             have d9e := L.out
             have d9f := x.out
             have d9g := T.out
             have d9j := O.out
             have c9c : wc.cell? ⟨y, 0, none⟩ = some (u180000) := zy q 0
             have c9d : wc.cell? ⟨y, 1, none⟩ = some (u180001) := zy q 1
             have c9e : wc.cell? ⟨y, 2, none⟩ = some (u180002) := zy q 2
             have c9f : wc.cell? ⟨y, 3, none⟩ = some (.int .i64 (wrap64 (d0 + 1))) := zy q 3
             have c9g : wc.cell? ⟨y, 4, none⟩ = some (.int .i64 e0) := zy q 4
             have c9j : wc.cell? ⟨y, 5, none⟩ = some (.int .i64 y1) := zy q 5
             have c9l := zf q.out 0
             have c9m := zf q.out 1
             have c9n := zf q.out 2
             have c9o := zf q.out 3
             have c9p := zf q.out 4
             have c9q := zf q.out 5
             obtain ⟨c2x, c2y, c2z⟩ := Kd.R_slice B.out
             subst c2z
             have d9l := g1.out
             have d9m := f1.out
             have d9n := I1.out
             have d9o := G1.out
             obtain ⟨c9s, c9t, c9u, c9x, c9y, c9z, d0a, d0b, d0c, d0d, d0e, d0f⟩ := zc6 u
             obtain ⟨c3a, c3b, c3c⟩ := Kd.R_slice D.out
             subst c3c
             obtain ⟨c3d, c3e, c3f⟩ := Kd.R_slice A.out
             subst c3f
             go_wp2
             refine bodyPost_ret (results_ct rfl _ _ d1 30 #[.slice c2x X0.length c2y, .slice c3a a1.length c3b, .slice c3d A0.length c3e, .int .i64 (wrap64 (d0 + 1)), .int .i64 e0, .int .i64 y1] (0, 0) _ rfl (zW u) Try.underlying30 rfl (by kernel_rfl)) rfl ?_
             exact ⟨_, _, _, zE, Kd.R_mono (zlR (Kd.R_types B.out u.out (by decide))) (fun _ hk => ⟨hk.1.1, hk.1.2⟩), Kd.R_mono (zlR (Kd.R_types D.out u.out (by decide))) (fun _ hk => ⟨hk.1.1, hk.1.2⟩), Kd.R_mono (zlR (Kd.R_types A.out u.out (by decide))) (fun _ hk => ⟨hk.1.1, hk.1.2⟩), zB⟩
           subst a1n
           rw [if_pos rfl] at H
           by_cases B7 : e0 < 65536
           rotate_left
           · as_aux_lemma =>
             rw [if_neg B7] at H
             have c1a := z2 B7
             clear B7
             simp only [Option.some.injEq, Prod.mk.injEq] at H
             obtain ⟨rfl, rfl, rfl, rfl, rfl, rfl, rfl⟩ := H
             have d9p := J.out
             have d9q := I.out
             have d9s := L.out
             have d9t := x.out
             have d9u := T.out
             have d9x := O.out
             have d0g : wc.cell? ⟨y, 0, none⟩ = some (u180000) := zy q 0
             have d0j : wc.cell? ⟨y, 1, none⟩ = some (u180001) := zy q 1
             have d0l : wc.cell? ⟨y, 2, none⟩ = some (u180002) := zy q 2
             have d0m : wc.cell? ⟨y, 3, none⟩ = some (.int .i64 (wrap64 (d0 + 1))) := zy q 3
             have d0n : wc.cell? ⟨y, 4, none⟩ = some (.int .i64 e0) := zy q 4
             have d0o : wc.cell? ⟨y, 5, none⟩ = some (.int .i64 y1) := zy q 5
             have d0p := zf q.out 0
             have d0q := zf q.out 1
             have d0s := zf q.out 2
             have d0t := zf q.out 3
             have d0u := zf q.out 4
             have d0x := zf q.out 5
             obtain ⟨c3g, c3j, c3l⟩ := Kd.R_slice B.out
             subst c3l
             have d9y := g1.out
             have d9z := f1.out
             have e0a := I1.out
             have e0b := G1.out
             obtain ⟨d0y, d0z, d1a, d1b, d1c, d1d, d1e, d1f, d1g, d1j, d1l, d1m⟩ := zc6 u
             obtain ⟨c3m, c3n, c3o⟩ := Kd.R_slice D.out
             subst c3o
             obtain ⟨c3p, c3q, c3s⟩ := Kd.R_slice A.out
             subst c3s
             go_wp2_with (first | ((with_reducible refine gate_store (t := 3) (p := 243) rfl ?_); refine store_event (t := 3) (p := 243) (v := ?vq_243b0) (w1 := (wc.setCell ⟨y, 5, none⟩ (.int .i64 0))) ?hg ?ho ?hn ?hr ?_; (case ho => rfl); (case hg => rfl); (case hn => rfl); (case hr => first | (go_simp; done) | (go_simp; rfl)); intro we1_ hw; have B := zT1 hw B.out q.out (by decide); have D := zT1 hw D.out q.out (by decide); have A := zT1 hw A.out q.out (by decide); have l := zB1 hw l.out (Aside0.out (by assumption)); have a := zB1 hw a.out (Aside0.out (by assumption)); have u := zB1 hw u.out (Aside0.out (by assumption)); have HB := zH1 hw HB.out (Aside0.out (by assumption)); have q := zS5 hw q.out; clear hw; obtain ⟨mb00_, mb01_, mb02_, mb03_, mb04_, mb05_, mb06_, mb07_, mb08_, mb09_, mb0a_, mb0b_⟩ := zc6 q; obtain ⟨nb00_, nb01_, nb02_, nb03_, nb04_, nb05_, nb06_, nb07_, nb08_, nb09_, nb0a_, nb0b_⟩ := zc6 u; skip))
             refine bodyPost_ret (results_ct rfl _ _ d1 30 #[.slice c3g X0.length c3j, .slice c3m a1.length c3n, .slice c3p A0.length c3q, .int .i64 (wrap64 (d0 + 1)), .int .i64 e0, .int .i64 0] (0, 0) _ rfl (zW u) Try.underlying30 rfl (by kernel_rfl)) rfl ?_
             exact ⟨_, _, _, zE, Kd.R_mono (zlR (Kd.R_types (Kd.R_types B.out q.out (by decide)) u.out (by decide))) (fun _ hk => ⟨hk.1.1.1, hk.1.1.2⟩), Kd.R_mono (zlR (Kd.R_types (Kd.R_types D.out q.out (by decide)) u.out (by decide))) (fun _ hk => ⟨hk.1.1.1, hk.1.1.2⟩), Kd.R_mono (zlR (Kd.R_types (Kd.R_types A.out q.out (by decide)) u.out (by decide))) (fun _ hk => ⟨hk.1.1.1, hk.1.1.2⟩), zB⟩
           rw [if_pos B7] at H
           have c1a := z1 B7
           clear B7
           simp only [Option.some.injEq, Prod.mk.injEq] at H
           obtain ⟨rfl, rfl, rfl, rfl, rfl, rfl, rfl⟩ := H
           have e0c := J.out
           have e0d := I.out
           have e0e := L.out
           have e0f := x.out
           have e0g := T.out
           have e0j := O.out
           have d1n : wc.cell? ⟨y, 0, none⟩ = some (u180000) := zy q 0
           have d1o : wc.cell? ⟨y, 1, none⟩ = some (u180001) := zy q 1
           have d1p : wc.cell? ⟨y, 2, none⟩ = some (u180002) := zy q 2
           have d1q : wc.cell? ⟨y, 3, none⟩ = some (.int .i64 (wrap64 (d0 + 1))) := zy q 3
           have d1s : wc.cell? ⟨y, 4, none⟩ = some (.int .i64 e0) := zy q 4
           have d1t : wc.cell? ⟨y, 5, none⟩ = some (.int .i64 y1) := zy q 5
           have d1u := zf q.out 0
           have d1x := zf q.out 1
           have d1y := zf q.out 2
           have d1z := zf q.out 3
           have d2a := zf q.out 4
           have d2b := zf q.out 5
           obtain ⟨c3t, c3u, c3x⟩ := Kd.R_slice B.out
           subst c3x
           have e0l := g1.out
           have e0m := f1.out
           have e0n := I1.out
           have e0o := G1.out
           obtain ⟨d2c, d2d, d2e, d2f, d2g, d2j, d2l, d2m, d2n, d2o, d2p, d2q⟩ := zc6 u
           obtain ⟨c3y, c3z, c4a⟩ := Kd.R_slice D.out
           subst c4a
           obtain ⟨c4b, c4c, c4d⟩ := Kd.R_slice A.out
           subst c4d
           go_wp2_with (first | ((with_reducible refine gate_store (t := 3) (p := 243) rfl ?_); refine store_event (t := 3) (p := 243) (v := ?vq_243b1) (w1 := (wc.setCell ⟨y, 5, none⟩ (.int .i64 0))) ?hg ?ho ?hn ?hr ?_; (case ho => rfl); (case hg => rfl); (case hn => rfl); (case hr => first | (go_simp; done) | (go_simp; rfl)); intro we1_ hw; have B := zT1 hw B.out q.out (by decide); have D := zT1 hw D.out q.out (by decide); have A := zT1 hw A.out q.out (by decide); have l := zB1 hw l.out (Aside0.out (by assumption)); have a := zB1 hw a.out (Aside0.out (by assumption)); have u := zB1 hw u.out (Aside0.out (by assumption)); have HB := zH1 hw HB.out (Aside0.out (by assumption)); have q := zS5 hw q.out; clear hw; obtain ⟨mb10_, mb11_, mb12_, mb13_, mb14_, mb15_, mb16_, mb17_, mb18_, mb19_, mb1a_, mb1b_⟩ := zc6 q; obtain ⟨nb10_, nb11_, nb12_, nb13_, nb14_, nb15_, nb16_, nb17_, nb18_, nb19_, nb1a_, nb1b_⟩ := zc6 u; skip) | ((with_reducible refine gate_store (t := 3) (p := 250) rfl ?_); refine store_event (t := 3) (p := 250) (v := ?vq_250c1) (w1 := (we1_.setCell ⟨y, 4, none⟩ (.int .i64 (wrap64 (e0 * 2))))) ?hg ?ho ?hn ?hr ?_; (case ho => rfl); (case hg => rfl); (case hn => rfl); (case hr => first | (go_simp; done) | (go_simp; rfl)); intro we2_ hw; have B := zT1 hw B.out q.out (by decide); have D := zT1 hw D.out q.out (by decide); have A := zT1 hw A.out q.out (by decide); have l := zB1 hw l.out (Aside0.out (by assumption)); have a := zB1 hw a.out (Aside0.out (by assumption)); have u := zB1 hw u.out (Aside0.out (by assumption)); have HB := zH1 hw HB.out (Aside0.out (by assumption)); have q := zS4 hw q.out; clear hw; obtain ⟨mc10_, mc11_, mc12_, mc13_, mc14_, mc15_, mc16_, mc17_, mc18_, mc19_, mc1a_, mc1b_⟩ := zc6 q; obtain ⟨nc10_, nc11_, nc12_, nc13_, nc14_, nc15_, nc16_, nc17_, nc18_, nc19_, nc1a_, nc1b_⟩ := zc6 u; skip))
           refine bodyPost_ret (results_ct rfl _ _ d1 30 #[.slice c3t X0.length c3u, .slice c3y a1.length c3z, .slice c4b A0.length c4c, .int .i64 (wrap64 (d0 + 1)), .int .i64 (wrap64 (e0 * 2)), .int .i64 0] (0, 0) _ rfl (zW u) Try.underlying30 rfl (by kernel_rfl)) rfl ?_
           exact ⟨_, _, _, zE, Kd.R_mono (zlR (Kd.R_types (Kd.R_types B.out q.out (by decide)) u.out (by decide))) (fun _ hk => ⟨hk.1.1.1, hk.1.1.2⟩), Kd.R_mono (zlR (Kd.R_types (Kd.R_types D.out q.out (by decide)) u.out (by decide))) (fun _ hk => ⟨hk.1.1.1, hk.1.1.2⟩), Kd.R_mono (zlR (Kd.R_types (Kd.R_types A.out q.out (by decide)) u.out (by decide))) (fun _ hk => ⟨hk.1.1.1, hk.1.1.2⟩), zB⟩
     rw [if_pos F5] at H
     have e8 := z1 F5
     clear F5
     by_cases b9 : 0 ≤ M
     rotate_left
     · rw [if_neg b9] at H
       exact absurd H (by simp)
     rw [if_pos b9] at H
     have c4e := z1 b9
     clear b9
     by_cases d9 : M < (t0.length : Int)
     rotate_left
     · rw [if_neg d9] at H
       exact absurd H (by simp)
     rw [if_pos d9] at H
     have c4f := z1 d9
     clear d9
     have a1o := zK H
     clear H
     obtain ⟨M2, J1, c4g⟩ := Kd.R_slice q0.out
     subst c4g
     have e0p := F1.out
     have e0q := E1.out
     have e0s := G1.out
     have e0t := I1.out
     have e0u := x.out
     have e0x := L.out
     obtain ⟨a6m, a6n, a6o, a6p, a6q, a6s, a6t, a6u, a6x, a6y, a6z, a7a⟩ := zc6 a
     have a1p : 0 ≤ (M : Int) := z3
     have a1q : M < (t0.length : Int) := z3
     obtain ⟨J5, d2s, C7⟩ := Kd.at_int V2.out M a1p a1q
     cases d2s
     (try replace C7 := zX HB C7)
     replace a1p := eq_true a1p
     replace a1q := eq_true a1q
     have e0y := f1.out
     have e0z := g1.out
     have e1a := I.out
     have e1b := J.out
     obtain ⟨a7b, a7c, a7d, a7e, a7f, a7g, a7j, a7l, a7m, a7n, a2n, a7o, a7p, a7q, a7s, a7t, a7u, a7x, a7y, a7z, a8a, a2o⟩ := zc11 l
     go_upto_if 109 with (fail)
     go_cut [13] (fun v13 wc => ∃ (kq : Nat) (a3 : Int), v13 = .int .i64 a3 ∧ Aside0 (spec_StepOpt.j4 kq F0 D2 M a3 I0 N0 O0 R0 S0 D0 G0 T0 J0 L0 B0 t0 o0 n0 d0 e0 p0 X0 a1 A0 (wrap64 (d0 + 1)) e0 p0 = some (r1, r2, r3, r4, r5, r6, r7)) ∧ Aside0 (kq ≤ k4) ∧ Aside0 (Kd.R (Kd.int .i64) 3 wc w.heap.size (fun k_ => some k_ ≠ (u180000 : Value).ownBlock ∧ some k_ ≠ (u180001 : Value).ownBlock ∧ some k_ ≠ (u180002 : Value).ownBlock) (.slice M2 F0.length J1) F0) ∧ Aside0 (Kd.R (Kd.int .i64) 3 wc w.heap.size (fun k_ => some k_ ≠ ((.slice M2 F0.length J1) : Value).ownBlock ∧ some k_ ≠ (u180001 : Value).ownBlock ∧ some k_ ≠ (u180002 : Value).ownBlock) u180000 X0) ∧ Aside0 (Kd.R (Kd.int .i64) 3 wc w.heap.size (fun k_ => some k_ ≠ ((.slice M2 F0.length J1) : Value).ownBlock ∧ some k_ ≠ (u180000 : Value).ownBlock ∧ some k_ ≠ (u180002 : Value).ownBlock) u180001 a1) ∧ Aside0 (Kd.R (Kd.int .i64) 3 wc w.heap.size (fun k_ => some k_ ≠ ((.slice M2 F0.length J1) : Value).ownBlock ∧ some k_ ≠ (u180000 : Value).ownBlock ∧ some k_ ≠ (u180001 : Value).ownBlock) u180002 A0) ∧ Aside0 (wc.heap[f0]? = some (.cells #[.int .i64 I0, .int .i64 N0, .int .i64 O0, .int .i64 R0, .int .i64 S0, .int .i64 D0, .int .i64 G0, .int .i64 T0, .int .i64 J0, .int .i64 L0, .int .i64 B0] 35 (0, 0))) ∧ Aside0 (wc.heap[U]? = some (.cells #[(.slice (some J5) t0.length m1), (.slice n1 o0.length j1), (.slice i1 n0.length e1), .int .i64 d0, .int .i64 e0, .int .i64 p0] 30 (0, 0))) ∧ Aside0 (wc.heap[d1]? = some (.cells #[(.slice none 0 0), (.slice none 0 0), (.slice none 0 0), .int .i64 0, .int .i64 0, .int .i64 0] 30 (0, 0))) ∧ Aside0 (wc.heap[y]? = some (.cells #[u180000, u180001, u180002, .int .i64 (wrap64 (d0 + 1)), .int .i64 e0, .int .i64 p0] 30 (0, 0))) ∧ Aside0 (Below w.heap.size w wc))
     case first => as_aux_lemma =>
      have H := a1o.out
      clear a1o
      by_cases n5 : J0 > 0
      rotate_left
      · rw [if_neg n5] at H
        have F3 := z2 n5
        clear n5
        (first | rw [F3] | (simp only [i64_w, i32_w]; rw [F3]) | skip)
        have H' := zK H
        clear H
        go_wp2
        go_meet
        case rel => exact ⟨_, (rd t0 M), zR, H', ⟨by have := d3.out; have := e3.out; have := b3.out; have := a4.out; first | omega | exact Nat.le_refl _⟩, ⟨zkR q0⟩, ⟨zkR B⟩, ⟨zkR D⟩, ⟨zkR A⟩, ⟨zM l⟩, ⟨zM a⟩, ⟨zM u⟩, ⟨zM q⟩, ⟨zB⟩⟩
      rw [if_pos n5] at H
      have F3 := z1 n5
      clear n5
      (first | rw [F3] | (simp only [i64_w, i32_w]; rw [F3]) | skip)
      replace H := z6 H
      obtain ⟨a8b, b1c, H⟩ := H
      have d2t := zK b1c
      clear b1c
      replace H := z6 H
      obtain ⟨a8c, b1d, H⟩ := H
      have d2u := zK b1d
      clear b1d
      replace H := z6 H
      obtain ⟨c1b, b1e, H⟩ := H
      have d2x := zK b1e
      clear b1e
      have H' := zK H
      clear H
      have e1c := E1.out
      have e1d := F1.out
      have e1e := f1.out
      have e1f := g1.out
      have e1g := I.out
      have e1j := J.out
      obtain ⟨a8d, a8e, a8f, a8g, a8j, a8l, a8m, a8n, a8o, a8p, a2p, a8q, a8s, a8t, a8u, a8x, a8y, a8z, a9a, a9b, a9c, a2q⟩ := zc11 l
      go_wp2_with (first | ((with_reducible refine gc 36 rfl ?_); refine zF 116 Try.func36 #[.int .i64 (wrap64 (J0 * (rd t0 M))), .int .i64 65536] rfl zL ?_; (with_reducible refine (spec_Near.calls (wrap64 (J0 * (rd t0 M))) 65536 a8b _ d2t.out).mono ?_); rintro e w' ⟨rfl, ⟨nd, rfl⟩⟩; refine ⟨_, rfl, ?_⟩) | ((with_reducible refine gc 36 rfl ?_); refine zF 118 Try.func36 #[.int .i64 (wrap64 (D2 * a8b)), .int .i64 65536] rfl zL ?_; (with_reducible refine (spec_Near.calls (wrap64 (D2 * a8b)) 65536 a8c _ d2u.out).mono ?_); rintro e w' ⟨rfl, ⟨nd, rfl⟩⟩; refine ⟨_, rfl, ?_⟩) | ((with_reducible refine gc 39 rfl ?_); refine zF 120 Try.func39 #[.int .i64 (wrap64 ((rd t0 M) - a8c))] rfl zL ?_; (with_reducible refine (spec_l15Bring.calls (wrap64 ((rd t0 M) - a8c)) c1b _ d2x.out).mono ?_); rintro e w' ⟨rfl, ⟨nd, rfl⟩⟩; refine ⟨_, rfl, ?_⟩))
      go_meet
      case rel => exact ⟨_, (c1b), zR, H', ⟨by have := d3.out; have := e3.out; have := b3.out; have := a4.out; first | omega | exact Nat.le_refl _⟩, ⟨zkR q0⟩, ⟨zkR B⟩, ⟨zkR D⟩, ⟨zkR A⟩, ⟨zM l⟩, ⟨zM a⟩, ⟨zM u⟩, ⟨zM q⟩, ⟨zB⟩⟩
     case rest => as_aux_lemma =>
      clear a1o
      try clear c1
      try clear p1
      try clear q1
      try clear hx1
      try clear c2
      try clear p2
      try clear c3
      try clear c6
      try clear p6
      try clear c7
      try clear c8
      try clear c9
      try clear c10
      try clear G7
      try clear p18
      try clear q18
      try clear c0p
      try clear p19
      try clear q19
      try clear e7j
      try clear c34
      try clear c35
      try clear D9
      try clear c37
      try clear c38
      try clear c39
      try clear n4
      try clear C5
      try clear b8
      try clear l8
      try clear a1e
      try clear m8
      try clear c76
      try clear c77
      try clear c78
      try clear E5
      try clear t3
      try clear c82
      try clear c83
      try clear c84
      try clear c89
      try clear c90
      try clear c91
      try clear c93
      try clear c94
      try clear F5
      try clear e8
      try clear b9
      try clear c4e
      try clear d9
      try clear c4f
      try clear e7l
      try clear e7m
      try clear e7n
      try clear e7o
      try clear e7p
      try clear n5
      try clear F3
      try clear e7q
      try clear e7s
      try clear e7t
      try clear a6m a6n a6o a6p a6q a6s a6t a6u a6x a6y a6z a7a
      try clear a7b a7c a2n a7d a7e a7f a7g a7j a7l a7m a7n a7o a7p a2o a7q a7s a7t a7u a7x a7y a7z a8a
      try clear a8d a8e a2p a8f a8g a8j a8l a8m a8n a8o a8p a8q a8s a2q a8t a8u a8x a8y a8z a9a a9b a9c
      try clear U5 V5 F4 X5 a6 b6 d6 e6 f6 g6 i6 l6 m6 G4 n6 o6 q6 t6 x6 y6 A6 B6
      try clear C6 D6 I4 E6 F6 G6 I6 J6 L6 M6 N6 O6 R6 J4 S6 T6 U6 V6 X6 a7 b7 d7
      try clear G9 I9 n8 J9 L9 M9 N9 O9 R9 S9 T9 U9 V9 o8 X9 a0a a0b a0c a0d a0e a0f a0g
      try clear a0j a0l a0m a0n a0o a0p a0q a0s a0t a0u a0x a0y
      try clear O2
      try clear C7
      try clear p1
      try clear p18
      try clear R5
      try clear a1p
      try clear p2
      try clear p6
      try clear n4
      try clear q1
      try clear q18
      try clear S5
      try clear a1q
      obtain ⟨kq, a3, rfl, HA, D7, q0, B, D, A, l, a, u, q, HB⟩ := hcut
      cases kq with
      | zero => exact absurd HA.out (by simp [spec_StepOpt.j4])
      | succ a9d =>
       have H := HA.out
       clear HA
       simp only [spec_StepOpt.j4] at H
       by_cases e7 : 0 ≤ M
       rotate_left
       · rw [if_neg e7] at H
         exact absurd H (by simp)
       rw [if_pos e7] at H
       have e1l := z1 e7
       clear e7
       by_cases f7 : M < (o0.length : Int)
       rotate_left
       · rw [if_neg f7] at H
         exact absurd H (by simp)
       rw [if_pos f7] at H
       have e1m := z1 f7
       clear f7
       have a1s := zK H
       clear H
       have e1n := F1.out
       have e1o := E1.out
       have e1p := G1.out
       have e1q := I1.out
       have e1s := x.out
       have e1t := L.out
       obtain ⟨d2y, d2z, d3a, d3b, d3c, d3d, d3e, d3f, d3g, d3j, d3l, d3m⟩ := zc6 a
       have a9e : 0 ≤ (M : Int) := z3
       have a9f : M < (o0.length : Int) := z3
       obtain ⟨f8, d3n, a1b⟩ := Kd.at_int b2.out M a9e a9f
       cases d3n
       (try replace a1b := zX HB a1b)
       replace a9e := eq_true a9e
       replace a9f := eq_true a9f
       have e1u := f1.out
       have e1x := g1.out
       have e1y := I.out
       have e1z := J.out
       obtain ⟨d3o, d3p, d3q, d3s, d3t, d3u, d3x, d3y, d3z, d4a, c5o, d4b, d4c, d4d, d4e, d4f, d4g, d4j, d4l, d4m, d4n, c5p⟩ := zc11 l
       go_upto_block 4 with (fail)
       go_cut [13, 14] (fun v13 v14 wc => ∃ (kq : Nat) (N2 : List Int) (i3 : Int) (j3 : Int) (L1 : List Int) (b1 : List Int) (V1 : List Int) (u180000 : Value) (u180001 : Value) (u180002 : Value), v13 = .int .i64 i3 ∧ v14 = .int .i64 j3 ∧ Aside0 (spec_StepOpt.j5 kq N2 D2 M i3 j3 I0 N0 O0 R0 S0 D0 G0 T0 J0 L0 B0 t0 o0 n0 d0 e0 p0 L1 b1 V1 (wrap64 (d0 + 1)) e0 p0 = some (r1, r2, r3, r4, r5, r6, r7)) ∧ Aside0 (kq ≤ a9d) ∧ Aside0 (Kd.R (Kd.int .i64) 3 wc w.heap.size (fun k_ => some k_ ≠ (u180000 : Value).ownBlock ∧ some k_ ≠ (u180001 : Value).ownBlock ∧ some k_ ≠ (u180002 : Value).ownBlock) (.slice M2 F0.length J1) N2) ∧ Aside0 (Kd.R (Kd.int .i64) 3 wc w.heap.size (fun k_ => some k_ ≠ ((.slice M2 F0.length J1) : Value).ownBlock ∧ some k_ ≠ (u180001 : Value).ownBlock ∧ some k_ ≠ (u180002 : Value).ownBlock) u180000 L1) ∧ Aside0 (Kd.R (Kd.int .i64) 3 wc w.heap.size (fun k_ => some k_ ≠ ((.slice M2 F0.length J1) : Value).ownBlock ∧ some k_ ≠ (u180000 : Value).ownBlock ∧ some k_ ≠ (u180002 : Value).ownBlock) u180001 b1) ∧ Aside0 (Kd.R (Kd.int .i64) 3 wc w.heap.size (fun k_ => some k_ ≠ ((.slice M2 F0.length J1) : Value).ownBlock ∧ some k_ ≠ (u180000 : Value).ownBlock ∧ some k_ ≠ (u180001 : Value).ownBlock) u180002 V1) ∧ Aside0 (wc.heap[f0]? = some (.cells #[.int .i64 I0, .int .i64 N0, .int .i64 O0, .int .i64 R0, .int .i64 S0, .int .i64 D0, .int .i64 G0, .int .i64 T0, .int .i64 J0, .int .i64 L0, .int .i64 B0] 35 (0, 0))) ∧ Aside0 (wc.heap[U]? = some (.cells #[(.slice (some J5) t0.length m1), (.slice (some f8) o0.length j1), (.slice i1 n0.length e1), .int .i64 d0, .int .i64 e0, .int .i64 p0] 30 (0, 0))) ∧ Aside0 (wc.heap[d1]? = some (.cells #[(.slice none 0 0), (.slice none 0 0), (.slice none 0 0), .int .i64 0, .int .i64 0, .int .i64 0] 30 (0, 0))) ∧ Aside0 (wc.heap[y]? = some (.cells #[u180000, u180001, u180002, .int .i64 (wrap64 (d0 + 1)), .int .i64 e0, .int .i64 p0] 30 (0, 0))) ∧ Aside0 (Below w.heap.size w wc))
       case first => as_aux_lemma =>
        have H := a1s.out
        clear a1s
        by_cases o5 : I0 = 1
        · as_aux_lemma =>
          rw [if_pos o5] at H
          have p4 := beq_iff_eq.mpr o5
          have c1c := bne_eq_false_iff_eq.mpr o5
          clear o5
          (first | rw [p4] | (simp only [i64_w, i32_w]; rw [p4]) | skip)
          by_cases a1t : M < (F0.length : Int)
          rotate_left
          · rw [if_neg a1t] at H
            exact absurd H (by simp)
          rw [if_pos a1t] at H
          have e2a := z1 a1t
          clear a1t
          replace H := z6 H
          obtain ⟨c1d, b1f, H⟩ := H
          have d4o := zK b1f
          clear b1f
          have H' := zK H
          clear H
          have a9g : 0 ≤ (M : Int) := z3
          have a9j : M < (F0.length : Int) := z3
          obtain ⟨e6f, d4p, d5z⟩ := Kd.at_int (Kd.R_reads' q0.out).2.2 M a9g a9j
          cases d4p
          replace a9g := eq_true a9g
          replace a9j := eq_true a9j
          go_wp2_with (first | ((with_reducible refine gc 36 rfl ?_); refine zF 137 Try.func36 #[.int .i64 (wrap64 (D2 * (rd F0 M))), .int .i64 65536] rfl zL ?_; (with_reducible refine (spec_Near.calls (wrap64 (D2 * (rd F0 M))) 65536 c1d _ d4o.out).mono ?_); rintro e w' ⟨rfl, ⟨nd, rfl⟩⟩; refine ⟨_, rfl, ?_⟩))
          go_meet
          case rel => exact ⟨_, (F0), (wrap64 (a3 - c1d)), (rd o0 M), (X0), (a1), (A0), (u180000), (u180001), (u180002), zR, zR, H', ⟨by have := d3.out; have := e3.out; have := b3.out; have := a4.out; have := D7.out; first | omega | exact Nat.le_refl _⟩, ⟨zkR q0⟩, ⟨zkR B⟩, ⟨zkR D⟩, ⟨zkR A⟩, ⟨zM l⟩, ⟨zM a⟩, ⟨zM u⟩, ⟨zM q⟩, ⟨zB⟩⟩
        rw [if_neg o5] at H
        have p4 := beq_eq_false_iff_ne.mpr o5
        have c1c := bne_iff_ne.mpr o5
        (first | rw [p4] | (simp only [i64_w, i32_w]; rw [p4]) | skip)
        by_cases p5 : I0 = 2
        · as_aux_lemma =>
          rw [if_pos p5] at H
          have c1e := beq_iff_eq.mpr p5
          have c1f := bne_eq_false_iff_eq.mpr p5
          clear p5
          replace H := z6 H
          obtain ⟨a9l, b1g, H⟩ := H
          have d4q := zK b1g
          clear b1g
          by_cases a1u : M < (F0.length : Int)
          rotate_left
          · rw [if_neg a1u] at H
            exact absurd H (by simp)
          rw [if_pos a1u] at H
          have e2b := z1 a1u
          clear a1u
          replace H := z6 H
          obtain ⟨a1x, b1j, H⟩ := H
          have d4s := zK b1j
          clear b1j
          replace H := z6 H
          obtain ⟨c1g, b1l, H⟩ := H
          have d4t := zK b1l
          clear b1l
          have H' := zK H
          clear H
          try go_wp2
          have X := zK (Kd.R_drew q0.out)
          have a0 := zK (Kd.R_drew B.out)
          have b0 := zK (Kd.R_drew D.out)
          have c0 := zK (Kd.R_drew A.out)
          have i0 := zK (zd l.out)
          have m0 := zK (zd a.out)
          have x0 := zK (zd u.out)
          have C0 := zK (zd q.out)
          have V0 := zK (ze HB.out)
          revert X a0 b0 c0 i0 m0 x0 C0 V0
          clear q0 B D A l a u q HB
          intro q0 B D A l a u q HB
          have a9m : 0 ≤ (M : Int) := z3
          have a9n : M < (F0.length : Int) := z3
          obtain ⟨c4j, d4u, a1c⟩ := Kd.at_int (Kd.R_reads' q0.out).2.2 M a9m a9n
          cases d4u
          replace a9m := eq_true a9m
          replace a9n := eq_true a9n
          refine start_ (n := 12) (S := fun w' => w'.cell? ⟨f0, 0, none⟩ = some (.int .i64 I0) ∧ w'.cell? ⟨f0, 1, none⟩ = some (.int .i64 N0) ∧ w'.cell? ⟨f0, 2, none⟩ = some (.int .i64 O0) ∧ w'.cell? ⟨f0, 3, none⟩ = some (.int .i64 R0) ∧ w'.cell? ⟨f0, 4, none⟩ = some (.int .i64 S0) ∧ w'.cell? ⟨f0, 5, none⟩ = some (.int .i64 D0) ∧ w'.cell? ⟨f0, 6, none⟩ = some (.int .i64 G0) ∧ w'.cell? ⟨f0, 7, none⟩ = some (.int .i64 T0) ∧ w'.cell? ⟨f0, 8, none⟩ = some (.int .i64 J0) ∧ w'.cell? ⟨f0, 9, none⟩ = some (.int .i64 L0) ∧ w'.cell? ⟨f0, 10, none⟩ = some (.int .i64 B0) ∧ w'.cell? (c4j.add (M).toNat) = some (.int .i64 (rd F0 M))) (ds := []) (bl 12 0) (by kernel_rfl) rfl (by kernel_rfl) ⟨zy l 0, zy l 1, zy l 2, zy l 3, zy l 4, zy l 5, zy l 6, zy l 7, zy l 8, zy l 9, zy l 10, a1c⟩ (fun hHeld => ?_); refine with_tabW spec_StepOpt.tab28 spec_StepOpt.bits28 (fun HT_ HW_ => ?_)
          generalize wc.drew = e7u at q0 B D A l a u q HB a1c hHeld ⊢
          refine zP 0 141 (bl 12 1) HT_ ?_
          refine zP 2 143 (bl 12 5) HT_ ?_
          refine zP 5 146 (bl 12 37) HT_ ?_
          refine zP 6 147 (bl 12 101) HT_ ?_
          refine zP 7 148 (bl 12 229) HT_ ?_
          refine zT 1 142 (bl 12 231) rfl rfl HT_ HW_ hHeld (by rintro w' ⟨s0, s1, s2, s3, s4, s5, s6, s7, s8, s9, q4, A4⟩; go_simp; with_reducible rfl) ?_
          refine zP 3 144 (bl 12 239) HT_ ?_
          refine zT 8 149 (bl 12 495) rfl rfl HT_ HW_ hHeld (by rintro w' ⟨s0, s1, s2, s3, s4, s5, s6, s7, s8, s9, q4, A4⟩; go_simp; with_reducible rfl) ?_
          refine one_ (i := 4) (N := some 145) (bl 12 511) rfl rfl (one_of HT_.out (by kernel_rfl)) (by decide) (fun K hK => ?_)
          refine goes_ Try.func36 (by kernel_rfl) rfl #[.int .i64 (wrap64 (D0 * (rd o0 M))), .int .i64 65536] (by rfl) rfl rfl zL ?_
          with_reducible refine (spec_Near.calls (wrap64 (D0 * (rd o0 M))) 65536 a9l _ d4q.out).mono ?_
          rintro e w' ⟨rfl, ⟨nd, rfl⟩⟩
          refine ⟨_, rfl, ?_⟩
          refine hK.out _ _ ⟨zy l 0, zy l 1, zy l 2, zy l 3, zy l 4, zy l 5, zy l 6, zy l 7, zy l 8, zy l 9, zy l 10, hHeld.2.2.2.2.2.2.2.2.2.2.2⟩ (fun hHeld => ?_)
          clear hK K
          refine zU 145 ?_
          refine zP 9 150 (bl 12 1023) HT_ ?_
          refine one_ (i := 10) (N := some 151) (bl 12 2047) rfl rfl (one_of HT_.out (by kernel_rfl)) (by decide) (fun K hK => ?_)
          refine goes_ Try.func40 (by kernel_rfl) rfl #[.int .i64 (wrap64 (a9l + (rd F0 M))), .int .i64 (-4294967296), .int .i64 4294967296] (by rfl) rfl rfl zL ?_
          with_reducible refine (spec_l14Clip.calls (wrap64 (a9l + (rd F0 M))) (-4294967296) 4294967296 a1x _ d4s.out).mono ?_
          rintro e w' ⟨rfl, ⟨nd, rfl⟩⟩
          refine ⟨_, rfl, ?_⟩
          refine hK.out _ _ ⟨zy l 0, zy l 1, zy l 2, zy l 3, zy l 4, zy l 5, zy l 6, zy l 7, zy l 8, zy l 9, zy l 10, hHeld.2.2.2.2.2.2.2.2.2.2.2⟩ (fun hHeld => ?_)
          clear hK K
          refine zU 151 ?_
          refine zP 11 14 (bl 12 4095) HT_ ?_
          refine done_ (done_of HT_.out (by kernel_rfl)) ?_
          try go_wp2_with (first | ((with_reducible refine gc 36 rfl ?_); refine zF 156 Try.func36 #[.int .i64 (wrap64 (D2 * a1x)), .int .i64 65536] rfl zL ?_; (with_reducible refine (spec_Near.calls (wrap64 (D2 * a1x)) 65536 c1g _ d4t.out).mono ?_); rintro e w' ⟨rfl, ⟨nd, rfl⟩⟩; refine ⟨_, rfl, ?_⟩))
          go_meet
          case rel => exact ⟨_, (F0), (wrap64 (a3 - c1g)), (a1x), (X0), (a1), (A0), (u180000), (u180001), (u180002), zR, zR, H', ⟨by have := d3.out; have := e3.out; have := b3.out; have := a4.out; have := D7.out; first | omega | exact Nat.le_refl _⟩, ⟨zkR q0⟩, ⟨zkR B⟩, ⟨zkR D⟩, ⟨zkR A⟩, ⟨zM l⟩, ⟨zM a⟩, ⟨zM u⟩, ⟨zM q⟩, ⟨zB⟩⟩
        rw [if_neg p5] at H
        have c1e := beq_eq_false_iff_ne.mpr p5
        have c1f := bne_iff_ne.mpr p5
        by_cases y3 : I0 = 3
        rotate_left
        · rw [if_neg y3] at H
          have G5 := beq_eq_false_iff_ne.mpr y3
          have I5 := bne_iff_ne.mpr y3
          have H' := zK H
          clear H
          go_wp2
          go_meet
          case rel => exact ⟨_, (F0), (a3), (rd o0 M), (X0), (a1), (A0), (u180000), (u180001), (u180002), zR, zR, H', ⟨by have := d3.out; have := e3.out; have := b3.out; have := a4.out; have := D7.out; first | omega | exact Nat.le_refl _⟩, ⟨zkR q0⟩, ⟨zkR B⟩, ⟨zkR D⟩, ⟨zkR A⟩, ⟨zM l⟩, ⟨zM a⟩, ⟨zM u⟩, ⟨zM q⟩, ⟨zB⟩⟩
        rw [if_pos y3] at H
        have G5 := beq_iff_eq.mpr y3
        have I5 := bne_eq_false_iff_eq.mpr y3
        clear y3
        by_cases L4 : M < (F0.length : Int)
        rotate_left
        · rw [if_neg L4] at H
          exact absurd H (by simp)
        rw [if_pos L4] at H
        have e2c := z1 L4
        clear L4
        replace H := z6 H
        obtain ⟨B9, b1m, H⟩ := H
        have d4x := zK b1m
        clear b1m
        by_cases M4 : M < (n0.length : Int)
        rotate_left
        · rw [if_neg M4] at H
          exact absurd H (by simp)
        rw [if_pos M4] at H
        have e2d := z1 M4
        clear M4
        replace H := z6 H
        obtain ⟨a9o, b1n, H⟩ := H
        have d4y := zK b1n
        clear b1n
        replace H := z6 H
        obtain ⟨E7, b1o, H⟩ := H
        have d4z := zK b1o
        clear b1o
        replace H := z6 H
        obtain ⟨a9p, b1p, H⟩ := H
        have d5a := zK b1p
        clear b1p
        replace H := z6 H
        obtain ⟨a9q, b1q, H⟩ := H
        have d5b := zK b1q
        clear b1q
        by_cases N4 : M < (A0.length : Int)
        rotate_left
        · rw [if_neg N4] at H
          exact absurd H (by simp)
        rw [if_pos N4] at H
        have e2e := z1 N4
        clear N4
        obtain ⟨a9s, L5⟩ : ∃ y_ : List Int, y_ = (A0.set (M : Int).toNat E7) := ⟨_, rfl⟩
        replace H : (spec_StepOpt.j5 a9d F0 D2 M (wrap64 (a3 - a9q)) B9 I0 N0 O0 R0 S0 D0 G0 T0 J0 L0 B0 t0 o0 n0 d0 e0 p0 X0 a1 a9s (wrap64 (d0 + 1)) e0 p0) = some (r1, r2, r3, r4, r5, r6, r7) := by first | (rw [L5]; with_reducible exact H) | (have L2 := (Option.bind_some _ _).symm.trans H; rw [L5]; with_reducible exact L2) | (have L2 := (Option.bind_some _ _).symm.trans H; with_reducible exact L2) | with_reducible exact H | (rw [L5]; exact H) | exact H
        have Ny213 := zK L5
        clear L5
        have H' := zK H
        clear H
        try go_wp2
        have X := zK (Kd.R_drew q0.out)
        have a0 := zK (Kd.R_drew B.out)
        have b0 := zK (Kd.R_drew D.out)
        have c0 := zK (Kd.R_drew A.out)
        have i0 := zK (zd l.out)
        have m0 := zK (zd a.out)
        have x0 := zK (zd u.out)
        have C0 := zK (zd q.out)
        have V0 := zK (ze HB.out)
        revert X a0 b0 c0 i0 m0 x0 C0 V0
        clear q0 B D A l a u q HB
        intro q0 B D A l a u q HB
        have n7 : 0 ≤ (M : Int) := z3
        have t7 : M < (F0.length : Int) := z3
        obtain ⟨R1, d5c, B3⟩ := Kd.at_int (Kd.R_reads' q0.out).2.2 M n7 t7
        cases d5c
        replace n7 := eq_true n7
        replace t7 := eq_true t7
        refine start_ (n := 15) (S := fun w' => w'.cell? ⟨f0, 0, none⟩ = some (.int .i64 I0) ∧ w'.cell? ⟨f0, 1, none⟩ = some (.int .i64 N0) ∧ w'.cell? ⟨f0, 2, none⟩ = some (.int .i64 O0) ∧ w'.cell? ⟨f0, 3, none⟩ = some (.int .i64 R0) ∧ w'.cell? ⟨f0, 4, none⟩ = some (.int .i64 S0) ∧ w'.cell? ⟨f0, 5, none⟩ = some (.int .i64 D0) ∧ w'.cell? ⟨f0, 6, none⟩ = some (.int .i64 G0) ∧ w'.cell? ⟨f0, 7, none⟩ = some (.int .i64 T0) ∧ w'.cell? ⟨f0, 8, none⟩ = some (.int .i64 J0) ∧ w'.cell? ⟨f0, 9, none⟩ = some (.int .i64 L0) ∧ w'.cell? ⟨f0, 10, none⟩ = some (.int .i64 B0) ∧ w'.cell? (R1.add (M).toNat) = some (.int .i64 (rd F0 M))) (ds := []) (bl 15 0) (by kernel_rfl) rfl (by kernel_rfl) ⟨zy l 0, zy l 1, zy l 2, zy l 3, zy l 4, zy l 5, zy l 6, zy l 7, zy l 8, zy l 9, zy l 10, B3⟩ (fun hHeld => ?_); refine with_tabW spec_StepOpt.tab31 spec_StepOpt.bits31 (fun HT_ HW_ => ?_)
        generalize wc.drew = T2 at q0 B D A l a u q HB B3 hHeld ⊢
        refine zP 0 160 (bl 15 1) HT_ ?_
        refine zP 2 162 (bl 15 5) HT_ ?_
        refine zP 4 164 (bl 15 21) HT_ ?_
        refine zP 7 167 (bl 15 149) HT_ ?_
        refine zP 8 168 (bl 15 405) HT_ ?_
        refine zP 9 169 (bl 15 917) HT_ ?_
        refine zT 1 161 (bl 15 919) rfl rfl HT_ HW_ hHeld (by rintro w' ⟨s0, s1, s2, s3, s4, s5, s6, s7, s8, s9, q4, A4⟩; go_simp; with_reducible rfl) ?_
        refine zP 3 163 (bl 15 927) HT_ ?_
        refine zT 5 165 (bl 15 959) rfl rfl HT_ HW_ hHeld (by rintro w' ⟨s0, s1, s2, s3, s4, s5, s6, s7, s8, s9, q4, A4⟩; go_simp; with_reducible rfl) ?_
        refine zP 6 166 (bl 15 1023) HT_ ?_
        refine zT 10 170 (bl 15 2047) rfl rfl HT_ HW_ hHeld (by rintro w' ⟨s0, s1, s2, s3, s4, s5, s6, s7, s8, s9, q4, A4⟩; go_simp; with_reducible rfl) ?_
        refine zP 11 171 (bl 15 4095) HT_ ?_
        refine zP 12 172 (bl 15 8191) HT_ ?_
        refine one_ (i := 13) (N := some 173) (bl 15 16383) rfl rfl (one_of HT_.out (by kernel_rfl)) (by decide) (fun K hK => ?_)
        refine goes_ Try.func36 (by kernel_rfl) rfl #[.int .i64 (wrap64 ((wrap64 (D0 * (rd o0 M))) + (wrap64 ((wrap64 (65536 - D0)) * (rd F0 M))))), .int .i64 65536] (by rfl) rfl rfl zL ?_
        with_reducible refine (spec_Near.calls (wrap64 ((wrap64 (D0 * (rd o0 M))) + (wrap64 ((wrap64 (65536 - D0)) * (rd F0 M))))) 65536 B9 _ d4x.out).mono ?_
        rintro e w' ⟨rfl, ⟨nd, rfl⟩⟩
        refine ⟨_, rfl, ?_⟩
        refine hK.out _ _ ⟨zy l 0, zy l 1, zy l 2, zy l 3, zy l 4, zy l 5, zy l 6, zy l 7, zy l 8, zy l 9, zy l 10, hHeld.2.2.2.2.2.2.2.2.2.2.2⟩ (fun hHeld => ?_)
        clear hK K
        refine zU 173 ?_
        refine zP 14 14 (bl 15 32767) HT_ ?_
        refine done_ (done_of HT_.out (by kernel_rfl)) ?_
        try go_wp2
        (try (rw [drewN_self T2]; generalize hq_ : World.drewN T2 _ = T2; have X : Aside0 (Kd.R (Kd.int .i64) 3 T2 w.heap.size (fun k_ => (some k_ ≠ (.slice (some R1) F0.length J1 : Value).ownBlock ∧ (some k_ ≠ (u180001 : Value).ownBlock ∧ some k_ ≠ (u180002 : Value).ownBlock))) u180000 X0) := ⟨by rw [← hq_]; exact zkR B⟩; have a0 : Aside0 (Kd.R (Kd.int .i64) 3 T2 w.heap.size (fun k_ => (some k_ ≠ (.slice (some R1) F0.length J1 : Value).ownBlock ∧ (some k_ ≠ (u180000 : Value).ownBlock ∧ some k_ ≠ (u180002 : Value).ownBlock))) u180001 a1) := ⟨by rw [← hq_]; exact zkR D⟩; have b0 : Aside0 (Kd.R (Kd.int .i64) 3 T2 w.heap.size (fun k_ => (some k_ ≠ (.slice (some R1) F0.length J1 : Value).ownBlock ∧ (some k_ ≠ (u180000 : Value).ownBlock ∧ some k_ ≠ (u180001 : Value).ownBlock))) u180002 A0) := ⟨by rw [← hq_]; exact zkR A⟩; have c0 : Aside0 (Kd.R (Kd.int .i64) 3 T2 w.heap.size (fun k_ => (some k_ ≠ (u180000 : Value).ownBlock ∧ (some k_ ≠ (u180001 : Value).ownBlock ∧ some k_ ≠ (u180002 : Value).ownBlock))) (.slice (some R1) F0.length J1) F0) := ⟨by rw [← hq_]; exact zkR q0⟩; have i0 : Aside0 (T2.heap[f0]? = some (.cells #[.int .i64 I0, .int .i64 N0, .int .i64 O0, .int .i64 R0, .int .i64 S0, .int .i64 D0, .int .i64 G0, .int .i64 T0, .int .i64 J0, .int .i64 L0, .int .i64 B0] 35 (0, 0))) := ⟨by rw [← hq_]; exact (zM l)⟩; have m0 : Aside0 (T2.heap[U]? = some (.cells #[.slice (some J5) t0.length m1, .slice (some f8) o0.length j1, .slice i1 n0.length e1, .int .i64 d0, .int .i64 e0, .int .i64 p0] 30 (0, 0))) := ⟨by rw [← hq_]; exact (zM a)⟩; have x0 : Aside0 (T2.heap[d1]? = some (.cells #[.slice none 0 0, .slice none 0 0, .slice none 0 0, .int .i64 0, .int .i64 0, .int .i64 0] 30 (0, 0))) := ⟨by rw [← hq_]; exact (zM u)⟩; have C0 : Aside0 (T2.heap[y]? = some (.cells #[u180000, u180001, u180002, .int .i64 (wrap64 (d0 + 1)), .int .i64 e0, .int .i64 p0] 30 (0, 0))) := ⟨by rw [← hq_]; exact (zM q)⟩; have V0 : Aside0 (Below w.heap.size w T2) := ⟨by rw [← hq_]; exact zB⟩; clear B D A q0 l a u q HB hq_; revert X a0 b0 c0 i0 m0 x0 C0 V0; intro B D A q0 l a u q HB))
        have X := zK (Kd.R_drew q0.out)
        have a0 := zK (Kd.R_drew B.out)
        have b0 := zK (Kd.R_drew D.out)
        have c0 := zK (Kd.R_drew A.out)
        have i0 := zK (zd l.out)
        have m0 := zK (zd a.out)
        have x0 := zK (zd u.out)
        have C0 := zK (zd q.out)
        have V0 := zK (ze HB.out)
        revert X a0 b0 c0 i0 m0 x0 C0 V0
        clear q0 B D A l a u q HB
        intro q0 B D A l a u q HB
        have o7 : 0 ≤ (M : Int) := z3
        have x7 : M < (n0.length : Int) := z3
        obtain ⟨a1y, d5d, R2⟩ := Kd.at_int O1.out M o7 x7
        have F7 := R2
        cases d5d
        (try replace R2 := zX HB R2)
        replace o7 := eq_true o7
        replace x7 := eq_true x7
        have p7 : 0 ≤ (M : Int) := z3
        have y7 : M < (F0.length : Int) := z3
        obtain ⟨c4l, d5e, C3⟩ := Kd.at_int (Kd.R_reads' q0.out).2.2 M p7 y7
        obtain rfl : R1 = c4l := (by injection d5e)
        replace p7 := eq_true p7
        replace y7 := eq_true y7
        have q7 : 0 ≤ (M : Int) := z3
        have A7 : M < (F0.length : Int) := z3
        obtain ⟨c4m, d5f, D3⟩ := Kd.at_int (Kd.R_reads' q0.out).2.2 M q7 A7
        obtain rfl : R1 = c4m := (by injection d5f)
        replace q7 := eq_true q7
        replace A7 := eq_true A7
        refine start_ (n := 25) (S := fun w' => w'.cell? ⟨f0, 0, none⟩ = some (.int .i64 I0) ∧ w'.cell? ⟨f0, 1, none⟩ = some (.int .i64 N0) ∧ w'.cell? ⟨f0, 2, none⟩ = some (.int .i64 O0) ∧ w'.cell? ⟨f0, 3, none⟩ = some (.int .i64 R0) ∧ w'.cell? ⟨f0, 4, none⟩ = some (.int .i64 S0) ∧ w'.cell? ⟨f0, 5, none⟩ = some (.int .i64 D0) ∧ w'.cell? ⟨f0, 6, none⟩ = some (.int .i64 G0) ∧ w'.cell? ⟨f0, 7, none⟩ = some (.int .i64 T0) ∧ w'.cell? ⟨f0, 8, none⟩ = some (.int .i64 J0) ∧ w'.cell? ⟨f0, 9, none⟩ = some (.int .i64 L0) ∧ w'.cell? ⟨f0, 10, none⟩ = some (.int .i64 B0) ∧ w'.cell? ⟨U, 0, none⟩ = some (.slice (some J5) t0.length m1) ∧ w'.cell? ⟨U, 1, none⟩ = some (.slice (some f8) o0.length j1) ∧ w'.cell? ⟨U, 2, none⟩ = some (.slice (some a1y) n0.length e1) ∧ w'.cell? ⟨U, 3, none⟩ = some (.int .i64 d0) ∧ w'.cell? ⟨U, 4, none⟩ = some (.int .i64 e0) ∧ w'.cell? ⟨U, 5, none⟩ = some (.int .i64 p0) ∧ w'.cell? (a1y.add (M).toNat) = some (.int .i64 (rd n0 M)) ∧ w'.cell? (R1.add (M).toNat) = some (.int .i64 (rd F0 M)) ∧ w'.cell? (R1.add (M).toNat) = some (.int .i64 (rd F0 M))) (ds := []) (bl 25 0) (by kernel_rfl) rfl (by kernel_rfl) ⟨zy l 0, zy l 1, zy l 2, zy l 3, zy l 4, zy l 5, zy l 6, zy l 7, zy l 8, zy l 9, zy l 10, zy a 0, zy a 1, zy a 2, zy a 3, zy a 4, zy a 5, (zX HB F7:), C3, D3⟩ (fun hHeld => ?_); refine with_tabW spec_StepOpt.tab32 spec_StepOpt.bits32 (fun HT_ HW_ => ?_)
        generalize T2.drew = U2 at q0 B D A l a u q HB R2 C3 D3 hHeld ⊢
        refine zP 0 174 (bl 25 1) HT_ ?_
        refine zP 2 176 (bl 25 5) HT_ ?_
        refine zP 4 178 (bl 25 21) HT_ ?_
        refine zP 8 182 (bl 25 277) HT_ ?_
        refine zP 11 185 (bl 25 2325) HT_ ?_
        refine zP 12 186 (bl 25 6421) HT_ ?_
        refine zP 13 187 (bl 25 14613) HT_ ?_
        refine zP 15 189 (bl 25 47381) HT_ ?_
        refine zP 16 190 (bl 25 112917) HT_ ?_
        refine zP 17 191 (bl 25 243989) HT_ ?_
        refine zT 1 175 (bl 25 243991) rfl rfl HT_ HW_ hHeld (by rintro w' ⟨s0, s1, s2, s3, s4, s5, s6, s7, s8, s9, q4, A4, s12, s13, s14, s15, s16, s17, s18, s19⟩; go_simp; with_reducible rfl) ?_
        refine zT 3 177 (bl 25 243999) rfl rfl HT_ HW_ hHeld (by rintro w' ⟨s0, s1, s2, s3, s4, s5, s6, s7, s8, s9, q4, A4, s12, s13, s14, s15, s16, s17, s18, s19⟩; go_simp; with_reducible rfl) ?_
        refine zP 5 179 (bl 25 244031) HT_ ?_
        refine zT 6 180 (bl 25 244095) rfl rfl HT_ HW_ hHeld (by rintro w' ⟨s0, s1, s2, s3, s4, s5, s6, s7, s8, s9, q4, A4, s12, s13, s14, s15, s16, s17, s18, s19⟩; go_simp; with_reducible rfl) ?_
        refine zP 7 181 (bl 25 244223) HT_ ?_
        refine zT 9 183 (bl 25 244735) rfl rfl HT_ HW_ hHeld (by rintro w' ⟨s0, s1, s2, s3, s4, s5, s6, s7, s8, s9, q4, A4, s12, s13, s14, s15, s16, s17, s18, s19⟩; go_simp; with_reducible rfl) ?_
        refine zP 10 184 (bl 25 245759) HT_ ?_
        refine zT 14 188 (bl 25 262143) rfl rfl HT_ HW_ hHeld (by rintro w' ⟨s0, s1, s2, s3, s4, s5, s6, s7, s8, s9, q4, A4, s12, s13, s14, s15, s16, s17, s18, s19⟩; go_simp; with_reducible rfl) ?_
        refine zT 18 192 (bl 25 524287) rfl rfl HT_ HW_ hHeld (by rintro w' ⟨s0, s1, s2, s3, s4, s5, s6, s7, s8, s9, q4, A4, s12, s13, s14, s15, s16, s17, s18, s19⟩; go_simp; with_reducible rfl) ?_
        refine zP 19 193 (bl 25 1048575) HT_ ?_
        refine one_ (i := 20) (N := some 194) (bl 25 2097151) rfl rfl (one_of HT_.out (by kernel_rfl)) (by decide) (fun K hK => ?_)
        refine goes_ Try.func36 (by kernel_rfl) rfl #[.int .i64 (wrap64 ((rd F0 M) * (rd F0 M))), .int .i64 65536] (by rfl) rfl rfl zL ?_
        with_reducible refine (spec_Near.calls (wrap64 ((rd F0 M) * (rd F0 M))) 65536 a9o _ d4y.out).mono ?_
        rintro e w' ⟨rfl, ⟨nd, rfl⟩⟩
        refine ⟨_, rfl, ?_⟩
        refine hK.out _ _ ⟨zy l 0, zy l 1, zy l 2, zy l 3, zy l 4, zy l 5, zy l 6, zy l 7, zy l 8, zy l 9, zy l 10, zy a 0, zy a 1, zy a 2, zy a 3, zy a 4, zy a 5, (zX HB F7:), hHeld.2.2.2.2.2.2.2.2.2.2.2.2.2.2.2.2.2.2.1, hHeld.2.2.2.2.2.2.2.2.2.2.2.2.2.2.2.2.2.2.2⟩ (fun hHeld => ?_)
        clear hK K
        refine zU 194 ?_
        refine zP 21 195 (bl 25 4194303) HT_ ?_
        refine zP 22 196 (bl 25 8388607) HT_ ?_
        refine one_ (i := 23) (N := some 197) (bl 25 16777215) rfl rfl (one_of HT_.out (by kernel_rfl)) (by decide) (fun K hK => ?_)
        refine goes_ Try.func36 (by kernel_rfl) rfl #[.int .i64 (wrap64 ((wrap64 (G0 * (rd n0 M))) + (wrap64 ((wrap64 (65536 - G0)) * a9o)))), .int .i64 65536] (by rfl) rfl rfl zL ?_
        with_reducible refine (spec_Near.calls (wrap64 ((wrap64 (G0 * (rd n0 M))) + (wrap64 ((wrap64 (65536 - G0)) * a9o)))) 65536 E7 _ d4z.out).mono ?_
        rintro e w' ⟨rfl, ⟨nd, rfl⟩⟩
        refine ⟨_, rfl, ?_⟩
        refine hK.out _ _ ⟨zy l 0, zy l 1, zy l 2, zy l 3, zy l 4, zy l 5, zy l 6, zy l 7, zy l 8, zy l 9, zy l 10, zy a 0, zy a 1, zy a 2, zy a 3, zy a 4, zy a 5, (zX HB F7:), hHeld.2.2.2.2.2.2.2.2.2.2.2.2.2.2.2.2.2.2.1, hHeld.2.2.2.2.2.2.2.2.2.2.2.2.2.2.2.2.2.2.2⟩ (fun hHeld => ?_)
        clear hK K
        refine zU 197 ?_
        refine zP 24 15 (bl 25 33554431) HT_ ?_
        refine done_ (done_of HT_.out (by kernel_rfl)) ?_
        try go_wp2
        (try (rw [drewN_self U2]; generalize hq_ : World.drewN U2 _ = U2; have X : Aside0 (Kd.R (Kd.int .i64) 3 U2 w.heap.size (fun k_ => (some k_ ≠ (.slice (some R1) F0.length J1 : Value).ownBlock ∧ (some k_ ≠ (u180001 : Value).ownBlock ∧ some k_ ≠ (u180002 : Value).ownBlock))) u180000 X0) := ⟨by rw [← hq_]; exact zkR B⟩; have a0 : Aside0 (Kd.R (Kd.int .i64) 3 U2 w.heap.size (fun k_ => (some k_ ≠ (.slice (some R1) F0.length J1 : Value).ownBlock ∧ (some k_ ≠ (u180000 : Value).ownBlock ∧ some k_ ≠ (u180002 : Value).ownBlock))) u180001 a1) := ⟨by rw [← hq_]; exact zkR D⟩; have b0 : Aside0 (Kd.R (Kd.int .i64) 3 U2 w.heap.size (fun k_ => (some k_ ≠ (.slice (some R1) F0.length J1 : Value).ownBlock ∧ (some k_ ≠ (u180000 : Value).ownBlock ∧ some k_ ≠ (u180001 : Value).ownBlock))) u180002 A0) := ⟨by rw [← hq_]; exact zkR A⟩; have c0 : Aside0 (Kd.R (Kd.int .i64) 3 U2 w.heap.size (fun k_ => (some k_ ≠ (u180000 : Value).ownBlock ∧ (some k_ ≠ (u180001 : Value).ownBlock ∧ some k_ ≠ (u180002 : Value).ownBlock))) (.slice (some R1) F0.length J1) F0) := ⟨by rw [← hq_]; exact zkR q0⟩; have i0 : Aside0 (U2.heap[f0]? = some (.cells #[.int .i64 I0, .int .i64 N0, .int .i64 O0, .int .i64 R0, .int .i64 S0, .int .i64 D0, .int .i64 G0, .int .i64 T0, .int .i64 J0, .int .i64 L0, .int .i64 B0] 35 (0, 0))) := ⟨by rw [← hq_]; exact (zM l)⟩; have m0 : Aside0 (U2.heap[U]? = some (.cells #[.slice (some J5) t0.length m1, .slice (some f8) o0.length j1, .slice (some a1y) n0.length e1, .int .i64 d0, .int .i64 e0, .int .i64 p0] 30 (0, 0))) := ⟨by rw [← hq_]; exact (zM a)⟩; have x0 : Aside0 (U2.heap[d1]? = some (.cells #[.slice none 0 0, .slice none 0 0, .slice none 0 0, .int .i64 0, .int .i64 0, .int .i64 0] 30 (0, 0))) := ⟨by rw [← hq_]; exact (zM u)⟩; have C0 : Aside0 (U2.heap[y]? = some (.cells #[u180000, u180001, u180002, .int .i64 (wrap64 (d0 + 1)), .int .i64 e0, .int .i64 p0] 30 (0, 0))) := ⟨by rw [← hq_]; exact (zM q)⟩; have V0 : Aside0 (Below w.heap.size w U2) := ⟨by rw [← hq_]; exact zB⟩; clear B D A q0 l a u q HB hq_; revert X a0 b0 c0 i0 m0 x0 C0 V0; intro B D A q0 l a u q HB))
        have X := zK (Kd.R_drew q0.out)
        have a0 := zK (Kd.R_drew B.out)
        have b0 := zK (Kd.R_drew D.out)
        have c0 := zK (Kd.R_drew A.out)
        have i0 := zK (zd l.out)
        have m0 := zK (zd a.out)
        have x0 := zK (zd u.out)
        have C0 := zK (zd q.out)
        have V0 := zK (ze HB.out)
        revert X a0 b0 c0 i0 m0 x0 C0 V0
        clear q0 B D A l a u q HB
        intro q0 B D A l a u q HB
        refine start_ (n := 13) (S := fun w' => w'.cell? ⟨f0, 0, none⟩ = some (.int .i64 I0) ∧ w'.cell? ⟨f0, 1, none⟩ = some (.int .i64 N0) ∧ w'.cell? ⟨f0, 2, none⟩ = some (.int .i64 O0) ∧ w'.cell? ⟨f0, 3, none⟩ = some (.int .i64 R0) ∧ w'.cell? ⟨f0, 4, none⟩ = some (.int .i64 S0) ∧ w'.cell? ⟨f0, 5, none⟩ = some (.int .i64 D0) ∧ w'.cell? ⟨f0, 6, none⟩ = some (.int .i64 G0) ∧ w'.cell? ⟨f0, 7, none⟩ = some (.int .i64 T0) ∧ w'.cell? ⟨f0, 8, none⟩ = some (.int .i64 J0) ∧ w'.cell? ⟨f0, 9, none⟩ = some (.int .i64 L0) ∧ w'.cell? ⟨f0, 10, none⟩ = some (.int .i64 B0)) (ds := []) (bl 13 0) (by kernel_rfl) rfl (by kernel_rfl) ⟨zy l 0, zy l 1, zy l 2, zy l 3, zy l 4, zy l 5, zy l 6, zy l 7, zy l 8, zy l 9, zy l 10⟩ (fun hHeld => ?_); refine with_tabW spec_StepOpt.tab33 spec_StepOpt.bits33 (fun HT_ HW_ => ?_)
        generalize U2.drew = t4 at q0 B D A l a u q HB hHeld ⊢
        refine zP 0 198 (bl 13 1) HT_ ?_
        refine zP 1 199 (bl 13 3) HT_ ?_
        refine zP 2 200 (bl 13 7) HT_ ?_
        refine zP 3 201 (bl 13 15) HT_ ?_
        refine zP 4 202 (bl 13 31) HT_ ?_
        refine zP 5 203 (bl 13 63) HT_ ?_
        refine zP 7 205 (bl 13 191) HT_ ?_
        refine zT 8 206 (bl 13 447) rfl rfl HT_ HW_ hHeld (by rintro w' ⟨s0, s1, s2, s3, s4, s5, s6, s7, s8, s9, q4⟩; go_simp; with_reducible rfl) ?_
        refine one_ (i := 6) (N := some 204) (bl 13 511) rfl rfl (one_of HT_.out (by kernel_rfl)) (by decide) (fun K hK => ?_)
        refine goes_ Try.func41 (by kernel_rfl) rfl #[.int .i64 (wrap64 (65536 * E7))] (by rfl) rfl rfl zL ?_
        with_reducible refine (spec_Root.calls a9d (wrap64 (65536 * E7)) a9p _ d5a.out).mono ?_
        rintro e w' ⟨rfl, ⟨nd, rfl⟩⟩
        refine ⟨_, rfl, ?_⟩
        refine hK.out _ _ ⟨zy l 0, zy l 1, zy l 2, zy l 3, zy l 4, zy l 5, zy l 6, zy l 7, zy l 8, zy l 9, zy l 10⟩ (fun hHeld => ?_)
        clear hK K
        refine zU 204 ?_
        refine zP 9 207 (bl 13 1023) HT_ ?_
        refine one_ (i := 10) (N := some 208) (bl 13 2047) rfl rfl (one_of HT_.out (by kernel_rfl)) (by decide) (fun K hK => ?_)
        refine goes_ Try.func36 (by kernel_rfl) rfl #[.int .i64 (wrap64 (D2 * B9)), .int .i64 (wrap64 (a9p + T0))] (by rfl) rfl rfl zL ?_
        with_reducible refine (spec_Near.calls (wrap64 (D2 * B9)) (wrap64 (a9p + T0)) a9q _ d5b.out).mono ?_
        rintro e w' ⟨rfl, ⟨nd, rfl⟩⟩
        refine ⟨_, rfl, ?_⟩
        refine hK.out _ _ ⟨zy l 0, zy l 1, zy l 2, zy l 3, zy l 4, zy l 5, zy l 6, zy l 7, zy l 8, zy l 9, zy l 10⟩ (fun hHeld => ?_)
        clear hK K
        refine zU 208 ?_
        refine zP 11 209 (bl 13 4095) HT_ ?_
        refine zP 12 13 (bl 13 8191) HT_ ?_
        refine done_ (done_of HT_.out (by kernel_rfl)) ?_
        (try (rw [drewN_self t4]; generalize hq_ : World.drewN t4 _ = t4; have X : Aside0 (Kd.R (Kd.int .i64) 3 t4 w.heap.size (fun k_ => (some k_ ≠ (.slice (some R1) F0.length J1 : Value).ownBlock ∧ (some k_ ≠ (u180001 : Value).ownBlock ∧ some k_ ≠ (u180002 : Value).ownBlock))) u180000 X0) := ⟨by rw [← hq_]; exact zkR B⟩; have a0 : Aside0 (Kd.R (Kd.int .i64) 3 t4 w.heap.size (fun k_ => (some k_ ≠ (.slice (some R1) F0.length J1 : Value).ownBlock ∧ (some k_ ≠ (u180000 : Value).ownBlock ∧ some k_ ≠ (u180002 : Value).ownBlock))) u180001 a1) := ⟨by rw [← hq_]; exact zkR D⟩; have b0 : Aside0 (Kd.R (Kd.int .i64) 3 t4 w.heap.size (fun k_ => (some k_ ≠ (.slice (some R1) F0.length J1 : Value).ownBlock ∧ (some k_ ≠ (u180000 : Value).ownBlock ∧ some k_ ≠ (u180001 : Value).ownBlock))) u180002 A0) := ⟨by rw [← hq_]; exact zkR A⟩; have c0 : Aside0 (Kd.R (Kd.int .i64) 3 t4 w.heap.size (fun k_ => (some k_ ≠ (u180000 : Value).ownBlock ∧ (some k_ ≠ (u180001 : Value).ownBlock ∧ some k_ ≠ (u180002 : Value).ownBlock))) (.slice (some R1) F0.length J1) F0) := ⟨by rw [← hq_]; exact zkR q0⟩; have i0 : Aside0 (t4.heap[f0]? = some (.cells #[.int .i64 I0, .int .i64 N0, .int .i64 O0, .int .i64 R0, .int .i64 S0, .int .i64 D0, .int .i64 G0, .int .i64 T0, .int .i64 J0, .int .i64 L0, .int .i64 B0] 35 (0, 0))) := ⟨by rw [← hq_]; exact (zM l)⟩; have m0 : Aside0 (t4.heap[U]? = some (.cells #[.slice (some J5) t0.length m1, .slice (some f8) o0.length j1, .slice (some a1y) n0.length e1, .int .i64 d0, .int .i64 e0, .int .i64 p0] 30 (0, 0))) := ⟨by rw [← hq_]; exact (zM a)⟩; have x0 : Aside0 (t4.heap[d1]? = some (.cells #[.slice none 0 0, .slice none 0 0, .slice none 0 0, .int .i64 0, .int .i64 0, .int .i64 0] 30 (0, 0))) := ⟨by rw [← hq_]; exact (zM u)⟩; have C0 : Aside0 (t4.heap[y]? = some (.cells #[u180000, u180001, u180002, .int .i64 (wrap64 (d0 + 1)), .int .i64 e0, .int .i64 p0] 30 (0, 0))) := ⟨by rw [← hq_]; exact (zM q)⟩; have V0 : Aside0 (Below w.heap.size w t4) := ⟨by rw [← hq_]; exact zB⟩; clear B D A q0 l a u q HB hq_; revert X a0 b0 c0 i0 m0 x0 C0 V0; intro B D A q0 l a u q HB))
        (try (rw [drewN_self t4]; generalize hq_ : World.drewN t4 _ = t4; have X : Aside0 (Kd.R (Kd.int .i64) 3 t4 w.heap.size (fun k_ => (some k_ ≠ (.slice (some R1) F0.length J1 : Value).ownBlock ∧ (some k_ ≠ (u180001 : Value).ownBlock ∧ some k_ ≠ (u180002 : Value).ownBlock))) u180000 X0) := ⟨by rw [← hq_]; exact zkR B⟩; have a0 : Aside0 (Kd.R (Kd.int .i64) 3 t4 w.heap.size (fun k_ => (some k_ ≠ (.slice (some R1) F0.length J1 : Value).ownBlock ∧ (some k_ ≠ (u180000 : Value).ownBlock ∧ some k_ ≠ (u180002 : Value).ownBlock))) u180001 a1) := ⟨by rw [← hq_]; exact zkR D⟩; have b0 : Aside0 (Kd.R (Kd.int .i64) 3 t4 w.heap.size (fun k_ => (some k_ ≠ (.slice (some R1) F0.length J1 : Value).ownBlock ∧ (some k_ ≠ (u180000 : Value).ownBlock ∧ some k_ ≠ (u180001 : Value).ownBlock))) u180002 A0) := ⟨by rw [← hq_]; exact zkR A⟩; have c0 : Aside0 (Kd.R (Kd.int .i64) 3 t4 w.heap.size (fun k_ => (some k_ ≠ (u180000 : Value).ownBlock ∧ (some k_ ≠ (u180001 : Value).ownBlock ∧ some k_ ≠ (u180002 : Value).ownBlock))) (.slice (some R1) F0.length J1) F0) := ⟨by rw [← hq_]; exact zkR q0⟩; have i0 : Aside0 (t4.heap[f0]? = some (.cells #[.int .i64 I0, .int .i64 N0, .int .i64 O0, .int .i64 R0, .int .i64 S0, .int .i64 D0, .int .i64 G0, .int .i64 T0, .int .i64 J0, .int .i64 L0, .int .i64 B0] 35 (0, 0))) := ⟨by rw [← hq_]; exact (zM l)⟩; have m0 : Aside0 (t4.heap[U]? = some (.cells #[.slice (some J5) t0.length m1, .slice (some f8) o0.length j1, .slice (some a1y) n0.length e1, .int .i64 d0, .int .i64 e0, .int .i64 p0] 30 (0, 0))) := ⟨by rw [← hq_]; exact (zM a)⟩; have x0 : Aside0 (t4.heap[d1]? = some (.cells #[.slice none 0 0, .slice none 0 0, .slice none 0 0, .int .i64 0, .int .i64 0, .int .i64 0] 30 (0, 0))) := ⟨by rw [← hq_]; exact (zM u)⟩; have C0 : Aside0 (t4.heap[y]? = some (.cells #[u180000, u180001, u180002, .int .i64 (wrap64 (d0 + 1)), .int .i64 e0, .int .i64 p0] 30 (0, 0))) := ⟨by rw [← hq_]; exact (zM q)⟩; have V0 : Aside0 (Below w.heap.size w t4) := ⟨by rw [← hq_]; exact zB⟩; clear B D A q0 l a u q HB hq_; revert X a0 b0 c0 i0 m0 x0 C0 V0; intro B D A q0 l a u q HB))
        have e2f := J.out
        have e2g := I.out
        have e2j := L.out
        have e2l := x.out
        have e2m := T.out
        have e2n := O.out
        have U4 : t4.cell? ⟨y, 0, none⟩ = some (u180000) := zy q 0
        have V4 : t4.cell? ⟨y, 1, none⟩ = some (u180001) := zy q 1
        have X4 : t4.cell? ⟨y, 2, none⟩ = some (u180002) := zy q 2
        have a5 : t4.cell? ⟨y, 3, none⟩ = some (.int .i64 (wrap64 (d0 + 1))) := zy q 3
        have b5 : t4.cell? ⟨y, 4, none⟩ = some (.int .i64 e0) := zy q 4
        have c5 : t4.cell? ⟨y, 5, none⟩ = some (.int .i64 p0) := zy q 5
        have d5 := zf q.out 0
        have e5 := zf q.out 1
        have f5 := zf q.out 2
        have g5 := zf q.out 3
        have i5 := zf q.out 4
        have l5 := zf q.out 5
        have T3 : 0 ≤ (M : Int) := z3
        have U3 : (M : Int) < ((A0.length : Int) : Int) := z3
        obtain ⟨go145, x3, b1s, b1t, gl145, cl145, HG145⟩ := Kd.R_form A.out (by omega)
        (first | cases b1s | (injection b1s with ea_ en_ ec_; (first | subst ea_ | (injection ea_ with ea_; subst ea_)); subst ec_; clear en_))
        have GB145 := zK b1t
        have GG145 := zK HG145
        clear b1t gl145 HG145
        obtain ⟨m7, hf145_0⟩ := Kd.R_celln 0 A.out (M : Int) T3 U3
        replace T3 := eq_true T3
        replace U3 := eq_true U3
        obtain ⟨e2o, hz153_⟩ := Kd.R_celln 0 A.out (M : Int) (z3) (z3)
        have HP153 := Kd.R_putg A.out (M : Int) E7
        try go_wp2_with (first | ((with_reducible refine gate_store (t := 3) (p := 214) rfl ?_); refine store_event (t := 3) (p := 214) (v := ?vo_w154) (w1 := (t4.setCell ⟨go145, (M : Int).toNat, none⟩ (.int .i64 E7))) ?hg ?ho ?hn ?hr ?_; (case ho => rfl); (case hg => rfl); (case hn => rfl); (case hr => first | (go_simp; done) | (go_simp; rfl)); intro a9t hw; have hg : t4.grownBy a9t (some go145) := (by rw [hw]; exact HP153.2); have hp_ : Kd.R (Kd.int .i64) 3 a9t w.heap.size (fun k_ => some k_ ≠ (.slice (some R1) F0.length J1 : Value).ownBlock ∧ some k_ ≠ (u180000 : Value).ownBlock ∧ some k_ ≠ (u180001 : Value).ownBlock) (.slice (some ⟨go145, 0, none⟩) A0.length x3) a9s := (by rw [hw, Ny213.out]; exact HP153.1); clear HP153; have X := zK (Kd.R_after (v := (.slice (some ⟨go145, 0, none⟩) A0.length x3)) (v1 := (.slice (some ⟨go145, 0, none⟩) A0.length x3)) (ok := (fun k_ => some k_ ≠ (u180000 : Value).ownBlock ∧ some k_ ≠ (u180001 : Value).ownBlock)) (Kd.R_mono (zlR q0.out) (fun _ hk => ⟨⟨hk.1, hk.2.1⟩, hk.2.2⟩)) hg (.inl rfl)); have a0 := zK (Kd.R_after (v := (.slice (some ⟨go145, 0, none⟩) A0.length x3)) (v1 := (.slice (some ⟨go145, 0, none⟩) A0.length x3)) (ok := (fun k_ => some k_ ≠ (.slice (some R1) F0.length J1 : Value).ownBlock ∧ some k_ ≠ (u180001 : Value).ownBlock)) (Kd.R_mono (zlR B.out) (fun _ hk => ⟨⟨hk.1, hk.2.1⟩, hk.2.2⟩)) hg (.inl rfl)); have b0 := zK (Kd.R_after (v := (.slice (some ⟨go145, 0, none⟩) A0.length x3)) (v1 := (.slice (some ⟨go145, 0, none⟩) A0.length x3)) (ok := (fun k_ => some k_ ≠ (.slice (some R1) F0.length J1 : Value).ownBlock ∧ some k_ ≠ (u180000 : Value).ownBlock)) (Kd.R_mono (zlR D.out) (fun _ hk => ⟨⟨hk.1, hk.2.1⟩, hk.2.2⟩)) hg (.inl rfl)); have c0 := zK (hp_); have i0 := zK (blk_grown (zM l) hg (Kd.R_ne A.out l.out (by decide))); have m0 := zK (blk_grown (zM a) hg (Kd.R_ne A.out a.out (by decide))); have x0 := zK (blk_grown (zM u) hg (Kd.R_ne A.out u.out (by decide))); have C0 := zK (blk_grown (zM q) hg (Kd.R_ne A.out q.out (by decide))); have V0 := zK ((by rw [hw]; exact zs (HB.out) GB145.out : Below w.heap.size w a9t)); revert X a0 b0 c0 i0 m0 x0 C0 V0; clear q0 B D A l a u q HB; intro q0 B D A l a u q HB; clear hg hw hp_))
        go_meet
        case rel => exact ⟨_, (F0), (wrap64 (a3 - a9q)), (B9), (X0), (a1), (a9s), (u180000), (u180001), (.slice (some ⟨go145, 0, none⟩) A0.length x3), zR, zR, H', ⟨by have := d3.out; have := e3.out; have := b3.out; have := a4.out; have := D7.out; first | omega | exact Nat.le_refl _⟩, ⟨Kd.R_mono (zlR q0.out) (fun _ hk => ⟨hk.1.1, ⟨hk.1.2, hk.2⟩⟩)⟩, ⟨Kd.R_mono (zlR B.out) (fun _ hk => ⟨hk.1.1, ⟨hk.1.2, hk.2⟩⟩)⟩, ⟨Kd.R_mono (zlR D.out) (fun _ hk => ⟨hk.1.1, ⟨hk.1.2, hk.2⟩⟩)⟩, ⟨zkR A⟩, ⟨zM l⟩, ⟨zM a⟩, ⟨zM u⟩, ⟨zM q⟩, ⟨zB⟩⟩
       case rest => as_aux_lemma =>
        clear a1s
        try clear c1
        try clear p1
        try clear q1
        try clear hx1
        try clear p2
        try clear q2
        try clear hx2
        try clear c3
        try clear c4
        try clear p6
        try clear c13
        try clear c14
        try clear p14
        try clear q14
        try clear c0t
        try clear hf14
        try clear c15
        try clear p20
        try clear q20
        try clear c0u
        try clear D9
        try clear c41
        try clear n4
        try clear y3
        try clear G5
        try clear I5
        try clear L4
        try clear M4
        try clear N4
        try clear T3
        try clear U3
        try clear b1a
        try clear hf145
        try clear c0x
        try clear c0y
        try clear c0z
        try clear U4 V4 X4 a5 b5 c5 d5 e5 f5 g5 i5 l5
        try clear m7
        try clear B3
        try clear R2
        try clear C3
        try clear D3
        try clear T3
        try clear n7
        try clear o7
        try clear p7
        try clear q7
        try clear U3
        try clear t7
        try clear x7
        try clear y7
        try clear A7
        obtain ⟨kq, N2, i3, j3, L1, b1, V1, u180000, u180001, u180002, rfl, rfl, HA, b1u, q0, B, D, A, l, a, u, q, HB⟩ := hcut
        have x1 := (Kd.R_reads' q0.out).1
        rw [x1] at q0
        (try simp only [x1])
        (try simp only [x1] at l)
        (try simp only [x1] at a)
        (try simp only [x1] at u)
        (try simp only [x1] at q)
        (try simp only [x1] at B)
        (try simp only [x1] at D)
        (try simp only [x1] at A)
        cases kq with
        | zero => exact absurd HA.out (by simp [spec_StepOpt.j5])
        | succ a1z =>
         have H := HA.out
         clear HA
         simp only [spec_StepOpt.j5] at H
         by_cases g7 : 0 ≤ M
         rotate_left
         · rw [if_neg g7] at H
           exact absurd H (by simp)
         rw [if_pos g7] at H
         have a2d := z1 g7
         clear g7
         by_cases i7 : M < (b1.length : Int)
         rotate_left
         · rw [if_neg i7] at H
           exact absurd H (by simp)
         rw [if_pos i7] at H
         have a2e := z1 i7
         clear i7
         obtain ⟨a2a, M5⟩ : ∃ y_ : List Int, y_ = (b1.set (M : Int).toNat j3) := ⟨_, rfl⟩
         replace H : ((spec_l15Bring.f i3).bind fun x4 => (if M < (L1.length : Int) then (spec_StepOpt.l1 a1z N2 D2 (wrap64 (M + 1)) I0 N0 O0 R0 S0 D0 G0 T0 J0 L0 B0 t0 o0 n0 d0 e0 p0 (L1.set (M : Int).toNat x4) a2a V1 (wrap64 (d0 + 1)) e0 p0) else (none))) = some (r1, r2, r3, r4, r5, r6, r7) := by first | (rw [M5]; with_reducible exact H) | (have L2 := (Option.bind_some _ _).symm.trans H; rw [M5]; with_reducible exact L2) | (have L2 := (Option.bind_some _ _).symm.trans H; with_reducible exact L2) | with_reducible exact H | (rw [M5]; exact H) | exact H
         have Ny214 := zK M5
         clear M5
         replace H := z6 H
         obtain ⟨x4, b1x, H⟩ := H
         have d5g := zK b1x
         clear b1x
         by_cases l7 : M < (L1.length : Int)
         rotate_left
         · rw [if_neg l7] at H
           exact absurd H (by simp)
         rw [if_pos l7] at H
         have a2f := z1 l7
         clear l7
         obtain ⟨c1j, N5⟩ : ∃ y_ : List Int, y_ = (L1.set (M : Int).toNat x4) := ⟨_, rfl⟩
         replace H : (spec_StepOpt.l1 a1z N2 D2 (wrap64 (M + 1)) I0 N0 O0 R0 S0 D0 G0 T0 J0 L0 B0 t0 o0 n0 d0 e0 p0 c1j a2a V1 (wrap64 (d0 + 1)) e0 p0) = some (r1, r2, r3, r4, r5, r6, r7) := by first | (rw [N5]; with_reducible exact H) | (have L2 := (Option.bind_some _ _).symm.trans H; rw [N5]; with_reducible exact L2) | (have L2 := (Option.bind_some _ _).symm.trans H; with_reducible exact L2) | with_reducible exact H | (rw [N5]; exact H) | exact H
         have Ny216 := zK N5
         clear N5
         have H' := zK H
         clear H
         have e2p := J.out
         have e2q := I.out
         have e2s := L.out
         have e2t := x.out
         have e2u := T.out
         have e2x := O.out
         have e9 : wc.cell? ⟨y, 0, none⟩ = some (u180000) := zy q 0
         have f9 : wc.cell? ⟨y, 1, none⟩ = some (u180001) := zy q 1
         have g9 : wc.cell? ⟨y, 2, none⟩ = some (u180002) := zy q 2
         have i9 : wc.cell? ⟨y, 3, none⟩ = some (.int .i64 (wrap64 (d0 + 1))) := zy q 3
         have j9 : wc.cell? ⟨y, 4, none⟩ = some (.int .i64 e0) := zy q 4
         have l9 : wc.cell? ⟨y, 5, none⟩ = some (.int .i64 p0) := zy q 5
         have m9 := zf q.out 0
         have n9 := zf q.out 1
         have o9 := zf q.out 2
         have p9 := zf q.out 3
         have q9 := zf q.out 4
         have t9 := zf q.out 5
         have O4 : 0 ≤ (M : Int) := z3
         have R4 : (M : Int) < ((b1.length : Int) : Int) := z3
         obtain ⟨go157, g3, b1y, b1z, gl157, cl157, HG157⟩ := Kd.R_form D.out (by omega)
         (first | cases b1y | (injection b1y with ea_ en_ ec_; (first | subst ea_ | (injection ea_ with ea_; subst ea_)); subst ec_; clear en_))
         have GB157 := zK b1z
         have GG157 := zK HG157
         clear b1z gl157 HG157
         obtain ⟨a0z, hf157_0⟩ := Kd.R_celln 0 D.out (M : Int) O4 R4
         replace O4 := eq_true O4
         replace R4 := eq_true R4
         have HP165 := Kd.R_putg D.out (M : Int) j3
         try go_wp2_with (first | ((with_reducible refine gate_store (t := 3) (p := 219) rfl ?_); refine store_event (t := 3) (p := 219) (v := ?vo_w166) (w1 := (wc.setCell ⟨go157, (M : Int).toNat, none⟩ (.int .i64 j3))) ?hg ?ho ?hn ?hr ?_; (case ho => rfl); (case hg => rfl); (case hn => rfl); (case hr => first | (go_simp; done) | (go_simp; rfl)); intro a2b hw; have hg : wc.grownBy a2b (some go157) := (by rw [hw]; exact HP165.2); have hp_ : Kd.R (Kd.int .i64) 3 a2b w.heap.size (fun k_ => some k_ ≠ (.slice M2 N2.length J1 : Value).ownBlock ∧ some k_ ≠ (u180000 : Value).ownBlock ∧ some k_ ≠ (u180002 : Value).ownBlock) (.slice (some ⟨go157, 0, none⟩) b1.length g3) a2a := (by rw [hw, Ny214.out]; exact HP165.1); clear HP165; have X := zK (Kd.R_after (v := (.slice (some ⟨go157, 0, none⟩) b1.length g3)) (v1 := (.slice (some ⟨go157, 0, none⟩) b1.length g3)) (ok := (fun k_ => some k_ ≠ (u180000 : Value).ownBlock ∧ some k_ ≠ (u180002 : Value).ownBlock)) (Kd.R_mono (zlR q0.out) (fun _ hk => ⟨⟨hk.1, hk.2.2⟩, hk.2.1⟩)) hg (.inl rfl)); have a0 := zK (Kd.R_after (v := (.slice (some ⟨go157, 0, none⟩) b1.length g3)) (v1 := (.slice (some ⟨go157, 0, none⟩) b1.length g3)) (ok := (fun k_ => some k_ ≠ (.slice M2 N2.length J1 : Value).ownBlock ∧ some k_ ≠ (u180002 : Value).ownBlock)) (Kd.R_mono (zlR B.out) (fun _ hk => ⟨⟨hk.1, hk.2.2⟩, hk.2.1⟩)) hg (.inl rfl)); have b0 := zK (hp_); have c0 := zK (Kd.R_after (v := (.slice (some ⟨go157, 0, none⟩) b1.length g3)) (v1 := (.slice (some ⟨go157, 0, none⟩) b1.length g3)) (ok := (fun k_ => some k_ ≠ (.slice M2 N2.length J1 : Value).ownBlock ∧ some k_ ≠ (u180000 : Value).ownBlock)) (Kd.R_mono (zlR A.out) (fun _ hk => ⟨⟨hk.1, hk.2.1⟩, hk.2.2⟩)) hg (.inl rfl)); have i0 := zK (blk_grown (zM l) hg (Kd.R_ne D.out l.out (by decide))); have m0 := zK (blk_grown (zM a) hg (Kd.R_ne D.out a.out (by decide))); have x0 := zK (blk_grown (zM u) hg (Kd.R_ne D.out u.out (by decide))); have C0 := zK (blk_grown (zM q) hg (Kd.R_ne D.out q.out (by decide))); have V0 := zK ((by rw [hw]; exact zs (HB.out) GB157.out : Below w.heap.size w a2b)); revert X a0 b0 c0 i0 m0 x0 C0 V0; clear q0 B D A l a u q HB; intro q0 B D A l a u q HB; clear hg hw hp_))
         have X := zK (Kd.R_drew q0.out)
         have a0 := zK (Kd.R_drew B.out)
         have b0 := zK (Kd.R_drew D.out)
         have c0 := zK (Kd.R_drew A.out)
         have i0 := zK (zd l.out)
         have m0 := zK (zd a.out)
         have x0 := zK (zd u.out)
         have C0 := zK (zd q.out)
         have V0 := zK (ze HB.out)
         revert X a0 b0 c0 i0 m0 x0 C0 V0
         clear q0 B D A l a u q HB
         intro q0 B D A l a u q HB
         refine start_ (n := 7) (S := fun w' => w'.cell? ⟨y, 0, none⟩ = some (u180000) ∧ w'.cell? ⟨y, 1, none⟩ = some (.slice (some ⟨go157, 0, none⟩) b1.length g3) ∧ w'.cell? ⟨y, 2, none⟩ = some (u180002) ∧ w'.cell? ⟨y, 3, none⟩ = some (.int .i64 (wrap64 (d0 + 1))) ∧ w'.cell? ⟨y, 4, none⟩ = some (.int .i64 e0) ∧ w'.cell? ⟨y, 5, none⟩ = some (.int .i64 p0)) (ds := [6]) (bl 7 0) (by kernel_rfl) rfl (by kernel_rfl) ⟨zy q 0, zy q 1, zy q 2, zy q 3, zy q 4, zy q 5⟩ (fun hHeld => ?_)
         generalize a2b.drew = e7x at q0 B D A l a u q HB hHeld ⊢
         refine pure_ (i := 0) (N := some 220) (v := ?_) (a' := ?_) (bl 7 1) rfl rfl (by kernel_rfl) (fun _ _ _ h => h) (Or.inl ⟨by rfl, ?_⟩) ?_ ?_
         rotate_left
         · intro w'
           go_simp
           with_reducible rfl
         rotate_left
         · simp only [Act.put, zq1, zq2, zq3, i64_w, i32_w]
           rfl
         refine pure_ (i := 2) (N := some 222) (v := ?_) (a' := ?_) (bl 7 5) rfl rfl (by kernel_rfl) (fun _ _ _ h => h) (Or.inl ⟨by rfl, ?_⟩) ?_ ?_
         rotate_left
         · intro w'
           go_simp
           with_reducible rfl
         rotate_left
         · simp only [Act.put, zq1, zq2, zq3, i64_w, i32_w]
           rfl
         refine pure_ (i := 3) (N := some 223) (v := ?_) (a' := ?_) (bl 7 13) rfl rfl (by kernel_rfl) (fun _ _ _ h => h) (Or.inl ⟨by rfl, ?_⟩) ?_ ?_
         rotate_left
         · intro w'
           go_simp
           with_reducible rfl
         rotate_left
         · simp only [Act.put, zq1, zq2, zq3, i64_w, i32_w]
           rfl
         refine take_ (i := 1) (N := some 221) (v := ?_) (a' := ?_) (bl 7 15) rfl rfl (by kernel_rfl) (fun _ _ _ h => h) (Or.inl ⟨by rfl, ?_⟩) hHeld ?_ ?_
         rotate_left
         · rintro w' ⟨s0, s1, s2, s3, s4, s5⟩
           go_simp
           with_reducible rfl
         rotate_left
         · simp only [Act.put, zq1, zq2, zq3, i64_w, i32_w]
           rfl
         refine one_ (i := 4) (N := some 224) (bl 7 31) rfl rfl (by kernel_rfl) (by decide) (fun K hK => ?_)
         refine goes_ Try.func39 (by kernel_rfl) rfl #[.int .i64 i3] (by rfl) rfl rfl zL ?_
         with_reducible refine (spec_l15Bring.calls i3 x4 _ d5g.out).mono ?_
         rintro e w' ⟨rfl, ⟨nd, rfl⟩⟩
         refine ⟨_, rfl, ?_⟩
         have S4 : 0 ≤ (M : Int) := z3
         have T4 : (M : Int) < ((L1.length : Int) : Int) := z3
         obtain ⟨go160, c4n, b2a, b2b, gl160, cl160, HG160⟩ := Kd.R_form B.out (by omega)
         (first | cases b2a | (injection b2a with ea_ en_ ec_; (first | subst ea_ | (injection ea_ with ea_; subst ea_)); subst ec_; clear en_))
         have GB160 := zK b2b
         have GG160 := zK HG160
         clear b2b gl160 HG160
         obtain ⟨a1a, hf160_0⟩ := Kd.R_celln 0 B.out (M : Int) S4 T4
         replace S4 := eq_true S4
         replace T4 := eq_true T4
         have HP168 := Kd.R_putn B.out (M : Int) x4
         rw [← Ny216.out] at HP168
         have HQ168 := zK HP168
         clear HP168
         refine hK.out _ _ ⟨zy q 0, zy q 1, zy q 2, zy q 3, zy q 4, zy q 5⟩ (fun hHeld => ?_)
         clear hK K
         refine zU 224 ?_
         refine pure_ (i := 5) (N := some 225) (v := ?_) (a' := ?_) (bl 7 63) rfl rfl (by kernel_rfl) (fun _ _ _ h => h) (Or.inl ⟨by rfl, ?_⟩) ?_ ?_
         rotate_left
         · intro w'
           go_simp
           with_reducible rfl
         rotate_left
         · simp only [Act.put, zq1, zq2, zq3, i64_w, i32_w]
           rfl
         refine last_ (i := 6) (N := none) (bl 7 127) rfl rfl (by kernel_rfl) (by decide) (fun K hK => ?_)
         refine skip_ (w1 := ?_) (by rfl) rfl ?_ ?_
         rotate_left
         · go_simp
           rfl
         refine hK.out _ _ ?_
         clear hK K
         refine done_ (by kernel_rfl) ?_
         try go_wp2
         (try simp only [← x1])
         go_roundg a1z
         case measure => have := d3.out; have := e3.out; have := b3.out; have := a4.out; have := D7.out; have := b1u.out; omega
         case rel => exact ⟨(N2), (wrap64 (M + 1)), (c1j), (a2a), (V1), (.slice (some ⟨go160, 0, none⟩) L1.length c4n), (.slice (some ⟨go157, 0, none⟩) b1.length g3), (u180002), zR, H', ⟨by have := d3.out; have := e3.out; have := b3.out; have := a4.out; have := D7.out; have := b1u.out; omega⟩, ⟨by (try simp only [x1]); (with_reducible repeat (first | apply Kd.R_alloc | apply Kd.R_drewN | apply Kd.R_drew)); exact Kd.R_mono (Kd.R_far (p := ⟨go160, (M : Int).toNat, none⟩) (Kd.R_mono q0.out (fun k_ hk => (⟨hk, fun e_ => hk.1.1 (by rw [e_]; rfl)⟩ : _ ∧ k_ ≠ go160))) (fun _ hk => hk.2) (.int .i64 x4)) (fun _ hk => ⟨hk.1.1.1, ⟨hk.1.2, hk.1.1.2⟩⟩)⟩, ⟨by (try simp only [x1]); (with_reducible repeat (first | apply Kd.R_alloc | apply Kd.R_drewN | apply Kd.R_drew)); exact Kd.R_mono HQ168.out (fun _ hk => ⟨hk.1.1, ⟨hk.2, hk.1.2⟩⟩)⟩, ⟨by (try simp only [x1]); (with_reducible repeat (first | apply Kd.R_alloc | apply Kd.R_drewN | apply Kd.R_drew)); exact Kd.R_mono (Kd.R_far (p := ⟨go160, (M : Int).toNat, none⟩) (Kd.R_mono D.out (fun k_ hk => (⟨hk, fun e_ => hk.2.1 (by rw [e_]; rfl)⟩ : _ ∧ k_ ≠ go160))) (fun _ hk => hk.2) (.int .i64 x4)) (fun _ hk => ⟨hk.1.1, ⟨hk.1.2.1, hk.1.2.2⟩⟩)⟩, ⟨by (try simp only [x1]); (with_reducible repeat (first | apply Kd.R_alloc | apply Kd.R_drewN | apply Kd.R_drew)); exact Kd.R_mono (Kd.R_far (p := ⟨go160, (M : Int).toNat, none⟩) (Kd.R_mono A.out (fun k_ hk => (⟨hk, fun e_ => hk.1.2 (by rw [e_]; rfl)⟩ : _ ∧ k_ ≠ go160))) (fun _ hk => hk.2) (.int .i64 x4)) (fun _ hk => ⟨hk.1.1.1, ⟨hk.1.1.2, hk.1.2⟩⟩)⟩, ⟨by (try simp only [x1]); (with_reducible repeat (first | refine zn ?_ _ | refine zd ?_ | refine za ?_ _)); refine blk_far ?_ (by have h_ := Kd.R_ne B.out l.out (by decide); intro e_; exact h_ (by rw [e_]; rfl)) _; (with_reducible repeat (first | refine zn ?_ _ | refine zd ?_ | refine za ?_ _)); exact l.out⟩, ⟨by (try simp only [x1]); (with_reducible repeat (first | refine zn ?_ _ | refine zd ?_ | refine za ?_ _)); refine blk_far ?_ (by have h_ := Kd.R_ne B.out a.out (by decide); intro e_; exact h_ (by rw [e_]; rfl)) _; (with_reducible repeat (first | refine zn ?_ _ | refine zd ?_ | refine za ?_ _)); exact a.out⟩, ⟨by (try simp only [x1]); (with_reducible repeat (first | refine zn ?_ _ | refine zd ?_ | refine za ?_ _)); refine blk_far ?_ (by have h_ := Kd.R_ne B.out u.out (by decide); intro e_; exact h_ (by rw [e_]; rfl)) _; (with_reducible repeat (first | refine zn ?_ _ | refine zd ?_ | refine za ?_ _)); exact u.out⟩, ⟨by (try simp only [x1]); (with_reducible repeat (first | refine zn ?_ _ | refine zd ?_ | refine za ?_ _)); refine blk_far ?_ (by have h_ := Kd.R_ne B.out q.out (by decide); intro e_; exact h_ (by rw [e_]; rfl)) _; (with_reducible repeat (first | refine zn ?_ _ | refine zd ?_ | refine za ?_ _)); exact q.out⟩, ⟨by repeat (first | (with_reducible first | exact HB.out | apply zb | apply zw | apply ze | refine zs ?_ GB160.out | refine zs ?_ c1l.out | refine zs ?_ c1m.out | refine zs ?_ c1n.out | refine zs ?_ o1.out) | exact HB.out)⟩⟩
end Go.Proofs.Ytodfhokndnmdoaa.PFnFactor
