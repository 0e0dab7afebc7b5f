-- Printed out of the translation by this session's own turned copy of a printer; Lean checks it.
import Derived.Test.YtodfhokndnmdoaaPFnExactStepOptx0
import Derived.Test.YtodfhokndnmdoaaPFnExactStepOptx1
import Derived.Test.YtodfhokndnmdoaaPFnExactStepOptx4
import Derived.Test.YtodfhokndnmdoaaPFnExactStepOptx5
import Derived.Test.YtodfhokndnmdoaaPFnExactStepOptx11
import Derived.Test.YtodfhokndnmdoaaPFnExactStepOptx12
namespace Go.Proofs.Ytodfhokndnmdoaa.PFnExactStepOpt
open Go.RowKit Go.Proofs.YtodfhokndnmdoaaW.PrintWords Go.Proofs.YtodfhokndnmdoaaW.PrintLast Go.Proofs.YtodfhokndnmdoaaW.PrintMore
attribute [local go_sem] max2_int min2_int max_two min_two max_three min_three max_four min_four
set_option linter.unusedVariables false
set_option linter.unusedSimpArgs false
set_option maxHeartbeats 100000000
set_option maxRecDepth 100000
abbrev zo (v : Value) (k : Nat) : Prop := some k ≠ v.ownBlock
theorem zkM {α : Type} {k : Kd α} {t base : Nat} {ok ok' : Nat → Prop} {v : Value} {w : World} {l : List α} (h : Kd.R k t w base ok v l) (e : ∀ x, ok x → ok' x := by (intro x_ h_; simp only [zo, ne_eq, h_, not_false_eq_true, and_self])) : Kd.R k t w base ok' v l := Kd.R_mono h e
theorem zT6 {α : Type} {k : Kd α} {t base : Nat} {ok : Nat → Prop} {v : Value} {W : World} {l : List α} {g T : Nat} {cs : Array Value} {u0 u1 u2 u3 u4 u5 : Value} (h : Kd.R k t W base ok v l) (hb : W.heap[g]? = some (.cells cs T (0, 0))) (ht : ∀ q, q ∈ t :: k.E → q ≠ T) : Kd.R k t ((((((W.setCell ⟨g, 0, none⟩ u0).setCell ⟨g, 1, none⟩ u1).setCell ⟨g, 2, none⟩ u2).setCell ⟨g, 3, none⟩ u3).setCell ⟨g, 4, none⟩ u4).setCell ⟨g, 5, none⟩ u5) base ok v l :=
  Kd.R_mono (Kd.R_far (Kd.R_far (Kd.R_far (Kd.R_far (Kd.R_far (Kd.R_far (Kd.R_types h hb ht) (fun _ hk => hk.2) _) (fun _ hk => hk.2) _) (fun _ hk => hk.2) _) (fun _ hk => hk.2) _) (fun _ hk => hk.2) _) (fun _ hk => hk.2) _) (fun _ h => h.1)
abbrev six (W : World) (g : Nat) (u0 u1 u2 u3 u4 u5 : Value) : World := (((((W.setCell ⟨g, 0, none⟩ u0).setCell ⟨g, 1, none⟩ u1).setCell ⟨g, 2, none⟩ u2).setCell ⟨g, 3, none⟩ u3).setCell ⟨g, 4, none⟩ u4).setCell ⟨g, 5, none⟩ u5
theorem zT7 {α : Type} {k : Kd α} {t base : Nat} {ok : Nat → Prop} {v : Value} {W w6 : World} {l : List α} {g T : Nat} {cs : Array Value} {u0 u1 u2 u3 u4 u5 : Value} (hW : six W g u0 u1 u2 u3 u4 u5 = w6) (h : Kd.R k t W base ok v l) (hb : W.heap[g]? = some (.cells cs T (0, 0))) (ht : ∀ q, q ∈ t :: k.E → q ≠ T) : Aside0 (Kd.R k t w6 base ok v l) := by subst hW; exact ⟨zT6 h hb ht⟩
theorem zB7 {W w6 : World} {g l : Nat} {o : Obj} {u0 u1 u2 u3 u4 u5 : Value} (hW : six W g u0 u1 u2 u3 u4 u5 = w6) (h : W.heap[l]? = some o) (hne : l ≠ g) : Aside0 (w6.heap[l]? = some o) := by
  subst hW
  have s : ∀ (w : World) (i : Nat) (u : Value), (w.setCell ⟨g, i, none⟩ u).heap[l]? = w.heap[l]? := fun w i u => Below.heap_setCell w ⟨g, i, none⟩ u l hne
  exact ⟨by simp only [six, s]; exact h⟩
theorem zS7 {W w6 : World} {g T : Nat} {x0 x1 x2 x3 x4 x5 u0 u1 u2 u3 u4 u5 : Value} (hW : six W g u0 u1 u2 u3 u4 u5 = w6) (h : W.heap[g]? = some (.cells #[x0, x1, x2, x3, x4, x5] T (0, 0))) : Aside0 (w6.heap[g]? = some (.cells #[u0, u1, u2, u3, u4, u5] T (0, 0))) := by
  subst hW
  exact ⟨blk_put (blk_put (blk_put (blk_put (blk_put (blk_put h 0 u0 rfl) 1 u1 rfl) 2 u2 rfl) 3 u3 rfl) 4 u4 rfl) 5 u5 rfl⟩
theorem zH7 {w W w6 : World} {g : Nat} {u0 u1 u2 u3 u4 u5 : Value} (hW : six W g u0 u1 u2 u3 u4 u5 = w6) (h : Below w.heap.size w W) (hg : w.heap.size ≤ g) : Aside0 (Below w.heap.size w w6) := by
  subst hW
  exact ⟨by unfold six; exact zs (zs (zs (zs (zs (zs h hg) hg) hg) hg) hg) hg⟩
mutual
def laws_FnExactStepOpt.j0 : Nat → List Int → Bool → List Int → Bool → Bool → Int → Int → Int → Int → Int → Int → Int → Int → Int → Int → Int → List Int → List Int → List Int → Int → Int → Int → List Int → List Int → List Int → Int → Int → Int → List Int → List Int → List Int → Int → Int → Int → List Int → List Int → List Int → Int → Int → Int → Option (Bool)
 | 0, _, _, _, _, _, _, _, _, _, _, _, _, _, _, _, _, _, _, _, _, _, _, _, _, _, _, _, _, _, _, _, _, _, _, _, _, _, _, _, _ => none
 | k + 1, x2, x9, D0, J0, L0, a0, b0, c0, d0, e0, f0, g0, i0, l0, m0, n0, a, l, q, u, x, y, z, A, B, D, E, I, o0, p0, q0, s0, t0, x0, J, L, M, O, T, U => if L0 = true then (some false) else ((laws_toOpt.f k a l q u x y).bind fun X => ((laws_eqOpt.f k o0 p0 q0 s0 t0 x0 X.1 X.2.1 X.2.2.1 X.2.2.2.1 X.2.2.2.2.1 X.2.2.2.2.2).bind fun E0 => (if E0 = true then ((laws_toIntS.f k x2).bind fun F0 => ((laws_eqIntS.f k D0 F0).bind fun G0 => (if G0 = true then ((laws_markOpt.f k o0 p0 q0 s0 t0 x0 1).bind fun B0 => ((laws_markIntS.f k D0 B0.1).bind fun C0 => (if C0.1 < 0 then (laws_FnExactStepOpt.j1 k x2 x9 true a0 b0 c0 d0 e0 f0 g0 i0 l0 m0 n0 a l q u x y z A B D E I J L M O T U) else ((laws_eqOpt.f k J L M O T U z A B D E I).bind fun I0 => (if I0 = true then (laws_FnExactStepOpt.j1 k x2 x9 (J0 != x9) a0 b0 c0 d0 e0 f0 g0 i0 l0 m0 n0 a l q u x y z A B D E I J L M O T U) else (laws_FnExactStepOpt.j1 k x2 x9 true a0 b0 c0 d0 e0 f0 g0 i0 l0 m0 n0 a l q u x y z A B D E I J L M O T U)))))) else (some false)))) else (some false))))
def laws_FnExactStepOpt.j1 : Nat → List Int → Bool → Bool → Int → Int → Int → Int → Int → Int → Int → Int → Int → Int → Int → List Int → List Int → List Int → Int → Int → Int → List Int → List Int → List Int → Int → Int → Int → List Int → List Int → List Int → Int → Int → Int → Option (Bool)
 | 0, _, _, _, _, _, _, _, _, _, _, _, _, _, _, _, _, _, _, _, _, _, _, _, _, _, _, _, _, _, _, _, _ => none
 | k + 1, x2, x9, x0, A, B, D, E, I, J, L, M, O, T, U, X, a0, b0, c0, d0, e0, f0, g0, i0, j0, l0, m0, n0, o0, p0, u, x, y => if x0 = true then (some false) else ((laws_markOpt.f k n0 o0 p0 u x y 1).bind fun a => ((laws_heldOpt.f k a.2.1 a.2.2.1 a.2.2.2 u x y 1).bind fun q0 => (if q0 < 0 then (some false) else (if q0 = a.1 then ((laws_toRule.f A B D E I J L M O T U).bind fun l => ((laws_toOpt.f k X a0 b0 c0 d0 e0).bind fun z => ((laws_toIntS.f k x2).bind fun s0 => ((impl_StepOpt.f k l.1 l.2.1 l.2.2.1 l.2.2.2.1 l.2.2.2.2.1 l.2.2.2.2.2.1 l.2.2.2.2.2.2.1 l.2.2.2.2.2.2.2.1 l.2.2.2.2.2.2.2.2.1 l.2.2.2.2.2.2.2.2.2.1 l.2.2.2.2.2.2.2.2.2.2 z.1 z.2.1 z.2.2.1 z.2.2.2.1 z.2.2.2.2.1 z.2.2.2.2.2 s0).bind fun q => ((laws_eqOpt.f k q.1 q.2.1 q.2.2.1 q.2.2.2.1 q.2.2.2.2.1 q.2.2.2.2.2.1 f0 g0 i0 j0 l0 m0).bind fun t0 => (if t0 = true then (laws_FnExactStepOpt.j2 k a.1 (q.2.2.2.2.2.2 != x9) a.2.1 a.2.2.1 a.2.2.2 u x y) else (laws_FnExactStepOpt.j2 k a.1 true a.2.1 a.2.2.1 a.2.2.2 u x y))))))) else (some false)))))
def laws_FnExactStepOpt.j2 : Nat → Int → Bool → List Int → List Int → List Int → Int → Int → Int → Option (Bool)
 | 0, _, _, _, _, _, _, _, _ => none
 | k + 1, B, A, a, l, q, u, x, y => if A = true then (some false) else ((laws_heldOpt.f k a l q u x y 1).bind fun z => (if z < 0 then (some false) else (if z = B then (some true) else (some false))))
end
def laws_FnExactStepOpt.T30 : Bool × List (List Nat × List Nat) := (true, [([], []), ([0], [0]), ([], []), ([2, 1], [2]), ([], []), ([4, 3], [4]), ([1, 3, 5, 5], [1, 3, 5]), ([6], [6]), ([7], [7]), ([7], [7]), ([], []), ([10, 8, 6, 0, 1, 2, 3, 4, 5, 6, 7, 8, 10], [8, 10]), ([9, 11, 0, 1, 2, 3, 4, 5, 6, 7, 8, 9, 10, 11], [9])])
def laws_FnExactStepOpt.B30 : List Nat := [0, 1, 0, 7, 0, 31, 63, 127, 255, 255, 0, 1535, 4095]
theorem laws_FnExactStepOpt.tab30 : rtab .any (opsOf Try.f3 30) = laws_FnExactStepOpt.T30 := by kernel_rfl
theorem laws_FnExactStepOpt.bits30 : waitsOk laws_FnExactStepOpt.T30.2 laws_FnExactStepOpt.B30 = true := by kernel_rfl
/-- Pieces of a function's text. -/
def hd : Code → Code | .seq x _ => x | c => c
def sx : Code → Code | .seq _ y => y | c => c
def bodyOf (f : Func) : Code := match f.body with | some c => c | none => .skip
/-- What follows the law's second cut. -/
theorem laws_FnExactStepOpt.rest1 (k : Nat) (p1 : Int) (q1 : Int) (t1 : Int) (x1 : Int) (y1 : Int) (A1 : Int) (B1 : Int) (C1 : Int) (D1 : Int) (E1 : Int) (S0 : Int) (D2 : Option Addr) (E2 : Nat) (g1 : List Int) (F2 : Option Addr) (G2 : Nat) (i1 : List Int) (I2 : Option Addr) (J2 : Nat) (l1 : List Int) (m1 : Int) (n1 : Int) (o1 : Int) (A2 : Option Addr) (c2 : Nat) (l2 : List Int) (w : World) (a2l : Int) (u : List Int) (x : List Int) (y : List Int) (c3 : Int) (d3 : Int) (e3 : Int) (i4 : Bool) (L1 : List Int) (M1 : List Int) (N1 : List Int) (N3 : Int) (O3 : Int) (R3 : Int) (J1 : List Int) (U : List Int) (X : List Int) (a0 : List Int) (o3 : Int) (p3 : Int) (q3 : Int) (D7 : Bool) (l : Nat) (z : Nat) (I0 : Nat) (i0 : Option Addr) (b0 : Nat) (l0 : Option Addr) (c0 : Nat) (m0 : Option Addr) (d0 : Nat) (C2 : Nat) (E : Option Addr) (I : Nat) (J : Option Addr) (L : Nat) (M : Option Addr) (O : Nat) (T2 : Option Addr) (U2 : Nat) (M0 : Nat) (A0 : Option Addr) (t0 : Nat) (B0 : Option Addr) (x0 : Nat) (C0 : Option Addr) (y0 : Nat) (O5 : Nat) (D0 : List Int) (E0 : List Int) (F0 : List Int) (a4j : Int) (K K1 : Act → World → Prop) (wc : World) (u19 u20 u21 u22 u23 u24 u25 u26 u27 u28 u29 u30 u31 u32 u33 u34 u35 u36 u37 u38 u39 u40 u41 u42 u43 u44 u45 u46 u47 u48 u49 u50 u51 u52 u53 u54 u55 u56 u57 u58 u59 u60 u61 u62 u63 u64 u65 u66 u67 u68 u69 u70 u71 u72 u73 u74 u75 u76 u77 u78 u79 u80 u81 u82 u83 u84 u85 u86 u87 u88 u89 u90 u91 u92 u93 u94 u95 u96 u97 u98 u99 u100 u101 u102 u103 u104 u105 u106 u107 u108 u109 u110 u111 u112 u113 u114 u115 u116 u117 u118 u119 u120 u121 u122 u123 u124 : Value) (y8 : Aside0 ((Kd.int IntKind.i64).C w D2 g1.length g1)) (A8 : Aside0 (g1.length ≤ E2)) (B8 : Aside0 ((Kd.int IntKind.i64).C w F2 i1.length i1)) (C8 : Aside0 (i1.length ≤ G2)) (D8 : Aside0 ((Kd.int IntKind.i64).C w I2 l1.length l1)) (E8 : Aside0 (l1.length ≤ J2)) (U9 : Aside0 ((Kd.int IntKind.i64).C w A2 l2.length l2)) (V9 : Aside0 (l2.length ≤ c2)) (a2n : Aside0 (w.heap.size ≤ l)) (a2o : Aside0 (w.heap.size ≤ z)) (T5 : Aside0 (w.heap.size ≤ I0)) (L0 : Aside0 (l ≠ I0)) (n3 : Aside0 (I0 ≠ l)) (a1 : Aside0 (z ≠ I0)) (m3 : Aside0 (I0 ≠ z)) (a2p : Aside0 (w.heap.size ≤ C2)) (B6 : Aside0 (I0 ≠ C2)) (C6 : Aside0 (C2 ≠ I0)) (X7 : Aside0 (w.heap.size ≤ M0)) (O0 : Aside0 (l ≠ M0)) (e4 : Aside0 (M0 ≠ l)) (f4 : Aside0 (z ≠ M0)) (g4 : Aside0 (M0 ≠ z)) (U3 : Aside0 (I0 ≠ M0)) (V3 : Aside0 (M0 ≠ I0)) (G1 : Aside0 (C2 ≠ M0)) (X3 : Aside0 (M0 ≠ C2)) (L9 : Aside0 (O5 + 1 ≤ k))
  (hcut : (fun v86 wc => ∃ (kq : Nat) (L8 : Bool), v86 = .bool L8 ∧ Aside0 (laws_FnExactStepOpt.j1 kq l2 i4 L8 p1 q1 t1 x1 y1 A1 B1 C1 D1 E1 S0 g1 i1 l1 m1 n1 o1 u x y c3 d3 e3 U X a0 o3 p3 q3 = some true) ∧ Aside0 (kq ≤ O5) ∧ Aside0 (Kd.R (Kd.int .i64) 3 wc w.heap.size (fun k_ => zo (.slice l0 x.length c0) k_ ∧ zo (.slice m0 y.length d0) k_ ∧ zo (.slice E L1.length I) k_ ∧ zo (.slice J M1.length L) k_ ∧ zo (.slice M N1.length O) k_ ∧ zo (.slice A0 U.length t0) k_ ∧ zo (.slice B0 X.length x0) k_ ∧ zo (.slice C0 a0.length y0) k_) (.slice i0 u.length b0) u) ∧ Aside0 (Kd.R (Kd.int .i64) 3 wc w.heap.size (fun k_ => zo (.slice i0 u.length b0) k_ ∧ zo (.slice m0 y.length d0) k_ ∧ zo (.slice E L1.length I) k_ ∧ zo (.slice J M1.length L) k_ ∧ zo (.slice M N1.length O) k_ ∧ zo (.slice A0 U.length t0) k_ ∧ zo (.slice B0 X.length x0) k_ ∧ zo (.slice C0 a0.length y0) k_) (.slice l0 x.length c0) x) ∧ Aside0 (Kd.R (Kd.int .i64) 3 wc w.heap.size (fun k_ => zo (.slice i0 u.length b0) k_ ∧ zo (.slice l0 x.length c0) k_ ∧ zo (.slice E L1.length I) k_ ∧ zo (.slice J M1.length L) k_ ∧ zo (.slice M N1.length O) k_ ∧ zo (.slice A0 U.length t0) k_ ∧ zo (.slice B0 X.length x0) k_ ∧ zo (.slice C0 a0.length y0) k_) (.slice m0 y.length d0) y) ∧ Aside0 (Kd.R (Kd.int .i64) 3 wc w.heap.size (fun k_ => zo (.slice i0 u.length b0) k_ ∧ zo (.slice l0 x.length c0) k_ ∧ zo (.slice m0 y.length d0) k_ ∧ zo (.slice J M1.length L) k_ ∧ zo (.slice M N1.length O) k_ ∧ zo (.slice A0 U.length t0) k_ ∧ zo (.slice B0 X.length x0) k_ ∧ zo (.slice C0 a0.length y0) k_) (.slice E L1.length I) D0) ∧ Aside0 (Kd.R (Kd.int .i64) 3 wc w.heap.size (fun k_ => zo (.slice i0 u.length b0) k_ ∧ zo (.slice l0 x.length c0) k_ ∧ zo (.slice m0 y.length d0) k_ ∧ zo (.slice E L1.length I) k_ ∧ zo (.slice M N1.length O) k_ ∧ zo (.slice A0 U.length t0) k_ ∧ zo (.slice B0 X.length x0) k_ ∧ zo (.slice C0 a0.length y0) k_) (.slice J M1.length L) E0) ∧ Aside0 (Kd.R (Kd.int .i64) 3 wc w.heap.size (fun k_ => zo (.slice i0 u.length b0) k_ ∧ zo (.slice l0 x.length c0) k_ ∧ zo (.slice m0 y.length d0) k_ ∧ zo (.slice E L1.length I) k_ ∧ zo (.slice J M1.length L) k_ ∧ zo (.slice A0 U.length t0) k_ ∧ zo (.slice B0 X.length x0) k_ ∧ zo (.slice C0 a0.length y0) k_) (.slice M N1.length O) F0) ∧ Aside0 (Kd.R (Kd.int .i64) 3 wc w.heap.size (fun k_ => zo (.slice i0 u.length b0) k_ ∧ zo (.slice l0 x.length c0) k_ ∧ zo (.slice m0 y.length d0) k_ ∧ zo (.slice E L1.length I) k_ ∧ zo (.slice J M1.length L) k_ ∧ zo (.slice M N1.length O) k_ ∧ zo (.slice B0 X.length x0) k_ ∧ zo (.slice C0 a0.length y0) k_) (.slice A0 U.length t0) U) ∧ Aside0 (Kd.R (Kd.int .i64) 3 wc w.heap.size (fun k_ => zo (.slice i0 u.length b0) k_ ∧ zo (.slice l0 x.length c0) k_ ∧ zo (.slice m0 y.length d0) k_ ∧ zo (.slice E L1.length I) k_ ∧ zo (.slice J M1.length L) k_ ∧ zo (.slice M N1.length O) k_ ∧ zo (.slice A0 U.length t0) k_ ∧ zo (.slice C0 a0.length y0) k_) (.slice B0 X.length x0) X) ∧ Aside0 (Kd.R (Kd.int .i64) 3 wc w.heap.size (fun k_ => zo (.slice i0 u.length b0) k_ ∧ zo (.slice l0 x.length c0) k_ ∧ zo (.slice m0 y.length d0) k_ ∧ zo (.slice E L1.length I) k_ ∧ zo (.slice J M1.length L) k_ ∧ zo (.slice M N1.length O) k_ ∧ zo (.slice A0 U.length t0) k_ ∧ zo (.slice B0 X.length x0) k_) (.slice C0 a0.length y0) a0) ∧ Aside0 (wc.heap[l]? = some (.cells #[.int .i64 p1, .int .i64 q1, .int .i64 t1, .int .i64 x1, .int .i64 y1, .int .i64 A1, .int .i64 B1, .int .i64 C1, .int .i64 D1, .int .i64 E1, .int .i64 S0] 25 (0, 0))) ∧ Aside0 (wc.heap[z]? = some (.cells #[(.slice D2 g1.length E2), (.slice F2 i1.length G2), (.slice I2 l1.length J2), .int .i64 m1, .int .i64 n1, .int .i64 o1] 28 (0, 0))) ∧ Aside0 (wc.heap[I0]? = some (.cells #[(.slice i0 u.length b0), (.slice l0 x.length c0), (.slice m0 y.length d0), .int .i64 c3, .int .i64 d3, .int .i64 e3] 30 (0, 0))) ∧ Aside0 (wc.heap[C2]? = some (.cells #[(.slice E L1.length I), (.slice J M1.length L), (.slice M N1.length O), .int .i64 N3, .int .i64 O3, .int .i64 R3] 30 (0, 0))) ∧ Aside0 (wc.heap[M0]? = some (.cells #[(.slice A0 U.length t0), (.slice B0 X.length x0), (.slice C0 a0.length y0), .int .i64 o3, .int .i64 p3, .int .i64 q3] 30 (0, 0))) ∧ Aside0 (Below w.heap.size w wc)) u86 wc)
  (c86 c22 : Code) (e86 : c86 = sx (hd (sx (sx (sx (sx (sx (sx (sx (sx (sx (sx (sx (sx (sx (sx (sx (bodyOf Try.f3)))))))))))))))))) (e22 : c22 = sx (sx (sx (sx (sx (sx (sx (sx (sx (sx (sx (sx (sx (sx (sx (sx (bodyOf Try.f3)))))))))))))))))
  (hK1 : ∀ a w', c22.wp Try.prog (bodyPost Try.prog Try.f3 (fun e w' => e = .returned (.bool true) ∧ Below w.heap.size w w')) a w' → K1 a w')
  (hK : ∀ a w', c86.wp Try.prog (Exit.then K1 (bodyPost Try.prog Try.f3 (fun e w' => e = .returned (.bool true) ∧ Below w.heap.size w w'))) a w' → K a w') :
 K { tmps := #[Value.agg #[Value.int IntKind.i64 p1, Value.int IntKind.i64 q1, Value.int IntKind.i64 t1, Value.int IntKind.i64 x1, Value.int IntKind.i64 y1, Value.int IntKind.i64 A1, Value.int IntKind.i64 B1, Value.int IntKind.i64 C1, Value.int IntKind.i64 D1, Value.int IntKind.i64 E1, Value.int IntKind.i64 S0], Value.agg #[Value.slice D2 g1.length E2, Value.slice F2 i1.length G2, Value.slice I2 l1.length J2, Value.int IntKind.i64 m1, Value.int IntKind.i64 n1, Value.int IntKind.i64 o1], Value.slice A2 l2.length c2, Value.pointer (some ⟨l, 0, none⟩), Value.pointer (some ⟨z, 0, none⟩), undef, Value.bool false, Value.int IntKind.i64 a2l, Value.pointer (some ⟨I0, 0, none⟩), Value.bool i4, Value.pointer (some ⟨C2, 0, none⟩), Value.slice T2 J1.length U2, Value.pointer (some ⟨M0, 0, none⟩), Value.bool D7, Value.int IntKind.i64 a4j, undef, undef, undef, undef, u19, u20, u21, u22, u23, u24, u25, u26, u27, u28, u29, u30, u31, u32, u33, u34, u35, u36, u37, u38, u39, u40, u41, u42, u43, u44, u45, u46, u47, u48, u49, u50, u51, u52, u53, u54, u55, u56, u57, u58, u59, u60, u61, u62, u63, u64, u65, u66, u67, u68, u69, u70, u71, u72, u73, u74, u75, u76, u77, u78, u79, u80, u81, u82, u83, u84, u85, u86, u87, u88, u89, u90, u91, u92, u93, u94, u95, u96, u97, u98, u99, u100, u101, u102, u103, u104, u105, u106, u107, u108, u109, u110, u111, u112, u113, u114, u115, u116, u117, u118, u119, u120, u121, u122, u123, u124], defers := [] } wc := by
 have c6t := Try.underlying25
 have c6u := Try.underlying28
 have c6x := Try.underlying30
 dsimp only [sx, hd, bodyOf, Try.f3] at e86 e22
 subst e86 e22
 try dsimp only at hcut
 obtain ⟨kq, L8, rfl, HA, b0s, o0, p0, q0, e0, f0, g0, A, B, D, a, q, n0, T, G0, HB⟩ := hcut
 have U0 := (Kd.R_reads' e0.out).1
 rw [U0] at e0
 (try simp only [U0])
 (try simp only [U0] at a)
 (try simp only [U0] at q)
 (try simp only [U0] at n0)
 (try simp only [U0] at T)
 (try simp only [U0] at G0)
 (try simp only [U0] at o0)
 (try simp only [U0] at p0)
 (try simp only [U0] at q0)
 (try simp only [U0] at f0)
 (try simp only [U0] at g0)
 (try simp only [U0] at A)
 (try simp only [U0] at B)
 (try simp only [U0] at D)
 have V0 := (Kd.R_reads' f0.out).1
 rw [V0] at f0
 (try simp only [V0])
 (try simp only [V0] at a)
 (try simp only [V0] at q)
 (try simp only [V0] at n0)
 (try simp only [V0] at T)
 (try simp only [V0] at G0)
 (try simp only [V0] at o0)
 (try simp only [V0] at p0)
 (try simp only [V0] at q0)
 (try simp only [V0] at e0)
 (try simp only [V0] at g0)
 (try simp only [V0] at A)
 (try simp only [V0] at B)
 (try simp only [V0] at D)
 have X0 := (Kd.R_reads' g0.out).1
 rw [X0] at g0
 (try simp only [X0])
 (try simp only [X0] at a)
 (try simp only [X0] at q)
 (try simp only [X0] at n0)
 (try simp only [X0] at T)
 (try simp only [X0] at G0)
 (try simp only [X0] at o0)
 (try simp only [X0] at p0)
 (try simp only [X0] at q0)
 (try simp only [X0] at e0)
 (try simp only [X0] at f0)
 (try simp only [X0] at A)
 (try simp only [X0] at B)
 (try simp only [X0] at D)
 cases kq with
 | zero => exact absurd HA.out (by simp [laws_FnExactStepOpt.j1])
 | succ j4 =>
  have H := HA.out
  clear HA
  simp only [laws_FnExactStepOpt.j1] at H
  by_cases a2z : L8 = true
  · subst a2z
    rw [if_pos rfl] at H
    exact absurd H (by simp)
  replace a2z := Bool.eq_false_iff.mpr a2z
  subst a2z
  rw [if_neg (show ¬ (false = true) by decide)] at H
  replace H := z6 H
  obtain ⟨⟨S7, L4, M4, N4⟩, b0t, H⟩ := H
  replace H : ((laws_heldOpt.f j4 L4 M4 N4 o3 p3 q3 1).bind fun i9 => (if i9 < 0 then (some false) else (if i9 = S7 then ((laws_toRule.f p1 q1 t1 x1 y1 A1 B1 C1 D1 E1 S0).bind fun M7 => ((laws_toOpt.f j4 g1 i1 l1 m1 n1 o1).bind fun N6 => ((laws_toIntS.f j4 l2).bind fun m6 => ((impl_StepOpt.f j4 M7.1 M7.2.1 M7.2.2.1 M7.2.2.2.1 M7.2.2.2.2.1 M7.2.2.2.2.2.1 M7.2.2.2.2.2.2.1 M7.2.2.2.2.2.2.2.1 M7.2.2.2.2.2.2.2.2.1 M7.2.2.2.2.2.2.2.2.2.1 M7.2.2.2.2.2.2.2.2.2.2 N6.1 N6.2.1 N6.2.2.1 N6.2.2.2.1 N6.2.2.2.2.1 N6.2.2.2.2.2 m6).bind fun t5 => ((laws_eqOpt.f j4 t5.1 t5.2.1 t5.2.2.1 t5.2.2.2.1 t5.2.2.2.2.1 t5.2.2.2.2.2.1 u x y c3 d3 e3).bind fun F8 => (if F8 = true then (laws_FnExactStepOpt.j2 j4 S7 (t5.2.2.2.2.2.2 != i4) L4 M4 N4 o3 p3 q3) else (laws_FnExactStepOpt.j2 j4 S7 true L4 M4 N4 o3 p3 q3))))))) else (some false)))) = some true := H
  have b4y := zK b0t
  clear b0t
  replace H := z6 H
  obtain ⟨i9, b0u, H⟩ := H
  have b4z := zK b0u
  clear b0u
  by_cases j9 : i9 < 0
  · rw [if_pos j9] at H
    have b2u := z1 j9
    clear j9
    exact absurd H (by simp)
  rw [if_neg j9] at H
  have b2u := z2 j9
  clear j9
  by_cases O8 : i9 = S7
  rotate_left
  · rw [if_neg O8] at H
    have b2x := beq_eq_false_iff_ne.mpr O8
    have b2y := bne_iff_ne.mpr O8
    exact absurd H (by simp)
  rw [if_pos O8] at H
  have b2x := beq_iff_eq.mpr O8
  have b2y := bne_eq_false_iff_eq.mpr O8
  clear O8
  replace H := z6 H
  obtain ⟨⟨f7, g7, i7, j7, l7, m7, n7, o7, p7, q7, t7⟩, b0x, H⟩ := H
  replace H : ((laws_toOpt.f j4 g1 i1 l1 m1 n1 o1).bind fun N6 => ((laws_toIntS.f j4 l2).bind fun m6 => ((impl_StepOpt.f j4 f7 g7 i7 j7 l7 m7 n7 o7 p7 q7 t7 N6.1 N6.2.1 N6.2.2.1 N6.2.2.2.1 N6.2.2.2.2.1 N6.2.2.2.2.2 m6).bind fun t5 => ((laws_eqOpt.f j4 t5.1 t5.2.1 t5.2.2.1 t5.2.2.2.1 t5.2.2.2.2.1 t5.2.2.2.2.2.1 u x y c3 d3 e3).bind fun F8 => (if F8 = true then (laws_FnExactStepOpt.j2 j4 S7 (t5.2.2.2.2.2.2 != i4) L4 M4 N4 o3 p3 q3) else (laws_FnExactStepOpt.j2 j4 S7 true L4 M4 N4 o3 p3 q3)))))) = some true := H
  have t9 := zK b0x
  clear b0x
  replace H := z6 H
  obtain ⟨⟨n6, o6, p6, T7, U7, V7⟩, b0y, H⟩ := H
  replace H : ((laws_toIntS.f j4 l2).bind fun m6 => ((impl_StepOpt.f j4 f7 g7 i7 j7 l7 m7 n7 o7 p7 q7 t7 n6 o6 p6 T7 U7 V7 m6).bind fun t5 => ((laws_eqOpt.f j4 t5.1 t5.2.1 t5.2.2.1 t5.2.2.2.1 t5.2.2.2.2.1 t5.2.2.2.2.2.1 u x y c3 d3 e3).bind fun F8 => (if F8 = true then (laws_FnExactStepOpt.j2 j4 S7 (t5.2.2.2.2.2.2 != i4) L4 M4 N4 o3 p3 q3) else (laws_FnExactStepOpt.j2 j4 S7 true L4 M4 N4 o3 p3 q3))))) = some true := H
  have b2z := zK b0y
  clear b0y
  replace H := z6 H
  obtain ⟨m6, b0z, H⟩ := H
  have b3a := zK b0z
  clear b0z
  replace H := z6 H
  obtain ⟨⟨t4, x4, y4, x7, y7, B7, t8⟩, b1a, H⟩ := H
  replace H : ((laws_eqOpt.f j4 t4 x4 y4 x7 y7 B7 u x y c3 d3 e3).bind fun F8 => (if F8 = true then (laws_FnExactStepOpt.j2 j4 S7 (t8 != i4) L4 M4 N4 o3 p3 q3) else (laws_FnExactStepOpt.j2 j4 S7 true L4 M4 N4 o3 p3 q3))) = some true := H
  have b3b := zK b1a
  clear b1a
  have a3a := zK H
  clear H
  have c1q := e4.out
  have c1s := O0.out
  have c1t := g4.out
  have c1u := f4.out
  have c1x := V3.out
  have c1y := U3.out
  have c1z := X3.out
  have c2a := G1.out
  obtain ⟨b5a, b5b, b5c, b5d, b5e, b5f, b5g, b5j, b5l, b5m, b5n, b5o⟩ := zc6 G0
  try go_wp2_with (first | ((with_reducible refine gc 15 rfl ?_); refine zF 89 Try.func15 #[.agg #[.slice A0 U.length t0, .slice B0 X.length x0, .slice C0 a0.length y0, .int .i64 o3, .int .i64 p3, .int .i64 q3], .int .i64 1] rfl zL ?_; (with_reducible refine (laws_markOpt.calls j4 (fun k_ => some k_ = (.slice A0 U.length t0 : Value).ownBlock) (.slice A0 U.length t0) U (fun k_ => some k_ = (.slice B0 X.length x0 : Value).ownBlock) (.slice B0 X.length x0) X (fun k_ => some k_ = (.slice C0 a0.length y0 : Value).ownBlock) (.slice C0 a0.length y0) a0 o3 p3 q3 1 S7 L4 M4 N4 w _ ?side1 ?side2 ?side3 ?side4 ?side5 ?side6 ?side7 ?side8 ?side9 ?side10 b4y.out).mono ?_); (case side1 => repeat (first | (with_reducible first | exact HB.out | apply zb | apply zw | apply ze | refine zs ?_ a2n.out | refine zs ?_ a2o.out | refine zs ?_ T5.out | refine zs ?_ a2p.out | refine zs ?_ X7.out) | exact HB.out)); (case side2 => exact Kd.R_tight rfl A.out); (case side3 => exact fun k_ e_ => (A.out.1 k_ e_.symm).2.2.2.2.2.2.1); (case side4 => exact fun k_ e_ => (A.out.1 k_ e_.symm).2.2.2.2.2.2.2); (case side5 => exact Kd.R_tight rfl B.out); (case side6 => exact fun k_ e_ => (B.out.1 k_ e_.symm).2.2.2.2.2.2.1); (case side7 => exact fun k_ e_ => (B.out.1 k_ e_.symm).2.2.2.2.2.2.2); (case side8 => exact Kd.R_tight rfl D.out); (case side9 => exact fun k_ e_ => (D.out.1 k_ e_.symm).2.2.2.2.2.2.1); (case side10 => exact fun k_ e_ => (D.out.1 k_ e_.symm).2.2.2.2.2.2.2); rintro e c8z ⟨rfl, q9, hy1, hy2, hb, hkp⟩; refine ⟨_, rfl, ?_⟩; have R1 := zK (Kd.R_mono (ok' := fun k_ => zo (.slice l0 x.length c0) k_ ∧ zo (.slice m0 y.length d0) k_ ∧ zo (.slice E D0.length I) k_ ∧ zo (.slice J E0.length L) k_ ∧ zo (.slice M F0.length O) k_ ∧ zo (.slice A0 U.length t0) k_ ∧ zo (.slice B0 X.length x0) k_ ∧ zo (.slice C0 a0.length y0) k_) (Kd.R_keptB (o0.out) hkp (fun k_ hk_ hs_ => Or.elim hs_ (fun e_ => (hk_.2.2.2.2.2.1) e_) (fun e_ => Or.elim e_ (fun e_ => (hk_.2.2.2.2.2.2.1) e_) (fun e_ => (hk_.2.2.2.2.2.2.2) e_)))) (fun k_ hk_ => ⟨hk_.1.1, hk_.1.2.1, hk_.1.2.2.1, hk_.1.2.2.2.1, hk_.1.2.2.2.2.1, hk_.1.2.2.2.2.2.1, hk_.1.2.2.2.2.2.2.1, hk_.1.2.2.2.2.2.2.2⟩)); have S1 := zK (Kd.R_mono (ok' := fun k_ => zo (.slice i0 u.length b0) k_ ∧ zo (.slice m0 y.length d0) k_ ∧ zo (.slice E D0.length I) k_ ∧ zo (.slice J E0.length L) k_ ∧ zo (.slice M F0.length O) k_ ∧ zo (.slice A0 U.length t0) k_ ∧ zo (.slice B0 X.length x0) k_ ∧ zo (.slice C0 a0.length y0) k_) (Kd.R_keptB (p0.out) hkp (fun k_ hk_ hs_ => Or.elim hs_ (fun e_ => (hk_.2.2.2.2.2.1) e_) (fun e_ => Or.elim e_ (fun e_ => (hk_.2.2.2.2.2.2.1) e_) (fun e_ => (hk_.2.2.2.2.2.2.2) e_)))) (fun k_ hk_ => ⟨hk_.1.1, hk_.1.2.1, hk_.1.2.2.1, hk_.1.2.2.2.1, hk_.1.2.2.2.2.1, hk_.1.2.2.2.2.2.1, hk_.1.2.2.2.2.2.2.1, hk_.1.2.2.2.2.2.2.2⟩)); have T1 := zK (Kd.R_mono (ok' := fun k_ => zo (.slice i0 u.length b0) k_ ∧ zo (.slice l0 x.length c0) k_ ∧ zo (.slice E D0.length I) k_ ∧ zo (.slice J E0.length L) k_ ∧ zo (.slice M F0.length O) k_ ∧ zo (.slice A0 U.length t0) k_ ∧ zo (.slice B0 X.length x0) k_ ∧ zo (.slice C0 a0.length y0) k_) (Kd.R_keptB (q0.out) hkp (fun k_ hk_ hs_ => Or.elim hs_ (fun e_ => (hk_.2.2.2.2.2.1) e_) (fun e_ => Or.elim e_ (fun e_ => (hk_.2.2.2.2.2.2.1) e_) (fun e_ => (hk_.2.2.2.2.2.2.2) e_)))) (fun k_ hk_ => ⟨hk_.1.1, hk_.1.2.1, hk_.1.2.2.1, hk_.1.2.2.2.1, hk_.1.2.2.2.2.1, hk_.1.2.2.2.2.2.1, hk_.1.2.2.2.2.2.2.1, hk_.1.2.2.2.2.2.2.2⟩)); have a2 := zK (Kd.R_mono (ok' := fun k_ => zo (.slice i0 u.length b0) k_ ∧ zo (.slice l0 x.length c0) k_ ∧ zo (.slice m0 y.length d0) k_ ∧ zo (.slice J E0.length L) k_ ∧ zo (.slice M F0.length O) k_ ∧ zo (.slice A0 U.length t0) k_ ∧ zo (.slice B0 X.length x0) k_ ∧ zo (.slice C0 a0.length y0) k_) (Kd.R_keptB (e0.out) hkp (fun k_ hk_ hs_ => Or.elim hs_ (fun e_ => (hk_.2.2.2.2.2.1) e_) (fun e_ => Or.elim e_ (fun e_ => (hk_.2.2.2.2.2.2.1) e_) (fun e_ => (hk_.2.2.2.2.2.2.2) e_)))) (fun k_ hk_ => ⟨hk_.1.1, hk_.1.2.1, hk_.1.2.2.1, hk_.1.2.2.2.1, hk_.1.2.2.2.2.1, hk_.1.2.2.2.2.2.1, hk_.1.2.2.2.2.2.2.1, hk_.1.2.2.2.2.2.2.2⟩)); have b2 := zK (Kd.R_mono (ok' := fun k_ => zo (.slice i0 u.length b0) k_ ∧ zo (.slice l0 x.length c0) k_ ∧ zo (.slice m0 y.length d0) k_ ∧ zo (.slice E D0.length I) k_ ∧ zo (.slice M F0.length O) k_ ∧ zo (.slice A0 U.length t0) k_ ∧ zo (.slice B0 X.length x0) k_ ∧ zo (.slice C0 a0.length y0) k_) (Kd.R_keptB (f0.out) hkp (fun k_ hk_ hs_ => Or.elim hs_ (fun e_ => (hk_.2.2.2.2.2.1) e_) (fun e_ => Or.elim e_ (fun e_ => (hk_.2.2.2.2.2.2.1) e_) (fun e_ => (hk_.2.2.2.2.2.2.2) e_)))) (fun k_ hk_ => ⟨hk_.1.1, hk_.1.2.1, hk_.1.2.2.1, hk_.1.2.2.2.1, hk_.1.2.2.2.2.1, hk_.1.2.2.2.2.2.1, hk_.1.2.2.2.2.2.2.1, hk_.1.2.2.2.2.2.2.2⟩)); have d2 := zK (Kd.R_mono (ok' := fun k_ => zo (.slice i0 u.length b0) k_ ∧ zo (.slice l0 x.length c0) k_ ∧ zo (.slice m0 y.length d0) k_ ∧ zo (.slice E D0.length I) k_ ∧ zo (.slice J E0.length L) k_ ∧ zo (.slice A0 U.length t0) k_ ∧ zo (.slice B0 X.length x0) k_ ∧ zo (.slice C0 a0.length y0) k_) (Kd.R_keptB (g0.out) hkp (fun k_ hk_ hs_ => Or.elim hs_ (fun e_ => (hk_.2.2.2.2.2.1) e_) (fun e_ => Or.elim e_ (fun e_ => (hk_.2.2.2.2.2.2.1) e_) (fun e_ => (hk_.2.2.2.2.2.2.2) e_)))) (fun k_ hk_ => ⟨hk_.1.1, hk_.1.2.1, hk_.1.2.2.1, hk_.1.2.2.2.1, hk_.1.2.2.2.2.1, hk_.1.2.2.2.2.2.1, hk_.1.2.2.2.2.2.2.1, hk_.1.2.2.2.2.2.2.2⟩)); have i2 := zK (Kd.R_reok rfl q9 (fun k_ e_ => A.out.1 k_ e_)); have m2 := zK (Kd.R_reok rfl hy1 (fun k_ e_ => B.out.1 k_ e_)); have t2 := zK (Kd.R_reok rfl hy2 (fun k_ e_ => D.out.1 k_ e_)); have x2 := zK (blk_kept (zM a) hkp (fun hs_ => Or.elim hs_ (fun e_ => (fun e_ => (Kd.R_ne A.out a.out (by decide)) e_) e_) (fun e_ => Or.elim e_ (fun e_ => (fun e_ => (Kd.R_ne B.out a.out (by decide)) e_) e_) (fun e_ => (fun e_ => (Kd.R_ne D.out a.out (by decide)) e_) e_)))); have O1 := zK (blk_kept (zM q) hkp (fun hs_ => Or.elim hs_ (fun e_ => (fun e_ => (Kd.R_ne A.out q.out (by decide)) e_) e_) (fun e_ => Or.elim e_ (fun e_ => (fun e_ => (Kd.R_ne B.out q.out (by decide)) e_) e_) (fun e_ => (fun e_ => (Kd.R_ne D.out q.out (by decide)) e_) e_)))); have U1 := zK (blk_kept (zM n0) hkp (fun hs_ => Or.elim hs_ (fun e_ => (fun e_ => (Kd.R_ne A.out n0.out (by decide)) e_) e_) (fun e_ => Or.elim e_ (fun e_ => (fun e_ => (Kd.R_ne B.out n0.out (by decide)) e_) e_) (fun e_ => (fun e_ => (Kd.R_ne D.out n0.out (by decide)) e_) e_)))); have V1 := zK (blk_kept (zM T) hkp (fun hs_ => Or.elim hs_ (fun e_ => (fun e_ => (Kd.R_ne A.out T.out (by decide)) e_) e_) (fun e_ => Or.elim e_ (fun e_ => (fun e_ => (Kd.R_ne B.out T.out (by decide)) e_) e_) (fun e_ => (fun e_ => (Kd.R_ne D.out T.out (by decide)) e_) e_)))); have X1 := zK (blk_kept (zM G0) hkp (fun hs_ => Or.elim hs_ (fun e_ => (fun e_ => (Kd.R_ne A.out G0.out (by decide)) e_) e_) (fun e_ => Or.elim e_ (fun e_ => (fun e_ => (Kd.R_ne B.out G0.out (by decide)) e_) e_) (fun e_ => (fun e_ => (Kd.R_ne D.out G0.out (by decide)) e_) e_)))); have g2 := zK (hb); revert R1 S1 T1 a2 b2 d2 i2 m2 t2 x2 O1 U1 V1 X1 g2; clear o0 p0 q0 e0 f0 g0 A B D a q n0 T G0 HB; intro o0 p0 q0 e0 f0 g0 A B D a q n0 T G0 HB; (try clear hkp); (try clear q9); (try clear hy1); (try clear hy2); obtain ⟨b5p, b5q, b5s, b5t, b5u, b5x, b5y, b5z, b6a, b6b, b6c, b6d⟩ := zc6 G0) | ((with_reducible refine gc 17 rfl ?_); refine zF 92 Try.func17 #[.agg #[.slice A0 L4.length t0, .slice B0 M4.length x0, .slice C0 N4.length y0, .int .i64 o3, .int .i64 p3, .int .i64 q3], .int .i64 1] rfl (by (try simp only [List.map_toArray, List.map_cons, List.map_nil]); first | done | (rw [show L4.length = U.length from (Kd.R_reads' A.out).1.symm, show M4.length = X.length from (Kd.R_reads' B.out).1.symm, show N4.length = a0.length from (Kd.R_reads' D.out).1.symm] <;> rfl) | rfl | (simp only [List.length_drop, List.length_take]; rfl)) ?_; (with_reducible refine (laws_heldOpt.calls j4 _ _ L4 _ _ M4 _ _ N4 o3 p3 q3 1 i9 _ ?side1 ?side2 ?side3 ?side4 ?side5 ?side6 b4z.out).mono ?_); (case side1 => exact zC (Kd.R_reads' A.out).2.2); (case side2 => rw [show L4.length = U.length from (Kd.R_reads' A.out).1.symm]; exact (Kd.R_reads' A.out).2.1); (case side3 => exact zC (Kd.R_reads' B.out).2.2); (case side4 => rw [show M4.length = X.length from (Kd.R_reads' B.out).1.symm]; exact (Kd.R_reads' B.out).2.1); (case side5 => exact zC (Kd.R_reads' D.out).2.2); (case side6 => rw [show N4.length = a0.length from (Kd.R_reads' D.out).1.symm]; exact (Kd.R_reads' D.out).2.1); rintro e b6e ⟨rfl, hb⟩; refine ⟨_, rfl, ?_⟩; have R1 := zK (Kd.R_below (zkR o0) hb); have S1 := zK (Kd.R_below (zkR p0) hb); have T1 := zK (Kd.R_below (zkR q0) hb); have a2 := zK (Kd.R_below (zkR e0) hb); have b2 := zK (Kd.R_below (zkR f0) hb); have d2 := zK (Kd.R_below (zkR g0) hb); have i2 := zK (Kd.R_below (zkR A) hb); have m2 := zK (Kd.R_below (zkR B) hb); have t2 := zK (Kd.R_below (zkR D) hb); have x2 := z7 a hb; have O1 := z7 q hb; have U1 := z7 n0 hb; have V1 := z7 T hb; have X1 := z7 G0 hb; have g2 := z8 hb; revert R1 S1 T1 a2 b2 d2 i2 m2 t2 x2 O1 U1 V1 X1 g2; clear o0 p0 q0 e0 f0 g0 A B D a q n0 T G0 HB; intro o0 p0 q0 e0 f0 g0 A B D a q n0 T G0 HB))
  have R1 := zK (Kd.R_drew o0.out)
  have S1 := zK (Kd.R_drew p0.out)
  have T1 := zK (Kd.R_drew q0.out)
  have a2 := zK (Kd.R_drew e0.out)
  have b2 := zK (Kd.R_drew f0.out)
  have d2 := zK (Kd.R_drew g0.out)
  have i2 := zK (Kd.R_drew A.out)
  have m2 := zK (Kd.R_drew B.out)
  have t2 := zK (Kd.R_drew D.out)
  have x2 := zK (zd a.out)
  have O1 := zK (zd q.out)
  have U1 := zK (zd n0.out)
  have V1 := zK (zd T.out)
  have X1 := zK (zd G0.out)
  have g2 := zK (ze HB.out)
  revert R1 S1 T1 a2 b2 d2 i2 m2 t2 x2 O1 U1 V1 X1 g2
  clear o0 p0 q0 e0 f0 g0 A B D a q n0 T G0 HB
  intro o0 p0 q0 e0 f0 g0 A B D a q n0 T G0 HB
  refine start_ (n := 13) (S := fun w' => w'.cell? ⟨l, 0, none⟩ = some (.int .i64 p1) ∧ w'.cell? ⟨l, 1, none⟩ = some (.int .i64 q1) ∧ w'.cell? ⟨l, 2, none⟩ = some (.int .i64 t1) ∧ w'.cell? ⟨l, 3, none⟩ = some (.int .i64 x1) ∧ w'.cell? ⟨l, 4, none⟩ = some (.int .i64 y1) ∧ w'.cell? ⟨l, 5, none⟩ = some (.int .i64 A1) ∧ w'.cell? ⟨l, 6, none⟩ = some (.int .i64 B1) ∧ w'.cell? ⟨l, 7, none⟩ = some (.int .i64 C1) ∧ w'.cell? ⟨l, 8, none⟩ = some (.int .i64 D1) ∧ w'.cell? ⟨l, 9, none⟩ = some (.int .i64 E1) ∧ w'.cell? ⟨l, 10, none⟩ = some (.int .i64 S0) ∧ w'.cell? ⟨z, 0, none⟩ = some (.slice D2 g1.length E2) ∧ w'.cell? ⟨z, 1, none⟩ = some (.slice F2 i1.length G2) ∧ w'.cell? ⟨z, 2, none⟩ = some (.slice I2 l1.length J2) ∧ w'.cell? ⟨z, 3, none⟩ = some (.int .i64 m1) ∧ w'.cell? ⟨z, 4, none⟩ = some (.int .i64 n1) ∧ w'.cell? ⟨z, 5, none⟩ = some (.int .i64 o1)) (ds := []) (bl 13 0) (by kernel_rfl) rfl (by kernel_rfl) ⟨zy a 0, zy a 1, zy a 2, zy a 3, zy a 4, zy a 5, zy a 6, zy a 7, zy a 8, zy a 9, zy a 10, zy q 0, zy q 1, zy q 2, zy q 3, zy q 4, zy q 5⟩ (fun hHeld => ?_); refine with_tabW laws_FnExactStepOpt.tab30 laws_FnExactStepOpt.bits30 (fun HT_ HW_ => ?_)
  generalize b6e.drew = c9a at o0 p0 q0 e0 f0 g0 A B D a q n0 T G0 HB hHeld ⊢
  refine zP 4 103 (bl 13 16) HT_ ?_
  refine zT 0 99 (bl 13 17) rfl rfl HT_ HW_ hHeld (by rintro w' ⟨s0, s1, s2, s3, s4, s5, s6, s7, s8, s9, x9, y9, s12, s13, s14, s15, s16⟩; go_simp; with_reducible rfl) ?_
  refine zT 2 101 (bl 13 21) rfl rfl HT_ HW_ hHeld (by rintro w' ⟨s0, s1, s2, s3, s4, s5, s6, s7, s8, s9, x9, y9, s12, s13, s14, s15, s16⟩; go_simp; with_reducible rfl) ?_
  refine join_ (σ := Value × Value × Value × Value × Value × Value × Value × Nat) 2 (bl 13 2047) (fun s_ => [(100, .agg #[.int .i64 f7, .int .i64 g7, .int .i64 i7, .int .i64 j7, .int .i64 l7, .int .i64 m7, .int .i64 n7, .int .i64 o7, .int .i64 p7, .int .i64 q7, .int .i64 t7]), (102, .agg #[s_.1, s_.2.1, s_.2.2.1, .int .i64 T7, .int .i64 U7, .int .i64 V7]), (104, s_.2.2.2.1), (105, .tuple #[.agg #[s_.2.2.2.2.1, s_.2.2.2.2.2.1, s_.2.2.2.2.2.2.1, .int .i64 x7, .int .i64 y7, .int .i64 B7], .bool t8]), (17, .pointer (some ⟨s_.2.2.2.2.2.2.2, 0, none⟩)), (98, .tuple #[.agg #[s_.2.2.2.2.1, s_.2.2.2.2.2.1, s_.2.2.2.2.2.2.1, .int .i64 x7, .int .i64 y7, .int .i64 B7], .bool t8]), (106, .agg #[s_.2.2.2.2.1, s_.2.2.2.2.2.1, s_.2.2.2.2.2.2.1, .int .i64 x7, .int .i64 y7, .int .i64 B7]), (107, .bool t8)]) (fun s_ w' => (w'.cell? ⟨l, 0, none⟩ = some (.int .i64 p1) ∧ w'.cell? ⟨l, 1, none⟩ = some (.int .i64 q1) ∧ w'.cell? ⟨l, 2, none⟩ = some (.int .i64 t1) ∧ w'.cell? ⟨l, 3, none⟩ = some (.int .i64 x1) ∧ w'.cell? ⟨l, 4, none⟩ = some (.int .i64 y1) ∧ w'.cell? ⟨l, 5, none⟩ = some (.int .i64 A1) ∧ w'.cell? ⟨l, 6, none⟩ = some (.int .i64 B1) ∧ w'.cell? ⟨l, 7, none⟩ = some (.int .i64 C1) ∧ w'.cell? ⟨l, 8, none⟩ = some (.int .i64 D1) ∧ w'.cell? ⟨l, 9, none⟩ = some (.int .i64 E1) ∧ w'.cell? ⟨l, 10, none⟩ = some (.int .i64 S0) ∧ w'.cell? ⟨z, 0, none⟩ = some (.slice D2 g1.length E2) ∧ w'.cell? ⟨z, 1, none⟩ = some (.slice F2 i1.length G2) ∧ w'.cell? ⟨z, 2, none⟩ = some (.slice I2 l1.length J2) ∧ w'.cell? ⟨z, 3, none⟩ = some (.int .i64 m1) ∧ w'.cell? ⟨z, 4, none⟩ = some (.int .i64 n1) ∧ w'.cell? ⟨z, 5, none⟩ = some (.int .i64 o1)) ∧ (Kd.R (Kd.int .i64) 3 w' w.heap.size (fun k_ => zo s_.2.1 k_ ∧ zo s_.2.2.1 k_ ∧ zo s_.2.2.2.1 k_ ∧ zo s_.2.2.2.2.1 k_ ∧ zo s_.2.2.2.2.2.1 k_ ∧ zo s_.2.2.2.2.2.2.1 k_ ∧ zo (.slice i0 u.length b0) k_ ∧ zo (.slice l0 x.length c0) k_ ∧ zo (.slice m0 y.length d0) k_ ∧ zo (.slice E D0.length I) k_ ∧ zo (.slice J E0.length L) k_ ∧ zo (.slice M F0.length O) k_ ∧ zo (.slice A0 U.length t0) k_ ∧ zo (.slice B0 X.length x0) k_ ∧ zo (.slice C0 a0.length y0) k_) s_.1 n6) ∧ (Kd.R (Kd.int .i64) 3 w' w.heap.size (fun k_ => zo s_.1 k_ ∧ zo s_.2.2.1 k_ ∧ zo s_.2.2.2.1 k_ ∧ zo s_.2.2.2.2.1 k_ ∧ zo s_.2.2.2.2.2.1 k_ ∧ zo s_.2.2.2.2.2.2.1 k_ ∧ zo (.slice i0 u.length b0) k_ ∧ zo (.slice l0 x.length c0) k_ ∧ zo (.slice m0 y.length d0) k_ ∧ zo (.slice E D0.length I) k_ ∧ zo (.slice J E0.length L) k_ ∧ zo (.slice M F0.length O) k_ ∧ zo (.slice A0 U.length t0) k_ ∧ zo (.slice B0 X.length x0) k_ ∧ zo (.slice C0 a0.length y0) k_) s_.2.1 o6) ∧ (Kd.R (Kd.int .i64) 3 w' w.heap.size (fun k_ => zo s_.1 k_ ∧ zo s_.2.1 k_ ∧ zo s_.2.2.2.1 k_ ∧ zo s_.2.2.2.2.1 k_ ∧ zo s_.2.2.2.2.2.1 k_ ∧ zo s_.2.2.2.2.2.2.1 k_ ∧ zo (.slice i0 u.length b0) k_ ∧ zo (.slice l0 x.length c0) k_ ∧ zo (.slice m0 y.length d0) k_ ∧ zo (.slice E D0.length I) k_ ∧ zo (.slice J E0.length L) k_ ∧ zo (.slice M F0.length O) k_ ∧ zo (.slice A0 U.length t0) k_ ∧ zo (.slice B0 X.length x0) k_ ∧ zo (.slice C0 a0.length y0) k_) s_.2.2.1 p6) ∧ (Kd.R (Kd.int .i64) 3 w' w.heap.size (fun k_ => zo s_.1 k_ ∧ zo s_.2.1 k_ ∧ zo s_.2.2.1 k_ ∧ zo s_.2.2.2.2.1 k_ ∧ zo s_.2.2.2.2.2.1 k_ ∧ zo s_.2.2.2.2.2.2.1 k_ ∧ zo (.slice i0 u.length b0) k_ ∧ zo (.slice l0 x.length c0) k_ ∧ zo (.slice m0 y.length d0) k_ ∧ zo (.slice E D0.length I) k_ ∧ zo (.slice J E0.length L) k_ ∧ zo (.slice M F0.length O) k_ ∧ zo (.slice A0 U.length t0) k_ ∧ zo (.slice B0 X.length x0) k_ ∧ zo (.slice C0 a0.length y0) k_) s_.2.2.2.1 m6) ∧ (Kd.R (Kd.int .i64) 3 w' w.heap.size (fun k_ => zo s_.1 k_ ∧ zo s_.2.1 k_ ∧ zo s_.2.2.1 k_ ∧ zo s_.2.2.2.1 k_ ∧ zo s_.2.2.2.2.2.1 k_ ∧ zo s_.2.2.2.2.2.2.1 k_ ∧ zo (.slice i0 u.length b0) k_ ∧ zo (.slice l0 x.length c0) k_ ∧ zo (.slice m0 y.length d0) k_ ∧ zo (.slice E D0.length I) k_ ∧ zo (.slice J E0.length L) k_ ∧ zo (.slice M F0.length O) k_ ∧ zo (.slice A0 U.length t0) k_ ∧ zo (.slice B0 X.length x0) k_ ∧ zo (.slice C0 a0.length y0) k_) s_.2.2.2.2.1 t4) ∧ (Kd.R (Kd.int .i64) 3 w' w.heap.size (fun k_ => zo s_.1 k_ ∧ zo s_.2.1 k_ ∧ zo s_.2.2.1 k_ ∧ zo s_.2.2.2.1 k_ ∧ zo s_.2.2.2.2.1 k_ ∧ zo s_.2.2.2.2.2.2.1 k_ ∧ zo (.slice i0 u.length b0) k_ ∧ zo (.slice l0 x.length c0) k_ ∧ zo (.slice m0 y.length d0) k_ ∧ zo (.slice E D0.length I) k_ ∧ zo (.slice J E0.length L) k_ ∧ zo (.slice M F0.length O) k_ ∧ zo (.slice A0 U.length t0) k_ ∧ zo (.slice B0 X.length x0) k_ ∧ zo (.slice C0 a0.length y0) k_) s_.2.2.2.2.2.1 x4) ∧ (Kd.R (Kd.int .i64) 3 w' w.heap.size (fun k_ => zo s_.1 k_ ∧ zo s_.2.1 k_ ∧ zo s_.2.2.1 k_ ∧ zo s_.2.2.2.1 k_ ∧ zo s_.2.2.2.2.1 k_ ∧ zo s_.2.2.2.2.2.1 k_ ∧ zo (.slice i0 u.length b0) k_ ∧ zo (.slice l0 x.length c0) k_ ∧ zo (.slice m0 y.length d0) k_ ∧ zo (.slice E D0.length I) k_ ∧ zo (.slice J E0.length L) k_ ∧ zo (.slice M F0.length O) k_ ∧ zo (.slice A0 U.length t0) k_ ∧ zo (.slice B0 X.length x0) k_ ∧ zo (.slice C0 a0.length y0) k_) s_.2.2.2.2.2.2.1 y4) ∧ (Kd.R (Kd.int .i64) 3 w' w.heap.size (fun k_ => zo s_.1 k_ ∧ zo s_.2.1 k_ ∧ zo s_.2.2.1 k_ ∧ zo s_.2.2.2.1 k_ ∧ zo s_.2.2.2.2.1 k_ ∧ zo s_.2.2.2.2.2.1 k_ ∧ zo s_.2.2.2.2.2.2.1 k_ ∧ zo (.slice l0 x.length c0) k_ ∧ zo (.slice m0 y.length d0) k_ ∧ zo (.slice E D0.length I) k_ ∧ zo (.slice J E0.length L) k_ ∧ zo (.slice M F0.length O) k_ ∧ zo (.slice A0 U.length t0) k_ ∧ zo (.slice B0 X.length x0) k_ ∧ zo (.slice C0 a0.length y0) k_) (.slice i0 u.length b0) u) ∧ (Kd.R (Kd.int .i64) 3 w' w.heap.size (fun k_ => zo s_.1 k_ ∧ zo s_.2.1 k_ ∧ zo s_.2.2.1 k_ ∧ zo s_.2.2.2.1 k_ ∧ zo s_.2.2.2.2.1 k_ ∧ zo s_.2.2.2.2.2.1 k_ ∧ zo s_.2.2.2.2.2.2.1 k_ ∧ zo (.slice i0 u.length b0) k_ ∧ zo (.slice m0 y.length d0) k_ ∧ zo (.slice E D0.length I) k_ ∧ zo (.slice J E0.length L) k_ ∧ zo (.slice M F0.length O) k_ ∧ zo (.slice A0 U.length t0) k_ ∧ zo (.slice B0 X.length x0) k_ ∧ zo (.slice C0 a0.length y0) k_) (.slice l0 x.length c0) x) ∧ (Kd.R (Kd.int .i64) 3 w' w.heap.size (fun k_ => zo s_.1 k_ ∧ zo s_.2.1 k_ ∧ zo s_.2.2.1 k_ ∧ zo s_.2.2.2.1 k_ ∧ zo s_.2.2.2.2.1 k_ ∧ zo s_.2.2.2.2.2.1 k_ ∧ zo s_.2.2.2.2.2.2.1 k_ ∧ zo (.slice i0 u.length b0) k_ ∧ zo (.slice l0 x.length c0) k_ ∧ zo (.slice E D0.length I) k_ ∧ zo (.slice J E0.length L) k_ ∧ zo (.slice M F0.length O) k_ ∧ zo (.slice A0 U.length t0) k_ ∧ zo (.slice B0 X.length x0) k_ ∧ zo (.slice C0 a0.length y0) k_) (.slice m0 y.length d0) y) ∧ (Kd.R (Kd.int .i64) 3 w' w.heap.size (fun k_ => zo s_.1 k_ ∧ zo s_.2.1 k_ ∧ zo s_.2.2.1 k_ ∧ zo s_.2.2.2.1 k_ ∧ zo s_.2.2.2.2.1 k_ ∧ zo s_.2.2.2.2.2.1 k_ ∧ zo s_.2.2.2.2.2.2.1 k_ ∧ zo (.slice i0 u.length b0) k_ ∧ zo (.slice l0 x.length c0) k_ ∧ zo (.slice m0 y.length d0) k_ ∧ zo (.slice J E0.length L) k_ ∧ zo (.slice M F0.length O) k_ ∧ zo (.slice A0 U.length t0) k_ ∧ zo (.slice B0 X.length x0) k_ ∧ zo (.slice C0 a0.length y0) k_) (.slice E D0.length I) D0) ∧ (Kd.R (Kd.int .i64) 3 w' w.heap.size (fun k_ => zo s_.1 k_ ∧ zo s_.2.1 k_ ∧ zo s_.2.2.1 k_ ∧ zo s_.2.2.2.1 k_ ∧ zo s_.2.2.2.2.1 k_ ∧ zo s_.2.2.2.2.2.1 k_ ∧ zo s_.2.2.2.2.2.2.1 k_ ∧ zo (.slice i0 u.length b0) k_ ∧ zo (.slice l0 x.length c0) k_ ∧ zo (.slice m0 y.length d0) k_ ∧ zo (.slice E D0.length I) k_ ∧ zo (.slice M F0.length O) k_ ∧ zo (.slice A0 U.length t0) k_ ∧ zo (.slice B0 X.length x0) k_ ∧ zo (.slice C0 a0.length y0) k_) (.slice J E0.length L) E0) ∧ (Kd.R (Kd.int .i64) 3 w' w.heap.size (fun k_ => zo s_.1 k_ ∧ zo s_.2.1 k_ ∧ zo s_.2.2.1 k_ ∧ zo s_.2.2.2.1 k_ ∧ zo s_.2.2.2.2.1 k_ ∧ zo s_.2.2.2.2.2.1 k_ ∧ zo s_.2.2.2.2.2.2.1 k_ ∧ zo (.slice i0 u.length b0) k_ ∧ zo (.slice l0 x.length c0) k_ ∧ zo (.slice m0 y.length d0) k_ ∧ zo (.slice E D0.length I) k_ ∧ zo (.slice J E0.length L) k_ ∧ zo (.slice A0 U.length t0) k_ ∧ zo (.slice B0 X.length x0) k_ ∧ zo (.slice C0 a0.length y0) k_) (.slice M F0.length O) F0) ∧ (Kd.R (Kd.int .i64) 3 w' w.heap.size (fun k_ => zo s_.1 k_ ∧ zo s_.2.1 k_ ∧ zo s_.2.2.1 k_ ∧ zo s_.2.2.2.1 k_ ∧ zo s_.2.2.2.2.1 k_ ∧ zo s_.2.2.2.2.2.1 k_ ∧ zo s_.2.2.2.2.2.2.1 k_ ∧ zo (.slice i0 u.length b0) k_ ∧ zo (.slice l0 x.length c0) k_ ∧ zo (.slice m0 y.length d0) k_ ∧ zo (.slice E D0.length I) k_ ∧ zo (.slice J E0.length L) k_ ∧ zo (.slice M F0.length O) k_ ∧ zo (.slice B0 X.length x0) k_ ∧ zo (.slice C0 a0.length y0) k_) (.slice A0 U.length t0) L4) ∧ (Kd.R (Kd.int .i64) 3 w' w.heap.size (fun k_ => zo s_.1 k_ ∧ zo s_.2.1 k_ ∧ zo s_.2.2.1 k_ ∧ zo s_.2.2.2.1 k_ ∧ zo s_.2.2.2.2.1 k_ ∧ zo s_.2.2.2.2.2.1 k_ ∧ zo s_.2.2.2.2.2.2.1 k_ ∧ zo (.slice i0 u.length b0) k_ ∧ zo (.slice l0 x.length c0) k_ ∧ zo (.slice m0 y.length d0) k_ ∧ zo (.slice E D0.length I) k_ ∧ zo (.slice J E0.length L) k_ ∧ zo (.slice M F0.length O) k_ ∧ zo (.slice A0 U.length t0) k_ ∧ zo (.slice C0 a0.length y0) k_) (.slice B0 X.length x0) M4) ∧ (Kd.R (Kd.int .i64) 3 w' w.heap.size (fun k_ => zo s_.1 k_ ∧ zo s_.2.1 k_ ∧ zo s_.2.2.1 k_ ∧ zo s_.2.2.2.1 k_ ∧ zo s_.2.2.2.2.1 k_ ∧ zo s_.2.2.2.2.2.1 k_ ∧ zo s_.2.2.2.2.2.2.1 k_ ∧ zo (.slice i0 u.length b0) k_ ∧ zo (.slice l0 x.length c0) k_ ∧ zo (.slice m0 y.length d0) k_ ∧ zo (.slice E D0.length I) k_ ∧ zo (.slice J E0.length L) k_ ∧ zo (.slice M F0.length O) k_ ∧ zo (.slice A0 U.length t0) k_ ∧ zo (.slice B0 X.length x0) k_) (.slice C0 a0.length y0) N4) ∧ (w'.heap[l]? = some (.cells #[.int .i64 p1, .int .i64 q1, .int .i64 t1, .int .i64 x1, .int .i64 y1, .int .i64 A1, .int .i64 B1, .int .i64 C1, .int .i64 D1, .int .i64 E1, .int .i64 S0] 25 (0, 0))) ∧ (w'.heap[z]? = some (.cells #[.slice D2 g1.length E2, .slice F2 i1.length G2, .slice I2 l1.length J2, .int .i64 m1, .int .i64 n1, .int .i64 o1] 28 (0, 0))) ∧ (w'.heap[I0]? = some (.cells #[.slice i0 u.length b0, .slice l0 x.length c0, .slice m0 y.length d0, .int .i64 c3, .int .i64 d3, .int .i64 e3] 30 (0, 0))) ∧ (w'.heap[C2]? = some (.cells #[.slice E D0.length I, .slice J E0.length L, .slice M F0.length O, .int .i64 N3, .int .i64 O3, .int .i64 R3] 30 (0, 0))) ∧ (w'.heap[M0]? = some (.cells #[.slice A0 U.length t0, .slice B0 X.length x0, .slice C0 a0.length y0, .int .i64 o3, .int .i64 p3, .int .i64 q3] 30 (0, 0))) ∧ (w'.heap[s_.2.2.2.2.2.2.2]? = some (.cells #[.slice none 0 0, .slice none 0 0, .slice none 0 0, .int .i64 0, .int .i64 0, .int .i64 0] 30 (0, 0))) ∧ (w.heap.size ≤ s_.2.2.2.2.2.2.2) ∧ (w.heap.size ≤ s_.2.2.2.2.2.2.2) ∧ (l ≠ s_.2.2.2.2.2.2.2) ∧ (s_.2.2.2.2.2.2.2 ≠ l) ∧ (z ≠ s_.2.2.2.2.2.2.2) ∧ (s_.2.2.2.2.2.2.2 ≠ z) ∧ (I0 ≠ s_.2.2.2.2.2.2.2) ∧ (s_.2.2.2.2.2.2.2 ≠ I0) ∧ (C2 ≠ s_.2.2.2.2.2.2.2) ∧ (s_.2.2.2.2.2.2.2 ≠ C2) ∧ (M0 ≠ s_.2.2.2.2.2.2.2) ∧ (s_.2.2.2.2.2.2.2 ≠ M0) ∧ (Below w.heap.size w w')) ?_ ?_
  rotate_left
  · as_aux_lemma =>
    intro hJ1_3_5_6_10
    refine join_ (σ := Value × Value × Value × Value × Value × Value × Value) 3 (bl 13 1023) (fun s_ => [(100, .agg #[.int .i64 f7, .int .i64 g7, .int .i64 i7, .int .i64 j7, .int .i64 l7, .int .i64 m7, .int .i64 n7, .int .i64 o7, .int .i64 p7, .int .i64 q7, .int .i64 t7]), (102, .agg #[s_.1, s_.2.1, s_.2.2.1, .int .i64 T7, .int .i64 U7, .int .i64 V7]), (104, s_.2.2.2.1), (105, .tuple #[.agg #[s_.2.2.2.2.1, s_.2.2.2.2.2.1, s_.2.2.2.2.2.2, .int .i64 x7, .int .i64 y7, .int .i64 B7], .bool t8]), (98, .tuple #[.agg #[s_.2.2.2.2.1, s_.2.2.2.2.2.1, s_.2.2.2.2.2.2, .int .i64 x7, .int .i64 y7, .int .i64 B7], .bool t8]), (106, .agg #[s_.2.2.2.2.1, s_.2.2.2.2.2.1, s_.2.2.2.2.2.2, .int .i64 x7, .int .i64 y7, .int .i64 B7]), (107, .bool t8)]) (fun s_ w' => (w'.cell? ⟨l, 0, none⟩ = some (.int .i64 p1) ∧ w'.cell? ⟨l, 1, none⟩ = some (.int .i64 q1) ∧ w'.cell? ⟨l, 2, none⟩ = some (.int .i64 t1) ∧ w'.cell? ⟨l, 3, none⟩ = some (.int .i64 x1) ∧ w'.cell? ⟨l, 4, none⟩ = some (.int .i64 y1) ∧ w'.cell? ⟨l, 5, none⟩ = some (.int .i64 A1) ∧ w'.cell? ⟨l, 6, none⟩ = some (.int .i64 B1) ∧ w'.cell? ⟨l, 7, none⟩ = some (.int .i64 C1) ∧ w'.cell? ⟨l, 8, none⟩ = some (.int .i64 D1) ∧ w'.cell? ⟨l, 9, none⟩ = some (.int .i64 E1) ∧ w'.cell? ⟨l, 10, none⟩ = some (.int .i64 S0) ∧ w'.cell? ⟨z, 0, none⟩ = some (.slice D2 g1.length E2) ∧ w'.cell? ⟨z, 1, none⟩ = some (.slice F2 i1.length G2) ∧ w'.cell? ⟨z, 2, none⟩ = some (.slice I2 l1.length J2) ∧ w'.cell? ⟨z, 3, none⟩ = some (.int .i64 m1) ∧ w'.cell? ⟨z, 4, none⟩ = some (.int .i64 n1) ∧ w'.cell? ⟨z, 5, none⟩ = some (.int .i64 o1)) ∧ (Kd.R (Kd.int .i64) 3 w' w.heap.size (fun k_ => zo s_.2.1 k_ ∧ zo s_.2.2.1 k_ ∧ zo s_.2.2.2.1 k_ ∧ zo s_.2.2.2.2.1 k_ ∧ zo s_.2.2.2.2.2.1 k_ ∧ zo s_.2.2.2.2.2.2 k_ ∧ zo (.slice i0 u.length b0) k_ ∧ zo (.slice l0 x.length c0) k_ ∧ zo (.slice m0 y.length d0) k_ ∧ zo (.slice E D0.length I) k_ ∧ zo (.slice J E0.length L) k_ ∧ zo (.slice M F0.length O) k_ ∧ zo (.slice A0 U.length t0) k_ ∧ zo (.slice B0 X.length x0) k_ ∧ zo (.slice C0 a0.length y0) k_) s_.1 n6) ∧ (Kd.R (Kd.int .i64) 3 w' w.heap.size (fun k_ => zo s_.1 k_ ∧ zo s_.2.2.1 k_ ∧ zo s_.2.2.2.1 k_ ∧ zo s_.2.2.2.2.1 k_ ∧ zo s_.2.2.2.2.2.1 k_ ∧ zo s_.2.2.2.2.2.2 k_ ∧ zo (.slice i0 u.length b0) k_ ∧ zo (.slice l0 x.length c0) k_ ∧ zo (.slice m0 y.length d0) k_ ∧ zo (.slice E D0.length I) k_ ∧ zo (.slice J E0.length L) k_ ∧ zo (.slice M F0.length O) k_ ∧ zo (.slice A0 U.length t0) k_ ∧ zo (.slice B0 X.length x0) k_ ∧ zo (.slice C0 a0.length y0) k_) s_.2.1 o6) ∧ (Kd.R (Kd.int .i64) 3 w' w.heap.size (fun k_ => zo s_.1 k_ ∧ zo s_.2.1 k_ ∧ zo s_.2.2.2.1 k_ ∧ zo s_.2.2.2.2.1 k_ ∧ zo s_.2.2.2.2.2.1 k_ ∧ zo s_.2.2.2.2.2.2 k_ ∧ zo (.slice i0 u.length b0) k_ ∧ zo (.slice l0 x.length c0) k_ ∧ zo (.slice m0 y.length d0) k_ ∧ zo (.slice E D0.length I) k_ ∧ zo (.slice J E0.length L) k_ ∧ zo (.slice M F0.length O) k_ ∧ zo (.slice A0 U.length t0) k_ ∧ zo (.slice B0 X.length x0) k_ ∧ zo (.slice C0 a0.length y0) k_) s_.2.2.1 p6) ∧ (Kd.R (Kd.int .i64) 3 w' w.heap.size (fun k_ => zo s_.1 k_ ∧ zo s_.2.1 k_ ∧ zo s_.2.2.1 k_ ∧ zo s_.2.2.2.2.1 k_ ∧ zo s_.2.2.2.2.2.1 k_ ∧ zo s_.2.2.2.2.2.2 k_ ∧ zo (.slice i0 u.length b0) k_ ∧ zo (.slice l0 x.length c0) k_ ∧ zo (.slice m0 y.length d0) k_ ∧ zo (.slice E D0.length I) k_ ∧ zo (.slice J E0.length L) k_ ∧ zo (.slice M F0.length O) k_ ∧ zo (.slice A0 U.length t0) k_ ∧ zo (.slice B0 X.length x0) k_ ∧ zo (.slice C0 a0.length y0) k_) s_.2.2.2.1 m6) ∧ (Kd.R (Kd.int .i64) 3 w' w.heap.size (fun k_ => zo s_.1 k_ ∧ zo s_.2.1 k_ ∧ zo s_.2.2.1 k_ ∧ zo s_.2.2.2.1 k_ ∧ zo s_.2.2.2.2.2.1 k_ ∧ zo s_.2.2.2.2.2.2 k_ ∧ zo (.slice i0 u.length b0) k_ ∧ zo (.slice l0 x.length c0) k_ ∧ zo (.slice m0 y.length d0) k_ ∧ zo (.slice E D0.length I) k_ ∧ zo (.slice J E0.length L) k_ ∧ zo (.slice M F0.length O) k_ ∧ zo (.slice A0 U.length t0) k_ ∧ zo (.slice B0 X.length x0) k_ ∧ zo (.slice C0 a0.length y0) k_) s_.2.2.2.2.1 t4) ∧ (Kd.R (Kd.int .i64) 3 w' w.heap.size (fun k_ => zo s_.1 k_ ∧ zo s_.2.1 k_ ∧ zo s_.2.2.1 k_ ∧ zo s_.2.2.2.1 k_ ∧ zo s_.2.2.2.2.1 k_ ∧ zo s_.2.2.2.2.2.2 k_ ∧ zo (.slice i0 u.length b0) k_ ∧ zo (.slice l0 x.length c0) k_ ∧ zo (.slice m0 y.length d0) k_ ∧ zo (.slice E D0.length I) k_ ∧ zo (.slice J E0.length L) k_ ∧ zo (.slice M F0.length O) k_ ∧ zo (.slice A0 U.length t0) k_ ∧ zo (.slice B0 X.length x0) k_ ∧ zo (.slice C0 a0.length y0) k_) s_.2.2.2.2.2.1 x4) ∧ (Kd.R (Kd.int .i64) 3 w' w.heap.size (fun k_ => zo s_.1 k_ ∧ zo s_.2.1 k_ ∧ zo s_.2.2.1 k_ ∧ zo s_.2.2.2.1 k_ ∧ zo s_.2.2.2.2.1 k_ ∧ zo s_.2.2.2.2.2.1 k_ ∧ zo (.slice i0 u.length b0) k_ ∧ zo (.slice l0 x.length c0) k_ ∧ zo (.slice m0 y.length d0) k_ ∧ zo (.slice E D0.length I) k_ ∧ zo (.slice J E0.length L) k_ ∧ zo (.slice M F0.length O) k_ ∧ zo (.slice A0 U.length t0) k_ ∧ zo (.slice B0 X.length x0) k_ ∧ zo (.slice C0 a0.length y0) k_) s_.2.2.2.2.2.2 y4) ∧ (Kd.R (Kd.int .i64) 3 w' w.heap.size (fun k_ => zo s_.1 k_ ∧ zo s_.2.1 k_ ∧ zo s_.2.2.1 k_ ∧ zo s_.2.2.2.1 k_ ∧ zo s_.2.2.2.2.1 k_ ∧ zo s_.2.2.2.2.2.1 k_ ∧ zo s_.2.2.2.2.2.2 k_ ∧ zo (.slice l0 x.length c0) k_ ∧ zo (.slice m0 y.length d0) k_ ∧ zo (.slice E D0.length I) k_ ∧ zo (.slice J E0.length L) k_ ∧ zo (.slice M F0.length O) k_ ∧ zo (.slice A0 U.length t0) k_ ∧ zo (.slice B0 X.length x0) k_ ∧ zo (.slice C0 a0.length y0) k_) (.slice i0 u.length b0) u) ∧ (Kd.R (Kd.int .i64) 3 w' w.heap.size (fun k_ => zo s_.1 k_ ∧ zo s_.2.1 k_ ∧ zo s_.2.2.1 k_ ∧ zo s_.2.2.2.1 k_ ∧ zo s_.2.2.2.2.1 k_ ∧ zo s_.2.2.2.2.2.1 k_ ∧ zo s_.2.2.2.2.2.2 k_ ∧ zo (.slice i0 u.length b0) k_ ∧ zo (.slice m0 y.length d0) k_ ∧ zo (.slice E D0.length I) k_ ∧ zo (.slice J E0.length L) k_ ∧ zo (.slice M F0.length O) k_ ∧ zo (.slice A0 U.length t0) k_ ∧ zo (.slice B0 X.length x0) k_ ∧ zo (.slice C0 a0.length y0) k_) (.slice l0 x.length c0) x) ∧ (Kd.R (Kd.int .i64) 3 w' w.heap.size (fun k_ => zo s_.1 k_ ∧ zo s_.2.1 k_ ∧ zo s_.2.2.1 k_ ∧ zo s_.2.2.2.1 k_ ∧ zo s_.2.2.2.2.1 k_ ∧ zo s_.2.2.2.2.2.1 k_ ∧ zo s_.2.2.2.2.2.2 k_ ∧ zo (.slice i0 u.length b0) k_ ∧ zo (.slice l0 x.length c0) k_ ∧ zo (.slice E D0.length I) k_ ∧ zo (.slice J E0.length L) k_ ∧ zo (.slice M F0.length O) k_ ∧ zo (.slice A0 U.length t0) k_ ∧ zo (.slice B0 X.length x0) k_ ∧ zo (.slice C0 a0.length y0) k_) (.slice m0 y.length d0) y) ∧ (Kd.R (Kd.int .i64) 3 w' w.heap.size (fun k_ => zo s_.1 k_ ∧ zo s_.2.1 k_ ∧ zo s_.2.2.1 k_ ∧ zo s_.2.2.2.1 k_ ∧ zo s_.2.2.2.2.1 k_ ∧ zo s_.2.2.2.2.2.1 k_ ∧ zo s_.2.2.2.2.2.2 k_ ∧ zo (.slice i0 u.length b0) k_ ∧ zo (.slice l0 x.length c0) k_ ∧ zo (.slice m0 y.length d0) k_ ∧ zo (.slice J E0.length L) k_ ∧ zo (.slice M F0.length O) k_ ∧ zo (.slice A0 U.length t0) k_ ∧ zo (.slice B0 X.length x0) k_ ∧ zo (.slice C0 a0.length y0) k_) (.slice E D0.length I) D0) ∧ (Kd.R (Kd.int .i64) 3 w' w.heap.size (fun k_ => zo s_.1 k_ ∧ zo s_.2.1 k_ ∧ zo s_.2.2.1 k_ ∧ zo s_.2.2.2.1 k_ ∧ zo s_.2.2.2.2.1 k_ ∧ zo s_.2.2.2.2.2.1 k_ ∧ zo s_.2.2.2.2.2.2 k_ ∧ zo (.slice i0 u.length b0) k_ ∧ zo (.slice l0 x.length c0) k_ ∧ zo (.slice m0 y.length d0) k_ ∧ zo (.slice E D0.length I) k_ ∧ zo (.slice M F0.length O) k_ ∧ zo (.slice A0 U.length t0) k_ ∧ zo (.slice B0 X.length x0) k_ ∧ zo (.slice C0 a0.length y0) k_) (.slice J E0.length L) E0) ∧ (Kd.R (Kd.int .i64) 3 w' w.heap.size (fun k_ => zo s_.1 k_ ∧ zo s_.2.1 k_ ∧ zo s_.2.2.1 k_ ∧ zo s_.2.2.2.1 k_ ∧ zo s_.2.2.2.2.1 k_ ∧ zo s_.2.2.2.2.2.1 k_ ∧ zo s_.2.2.2.2.2.2 k_ ∧ zo (.slice i0 u.length b0) k_ ∧ zo (.slice l0 x.length c0) k_ ∧ zo (.slice m0 y.length d0) k_ ∧ zo (.slice E D0.length I) k_ ∧ zo (.slice J E0.length L) k_ ∧ zo (.slice A0 U.length t0) k_ ∧ zo (.slice B0 X.length x0) k_ ∧ zo (.slice C0 a0.length y0) k_) (.slice M F0.length O) F0) ∧ (Kd.R (Kd.int .i64) 3 w' w.heap.size (fun k_ => zo s_.1 k_ ∧ zo s_.2.1 k_ ∧ zo s_.2.2.1 k_ ∧ zo s_.2.2.2.1 k_ ∧ zo s_.2.2.2.2.1 k_ ∧ zo s_.2.2.2.2.2.1 k_ ∧ zo s_.2.2.2.2.2.2 k_ ∧ zo (.slice i0 u.length b0) k_ ∧ zo (.slice l0 x.length c0) k_ ∧ zo (.slice m0 y.length d0) k_ ∧ zo (.slice E D0.length I) k_ ∧ zo (.slice J E0.length L) k_ ∧ zo (.slice M F0.length O) k_ ∧ zo (.slice B0 X.length x0) k_ ∧ zo (.slice C0 a0.length y0) k_) (.slice A0 U.length t0) L4) ∧ (Kd.R (Kd.int .i64) 3 w' w.heap.size (fun k_ => zo s_.1 k_ ∧ zo s_.2.1 k_ ∧ zo s_.2.2.1 k_ ∧ zo s_.2.2.2.1 k_ ∧ zo s_.2.2.2.2.1 k_ ∧ zo s_.2.2.2.2.2.1 k_ ∧ zo s_.2.2.2.2.2.2 k_ ∧ zo (.slice i0 u.length b0) k_ ∧ zo (.slice l0 x.length c0) k_ ∧ zo (.slice m0 y.length d0) k_ ∧ zo (.slice E D0.length I) k_ ∧ zo (.slice J E0.length L) k_ ∧ zo (.slice M F0.length O) k_ ∧ zo (.slice A0 U.length t0) k_ ∧ zo (.slice C0 a0.length y0) k_) (.slice B0 X.length x0) M4) ∧ (Kd.R (Kd.int .i64) 3 w' w.heap.size (fun k_ => zo s_.1 k_ ∧ zo s_.2.1 k_ ∧ zo s_.2.2.1 k_ ∧ zo s_.2.2.2.1 k_ ∧ zo s_.2.2.2.2.1 k_ ∧ zo s_.2.2.2.2.2.1 k_ ∧ zo s_.2.2.2.2.2.2 k_ ∧ zo (.slice i0 u.length b0) k_ ∧ zo (.slice l0 x.length c0) k_ ∧ zo (.slice m0 y.length d0) k_ ∧ zo (.slice E D0.length I) k_ ∧ zo (.slice J E0.length L) k_ ∧ zo (.slice M F0.length O) k_ ∧ zo (.slice A0 U.length t0) k_ ∧ zo (.slice B0 X.length x0) k_) (.slice C0 a0.length y0) N4) ∧ (w'.heap[l]? = some (.cells #[.int .i64 p1, .int .i64 q1, .int .i64 t1, .int .i64 x1, .int .i64 y1, .int .i64 A1, .int .i64 B1, .int .i64 C1, .int .i64 D1, .int .i64 E1, .int .i64 S0] 25 (0, 0))) ∧ (w'.heap[z]? = some (.cells #[.slice D2 g1.length E2, .slice F2 i1.length G2, .slice I2 l1.length J2, .int .i64 m1, .int .i64 n1, .int .i64 o1] 28 (0, 0))) ∧ (w'.heap[I0]? = some (.cells #[.slice i0 u.length b0, .slice l0 x.length c0, .slice m0 y.length d0, .int .i64 c3, .int .i64 d3, .int .i64 e3] 30 (0, 0))) ∧ (w'.heap[C2]? = some (.cells #[.slice E D0.length I, .slice J E0.length L, .slice M F0.length O, .int .i64 N3, .int .i64 O3, .int .i64 R3] 30 (0, 0))) ∧ (w'.heap[M0]? = some (.cells #[.slice A0 U.length t0, .slice B0 X.length x0, .slice C0 a0.length y0, .int .i64 o3, .int .i64 p3, .int .i64 q3] 30 (0, 0))) ∧ (Below w.heap.size w w')) ?_ ?_
    rotate_left
    · as_aux_lemma =>
      intro hJ1_3_5_6
      refine join_ (σ := Value × Value × Value × Value × Nat) 6 (bl 13 1087) (fun s_ => [(100, .agg #[.int .i64 f7, .int .i64 g7, .int .i64 i7, .int .i64 j7, .int .i64 l7, .int .i64 m7, .int .i64 n7, .int .i64 o7, .int .i64 p7, .int .i64 q7, .int .i64 t7]), (102, .agg #[s_.1, s_.2.1, s_.2.2.1, .int .i64 T7, .int .i64 U7, .int .i64 V7]), (104, s_.2.2.2.1), (17, .pointer (some ⟨s_.2.2.2.2, 0, none⟩))]) (fun s_ w' => (w'.cell? ⟨l, 0, none⟩ = some (.int .i64 p1) ∧ w'.cell? ⟨l, 1, none⟩ = some (.int .i64 q1) ∧ w'.cell? ⟨l, 2, none⟩ = some (.int .i64 t1) ∧ w'.cell? ⟨l, 3, none⟩ = some (.int .i64 x1) ∧ w'.cell? ⟨l, 4, none⟩ = some (.int .i64 y1) ∧ w'.cell? ⟨l, 5, none⟩ = some (.int .i64 A1) ∧ w'.cell? ⟨l, 6, none⟩ = some (.int .i64 B1) ∧ w'.cell? ⟨l, 7, none⟩ = some (.int .i64 C1) ∧ w'.cell? ⟨l, 8, none⟩ = some (.int .i64 D1) ∧ w'.cell? ⟨l, 9, none⟩ = some (.int .i64 E1) ∧ w'.cell? ⟨l, 10, none⟩ = some (.int .i64 S0) ∧ w'.cell? ⟨z, 0, none⟩ = some (.slice D2 g1.length E2) ∧ w'.cell? ⟨z, 1, none⟩ = some (.slice F2 i1.length G2) ∧ w'.cell? ⟨z, 2, none⟩ = some (.slice I2 l1.length J2) ∧ w'.cell? ⟨z, 3, none⟩ = some (.int .i64 m1) ∧ w'.cell? ⟨z, 4, none⟩ = some (.int .i64 n1) ∧ w'.cell? ⟨z, 5, none⟩ = some (.int .i64 o1)) ∧ (Kd.R (Kd.int .i64) 3 w' w.heap.size (fun k_ => zo s_.2.1 k_ ∧ zo s_.2.2.1 k_ ∧ zo s_.2.2.2.1 k_ ∧ zo (.slice i0 u.length b0) k_ ∧ zo (.slice l0 x.length c0) k_ ∧ zo (.slice m0 y.length d0) k_ ∧ zo (.slice E D0.length I) k_ ∧ zo (.slice J E0.length L) k_ ∧ zo (.slice M F0.length O) k_ ∧ zo (.slice A0 U.length t0) k_ ∧ zo (.slice B0 X.length x0) k_ ∧ zo (.slice C0 a0.length y0) k_) s_.1 n6) ∧ (Kd.R (Kd.int .i64) 3 w' w.heap.size (fun k_ => zo s_.1 k_ ∧ zo s_.2.2.1 k_ ∧ zo s_.2.2.2.1 k_ ∧ zo (.slice i0 u.length b0) k_ ∧ zo (.slice l0 x.length c0) k_ ∧ zo (.slice m0 y.length d0) k_ ∧ zo (.slice E D0.length I) k_ ∧ zo (.slice J E0.length L) k_ ∧ zo (.slice M F0.length O) k_ ∧ zo (.slice A0 U.length t0) k_ ∧ zo (.slice B0 X.length x0) k_ ∧ zo (.slice C0 a0.length y0) k_) s_.2.1 o6) ∧ (Kd.R (Kd.int .i64) 3 w' w.heap.size (fun k_ => zo s_.1 k_ ∧ zo s_.2.1 k_ ∧ zo s_.2.2.2.1 k_ ∧ zo (.slice i0 u.length b0) k_ ∧ zo (.slice l0 x.length c0) k_ ∧ zo (.slice m0 y.length d0) k_ ∧ zo (.slice E D0.length I) k_ ∧ zo (.slice J E0.length L) k_ ∧ zo (.slice M F0.length O) k_ ∧ zo (.slice A0 U.length t0) k_ ∧ zo (.slice B0 X.length x0) k_ ∧ zo (.slice C0 a0.length y0) k_) s_.2.2.1 p6) ∧ (Kd.R (Kd.int .i64) 3 w' w.heap.size (fun k_ => zo s_.1 k_ ∧ zo s_.2.1 k_ ∧ zo s_.2.2.1 k_ ∧ zo (.slice i0 u.length b0) k_ ∧ zo (.slice l0 x.length c0) k_ ∧ zo (.slice m0 y.length d0) k_ ∧ zo (.slice E D0.length I) k_ ∧ zo (.slice J E0.length L) k_ ∧ zo (.slice M F0.length O) k_ ∧ zo (.slice A0 U.length t0) k_ ∧ zo (.slice B0 X.length x0) k_ ∧ zo (.slice C0 a0.length y0) k_) s_.2.2.2.1 m6) ∧ (Kd.R (Kd.int .i64) 3 w' w.heap.size (fun k_ => zo s_.1 k_ ∧ zo s_.2.1 k_ ∧ zo s_.2.2.1 k_ ∧ zo s_.2.2.2.1 k_ ∧ zo (.slice l0 x.length c0) k_ ∧ zo (.slice m0 y.length d0) k_ ∧ zo (.slice E D0.length I) k_ ∧ zo (.slice J E0.length L) k_ ∧ zo (.slice M F0.length O) k_ ∧ zo (.slice A0 U.length t0) k_ ∧ zo (.slice B0 X.length x0) k_ ∧ zo (.slice C0 a0.length y0) k_) (.slice i0 u.length b0) u) ∧ (Kd.R (Kd.int .i64) 3 w' w.heap.size (fun k_ => zo s_.1 k_ ∧ zo s_.2.1 k_ ∧ zo s_.2.2.1 k_ ∧ zo s_.2.2.2.1 k_ ∧ zo (.slice i0 u.length b0) k_ ∧ zo (.slice m0 y.length d0) k_ ∧ zo (.slice E D0.length I) k_ ∧ zo (.slice J E0.length L) k_ ∧ zo (.slice M F0.length O) k_ ∧ zo (.slice A0 U.length t0) k_ ∧ zo (.slice B0 X.length x0) k_ ∧ zo (.slice C0 a0.length y0) k_) (.slice l0 x.length c0) x) ∧ (Kd.R (Kd.int .i64) 3 w' w.heap.size (fun k_ => zo s_.1 k_ ∧ zo s_.2.1 k_ ∧ zo s_.2.2.1 k_ ∧ zo s_.2.2.2.1 k_ ∧ zo (.slice i0 u.length b0) k_ ∧ zo (.slice l0 x.length c0) k_ ∧ zo (.slice E D0.length I) k_ ∧ zo (.slice J E0.length L) k_ ∧ zo (.slice M F0.length O) k_ ∧ zo (.slice A0 U.length t0) k_ ∧ zo (.slice B0 X.length x0) k_ ∧ zo (.slice C0 a0.length y0) k_) (.slice m0 y.length d0) y) ∧ (Kd.R (Kd.int .i64) 3 w' w.heap.size (fun k_ => zo s_.1 k_ ∧ zo s_.2.1 k_ ∧ zo s_.2.2.1 k_ ∧ zo s_.2.2.2.1 k_ ∧ zo (.slice i0 u.length b0) k_ ∧ zo (.slice l0 x.length c0) k_ ∧ zo (.slice m0 y.length d0) k_ ∧ zo (.slice J E0.length L) k_ ∧ zo (.slice M F0.length O) k_ ∧ zo (.slice A0 U.length t0) k_ ∧ zo (.slice B0 X.length x0) k_ ∧ zo (.slice C0 a0.length y0) k_) (.slice E D0.length I) D0) ∧ (Kd.R (Kd.int .i64) 3 w' w.heap.size (fun k_ => zo s_.1 k_ ∧ zo s_.2.1 k_ ∧ zo s_.2.2.1 k_ ∧ zo s_.2.2.2.1 k_ ∧ zo (.slice i0 u.length b0) k_ ∧ zo (.slice l0 x.length c0) k_ ∧ zo (.slice m0 y.length d0) k_ ∧ zo (.slice E D0.length I) k_ ∧ zo (.slice M F0.length O) k_ ∧ zo (.slice A0 U.length t0) k_ ∧ zo (.slice B0 X.length x0) k_ ∧ zo (.slice C0 a0.length y0) k_) (.slice J E0.length L) E0) ∧ (Kd.R (Kd.int .i64) 3 w' w.heap.size (fun k_ => zo s_.1 k_ ∧ zo s_.2.1 k_ ∧ zo s_.2.2.1 k_ ∧ zo s_.2.2.2.1 k_ ∧ zo (.slice i0 u.length b0) k_ ∧ zo (.slice l0 x.length c0) k_ ∧ zo (.slice m0 y.length d0) k_ ∧ zo (.slice E D0.length I) k_ ∧ zo (.slice J E0.length L) k_ ∧ zo (.slice A0 U.length t0) k_ ∧ zo (.slice B0 X.length x0) k_ ∧ zo (.slice C0 a0.length y0) k_) (.slice M F0.length O) F0) ∧ (Kd.R (Kd.int .i64) 3 w' w.heap.size (fun k_ => zo s_.1 k_ ∧ zo s_.2.1 k_ ∧ zo s_.2.2.1 k_ ∧ zo s_.2.2.2.1 k_ ∧ zo (.slice i0 u.length b0) k_ ∧ zo (.slice l0 x.length c0) k_ ∧ zo (.slice m0 y.length d0) k_ ∧ zo (.slice E D0.length I) k_ ∧ zo (.slice J E0.length L) k_ ∧ zo (.slice M F0.length O) k_ ∧ zo (.slice B0 X.length x0) k_ ∧ zo (.slice C0 a0.length y0) k_) (.slice A0 U.length t0) L4) ∧ (Kd.R (Kd.int .i64) 3 w' w.heap.size (fun k_ => zo s_.1 k_ ∧ zo s_.2.1 k_ ∧ zo s_.2.2.1 k_ ∧ zo s_.2.2.2.1 k_ ∧ zo (.slice i0 u.length b0) k_ ∧ zo (.slice l0 x.length c0) k_ ∧ zo (.slice m0 y.length d0) k_ ∧ zo (.slice E D0.length I) k_ ∧ zo (.slice J E0.length L) k_ ∧ zo (.slice M F0.length O) k_ ∧ zo (.slice A0 U.length t0) k_ ∧ zo (.slice C0 a0.length y0) k_) (.slice B0 X.length x0) M4) ∧ (Kd.R (Kd.int .i64) 3 w' w.heap.size (fun k_ => zo s_.1 k_ ∧ zo s_.2.1 k_ ∧ zo s_.2.2.1 k_ ∧ zo s_.2.2.2.1 k_ ∧ zo (.slice i0 u.length b0) k_ ∧ zo (.slice l0 x.length c0) k_ ∧ zo (.slice m0 y.length d0) k_ ∧ zo (.slice E D0.length I) k_ ∧ zo (.slice J E0.length L) k_ ∧ zo (.slice M F0.length O) k_ ∧ zo (.slice A0 U.length t0) k_ ∧ zo (.slice B0 X.length x0) k_) (.slice C0 a0.length y0) N4) ∧ (w'.heap[l]? = some (.cells #[.int .i64 p1, .int .i64 q1, .int .i64 t1, .int .i64 x1, .int .i64 y1, .int .i64 A1, .int .i64 B1, .int .i64 C1, .int .i64 D1, .int .i64 E1, .int .i64 S0] 25 (0, 0))) ∧ (w'.heap[z]? = some (.cells #[.slice D2 g1.length E2, .slice F2 i1.length G2, .slice I2 l1.length J2, .int .i64 m1, .int .i64 n1, .int .i64 o1] 28 (0, 0))) ∧ (w'.heap[I0]? = some (.cells #[.slice i0 u.length b0, .slice l0 x.length c0, .slice m0 y.length d0, .int .i64 c3, .int .i64 d3, .int .i64 e3] 30 (0, 0))) ∧ (w'.heap[C2]? = some (.cells #[.slice E D0.length I, .slice J E0.length L, .slice M F0.length O, .int .i64 N3, .int .i64 O3, .int .i64 R3] 30 (0, 0))) ∧ (w'.heap[M0]? = some (.cells #[.slice A0 U.length t0, .slice B0 X.length x0, .slice C0 a0.length y0, .int .i64 o3, .int .i64 p3, .int .i64 q3] 30 (0, 0))) ∧ (w'.heap[s_.2.2.2.2]? = some (.cells #[.slice none 0 0, .slice none 0 0, .slice none 0 0, .int .i64 0, .int .i64 0, .int .i64 0] 30 (0, 0))) ∧ (w.heap.size ≤ s_.2.2.2.2) ∧ (w.heap.size ≤ s_.2.2.2.2) ∧ (l ≠ s_.2.2.2.2) ∧ (s_.2.2.2.2 ≠ l) ∧ (z ≠ s_.2.2.2.2) ∧ (s_.2.2.2.2 ≠ z) ∧ (I0 ≠ s_.2.2.2.2) ∧ (s_.2.2.2.2 ≠ I0) ∧ (C2 ≠ s_.2.2.2.2) ∧ (s_.2.2.2.2 ≠ C2) ∧ (M0 ≠ s_.2.2.2.2) ∧ (s_.2.2.2.2 ≠ M0) ∧ (Below w.heap.size w w')) ?_ ?_
      rotate_left
      · as_aux_lemma =>
        intro hJ1_3_5_10
        refine join_ (σ := Value × Value × Value × Value) 7 (bl 13 63) (fun s_ => [(100, .agg #[.int .i64 f7, .int .i64 g7, .int .i64 i7, .int .i64 j7, .int .i64 l7, .int .i64 m7, .int .i64 n7, .int .i64 o7, .int .i64 p7, .int .i64 q7, .int .i64 t7]), (102, .agg #[s_.1, s_.2.1, s_.2.2.1, .int .i64 T7, .int .i64 U7, .int .i64 V7]), (104, s_.2.2.2)]) (fun s_ w' => (w'.cell? ⟨l, 0, none⟩ = some (.int .i64 p1) ∧ w'.cell? ⟨l, 1, none⟩ = some (.int .i64 q1) ∧ w'.cell? ⟨l, 2, none⟩ = some (.int .i64 t1) ∧ w'.cell? ⟨l, 3, none⟩ = some (.int .i64 x1) ∧ w'.cell? ⟨l, 4, none⟩ = some (.int .i64 y1) ∧ w'.cell? ⟨l, 5, none⟩ = some (.int .i64 A1) ∧ w'.cell? ⟨l, 6, none⟩ = some (.int .i64 B1) ∧ w'.cell? ⟨l, 7, none⟩ = some (.int .i64 C1) ∧ w'.cell? ⟨l, 8, none⟩ = some (.int .i64 D1) ∧ w'.cell? ⟨l, 9, none⟩ = some (.int .i64 E1) ∧ w'.cell? ⟨l, 10, none⟩ = some (.int .i64 S0) ∧ w'.cell? ⟨z, 0, none⟩ = some (.slice D2 g1.length E2) ∧ w'.cell? ⟨z, 1, none⟩ = some (.slice F2 i1.length G2) ∧ w'.cell? ⟨z, 2, none⟩ = some (.slice I2 l1.length J2) ∧ w'.cell? ⟨z, 3, none⟩ = some (.int .i64 m1) ∧ w'.cell? ⟨z, 4, none⟩ = some (.int .i64 n1) ∧ w'.cell? ⟨z, 5, none⟩ = some (.int .i64 o1)) ∧ (Kd.R (Kd.int .i64) 3 w' w.heap.size (fun k_ => zo s_.2.1 k_ ∧ zo s_.2.2.1 k_ ∧ zo s_.2.2.2 k_ ∧ zo (.slice i0 u.length b0) k_ ∧ zo (.slice l0 x.length c0) k_ ∧ zo (.slice m0 y.length d0) k_ ∧ zo (.slice E D0.length I) k_ ∧ zo (.slice J E0.length L) k_ ∧ zo (.slice M F0.length O) k_ ∧ zo (.slice A0 U.length t0) k_ ∧ zo (.slice B0 X.length x0) k_ ∧ zo (.slice C0 a0.length y0) k_) s_.1 n6) ∧ (Kd.R (Kd.int .i64) 3 w' w.heap.size (fun k_ => zo s_.1 k_ ∧ zo s_.2.2.1 k_ ∧ zo s_.2.2.2 k_ ∧ zo (.slice i0 u.length b0) k_ ∧ zo (.slice l0 x.length c0) k_ ∧ zo (.slice m0 y.length d0) k_ ∧ zo (.slice E D0.length I) k_ ∧ zo (.slice J E0.length L) k_ ∧ zo (.slice M F0.length O) k_ ∧ zo (.slice A0 U.length t0) k_ ∧ zo (.slice B0 X.length x0) k_ ∧ zo (.slice C0 a0.length y0) k_) s_.2.1 o6) ∧ (Kd.R (Kd.int .i64) 3 w' w.heap.size (fun k_ => zo s_.1 k_ ∧ zo s_.2.1 k_ ∧ zo s_.2.2.2 k_ ∧ zo (.slice i0 u.length b0) k_ ∧ zo (.slice l0 x.length c0) k_ ∧ zo (.slice m0 y.length d0) k_ ∧ zo (.slice E D0.length I) k_ ∧ zo (.slice J E0.length L) k_ ∧ zo (.slice M F0.length O) k_ ∧ zo (.slice A0 U.length t0) k_ ∧ zo (.slice B0 X.length x0) k_ ∧ zo (.slice C0 a0.length y0) k_) s_.2.2.1 p6) ∧ (Kd.R (Kd.int .i64) 3 w' w.heap.size (fun k_ => zo s_.1 k_ ∧ zo s_.2.1 k_ ∧ zo s_.2.2.1 k_ ∧ zo (.slice i0 u.length b0) k_ ∧ zo (.slice l0 x.length c0) k_ ∧ zo (.slice m0 y.length d0) k_ ∧ zo (.slice E D0.length I) k_ ∧ zo (.slice J E0.length L) k_ ∧ zo (.slice M F0.length O) k_ ∧ zo (.slice A0 U.length t0) k_ ∧ zo (.slice B0 X.length x0) k_ ∧ zo (.slice C0 a0.length y0) k_) s_.2.2.2 m6) ∧ (Kd.R (Kd.int .i64) 3 w' w.heap.size (fun k_ => zo s_.1 k_ ∧ zo s_.2.1 k_ ∧ zo s_.2.2.1 k_ ∧ zo s_.2.2.2 k_ ∧ zo (.slice l0 x.length c0) k_ ∧ zo (.slice m0 y.length d0) k_ ∧ zo (.slice E D0.length I) k_ ∧ zo (.slice J E0.length L) k_ ∧ zo (.slice M F0.length O) k_ ∧ zo (.slice A0 U.length t0) k_ ∧ zo (.slice B0 X.length x0) k_ ∧ zo (.slice C0 a0.length y0) k_) (.slice i0 u.length b0) u) ∧ (Kd.R (Kd.int .i64) 3 w' w.heap.size (fun k_ => zo s_.1 k_ ∧ zo s_.2.1 k_ ∧ zo s_.2.2.1 k_ ∧ zo s_.2.2.2 k_ ∧ zo (.slice i0 u.length b0) k_ ∧ zo (.slice m0 y.length d0) k_ ∧ zo (.slice E D0.length I) k_ ∧ zo (.slice J E0.length L) k_ ∧ zo (.slice M F0.length O) k_ ∧ zo (.slice A0 U.length t0) k_ ∧ zo (.slice B0 X.length x0) k_ ∧ zo (.slice C0 a0.length y0) k_) (.slice l0 x.length c0) x) ∧ (Kd.R (Kd.int .i64) 3 w' w.heap.size (fun k_ => zo s_.1 k_ ∧ zo s_.2.1 k_ ∧ zo s_.2.2.1 k_ ∧ zo s_.2.2.2 k_ ∧ zo (.slice i0 u.length b0) k_ ∧ zo (.slice l0 x.length c0) k_ ∧ zo (.slice E D0.length I) k_ ∧ zo (.slice J E0.length L) k_ ∧ zo (.slice M F0.length O) k_ ∧ zo (.slice A0 U.length t0) k_ ∧ zo (.slice B0 X.length x0) k_ ∧ zo (.slice C0 a0.length y0) k_) (.slice m0 y.length d0) y) ∧ (Kd.R (Kd.int .i64) 3 w' w.heap.size (fun k_ => zo s_.1 k_ ∧ zo s_.2.1 k_ ∧ zo s_.2.2.1 k_ ∧ zo s_.2.2.2 k_ ∧ zo (.slice i0 u.length b0) k_ ∧ zo (.slice l0 x.length c0) k_ ∧ zo (.slice m0 y.length d0) k_ ∧ zo (.slice J E0.length L) k_ ∧ zo (.slice M F0.length O) k_ ∧ zo (.slice A0 U.length t0) k_ ∧ zo (.slice B0 X.length x0) k_ ∧ zo (.slice C0 a0.length y0) k_) (.slice E D0.length I) D0) ∧ (Kd.R (Kd.int .i64) 3 w' w.heap.size (fun k_ => zo s_.1 k_ ∧ zo s_.2.1 k_ ∧ zo s_.2.2.1 k_ ∧ zo s_.2.2.2 k_ ∧ zo (.slice i0 u.length b0) k_ ∧ zo (.slice l0 x.length c0) k_ ∧ zo (.slice m0 y.length d0) k_ ∧ zo (.slice E D0.length I) k_ ∧ zo (.slice M F0.length O) k_ ∧ zo (.slice A0 U.length t0) k_ ∧ zo (.slice B0 X.length x0) k_ ∧ zo (.slice C0 a0.length y0) k_) (.slice J E0.length L) E0) ∧ (Kd.R (Kd.int .i64) 3 w' w.heap.size (fun k_ => zo s_.1 k_ ∧ zo s_.2.1 k_ ∧ zo s_.2.2.1 k_ ∧ zo s_.2.2.2 k_ ∧ zo (.slice i0 u.length b0) k_ ∧ zo (.slice l0 x.length c0) k_ ∧ zo (.slice m0 y.length d0) k_ ∧ zo (.slice E D0.length I) k_ ∧ zo (.slice J E0.length L) k_ ∧ zo (.slice A0 U.length t0) k_ ∧ zo (.slice B0 X.length x0) k_ ∧ zo (.slice C0 a0.length y0) k_) (.slice M F0.length O) F0) ∧ (Kd.R (Kd.int .i64) 3 w' w.heap.size (fun k_ => zo s_.1 k_ ∧ zo s_.2.1 k_ ∧ zo s_.2.2.1 k_ ∧ zo s_.2.2.2 k_ ∧ zo (.slice i0 u.length b0) k_ ∧ zo (.slice l0 x.length c0) k_ ∧ zo (.slice m0 y.length d0) k_ ∧ zo (.slice E D0.length I) k_ ∧ zo (.slice J E0.length L) k_ ∧ zo (.slice M F0.length O) k_ ∧ zo (.slice B0 X.length x0) k_ ∧ zo (.slice C0 a0.length y0) k_) (.slice A0 U.length t0) L4) ∧ (Kd.R (Kd.int .i64) 3 w' w.heap.size (fun k_ => zo s_.1 k_ ∧ zo s_.2.1 k_ ∧ zo s_.2.2.1 k_ ∧ zo s_.2.2.2 k_ ∧ zo (.slice i0 u.length b0) k_ ∧ zo (.slice l0 x.length c0) k_ ∧ zo (.slice m0 y.length d0) k_ ∧ zo (.slice E D0.length I) k_ ∧ zo (.slice J E0.length L) k_ ∧ zo (.slice M F0.length O) k_ ∧ zo (.slice A0 U.length t0) k_ ∧ zo (.slice C0 a0.length y0) k_) (.slice B0 X.length x0) M4) ∧ (Kd.R (Kd.int .i64) 3 w' w.heap.size (fun k_ => zo s_.1 k_ ∧ zo s_.2.1 k_ ∧ zo s_.2.2.1 k_ ∧ zo s_.2.2.2 k_ ∧ zo (.slice i0 u.length b0) k_ ∧ zo (.slice l0 x.length c0) k_ ∧ zo (.slice m0 y.length d0) k_ ∧ zo (.slice E D0.length I) k_ ∧ zo (.slice J E0.length L) k_ ∧ zo (.slice M F0.length O) k_ ∧ zo (.slice A0 U.length t0) k_ ∧ zo (.slice B0 X.length x0) k_) (.slice C0 a0.length y0) N4) ∧ (w'.heap[l]? = some (.cells #[.int .i64 p1, .int .i64 q1, .int .i64 t1, .int .i64 x1, .int .i64 y1, .int .i64 A1, .int .i64 B1, .int .i64 C1, .int .i64 D1, .int .i64 E1, .int .i64 S0] 25 (0, 0))) ∧ (w'.heap[z]? = some (.cells #[.slice D2 g1.length E2, .slice F2 i1.length G2, .slice I2 l1.length J2, .int .i64 m1, .int .i64 n1, .int .i64 o1] 28 (0, 0))) ∧ (w'.heap[I0]? = some (.cells #[.slice i0 u.length b0, .slice l0 x.length c0, .slice m0 y.length d0, .int .i64 c3, .int .i64 d3, .int .i64 e3] 30 (0, 0))) ∧ (w'.heap[C2]? = some (.cells #[.slice E D0.length I, .slice J E0.length L, .slice M F0.length O, .int .i64 N3, .int .i64 O3, .int .i64 R3] 30 (0, 0))) ∧ (w'.heap[M0]? = some (.cells #[.slice A0 U.length t0, .slice B0 X.length x0, .slice C0 a0.length y0, .int .i64 o3, .int .i64 p3, .int .i64 q3] 30 (0, 0))) ∧ (Below w.heap.size w w')) ?_ ?_
        rotate_left
        · as_aux_lemma =>
          intro hJ1_3_5
          refine join_ (σ := Value × Value × Value × Nat) 7 (bl 13 1055) (fun s_ => [(100, .agg #[.int .i64 f7, .int .i64 g7, .int .i64 i7, .int .i64 j7, .int .i64 l7, .int .i64 m7, .int .i64 n7, .int .i64 o7, .int .i64 p7, .int .i64 q7, .int .i64 t7]), (102, .agg #[s_.1, s_.2.1, s_.2.2.1, .int .i64 T7, .int .i64 U7, .int .i64 V7]), (17, .pointer (some ⟨s_.2.2.2, 0, none⟩))]) (fun s_ w' => (w'.cell? ⟨l, 0, none⟩ = some (.int .i64 p1) ∧ w'.cell? ⟨l, 1, none⟩ = some (.int .i64 q1) ∧ w'.cell? ⟨l, 2, none⟩ = some (.int .i64 t1) ∧ w'.cell? ⟨l, 3, none⟩ = some (.int .i64 x1) ∧ w'.cell? ⟨l, 4, none⟩ = some (.int .i64 y1) ∧ w'.cell? ⟨l, 5, none⟩ = some (.int .i64 A1) ∧ w'.cell? ⟨l, 6, none⟩ = some (.int .i64 B1) ∧ w'.cell? ⟨l, 7, none⟩ = some (.int .i64 C1) ∧ w'.cell? ⟨l, 8, none⟩ = some (.int .i64 D1) ∧ w'.cell? ⟨l, 9, none⟩ = some (.int .i64 E1) ∧ w'.cell? ⟨l, 10, none⟩ = some (.int .i64 S0) ∧ w'.cell? ⟨z, 0, none⟩ = some (.slice D2 g1.length E2) ∧ w'.cell? ⟨z, 1, none⟩ = some (.slice F2 i1.length G2) ∧ w'.cell? ⟨z, 2, none⟩ = some (.slice I2 l1.length J2) ∧ w'.cell? ⟨z, 3, none⟩ = some (.int .i64 m1) ∧ w'.cell? ⟨z, 4, none⟩ = some (.int .i64 n1) ∧ w'.cell? ⟨z, 5, none⟩ = some (.int .i64 o1)) ∧ (Kd.R (Kd.int .i64) 3 w' w.heap.size (fun k_ => zo s_.2.1 k_ ∧ zo s_.2.2.1 k_ ∧ zo (.slice i0 u.length b0) k_ ∧ zo (.slice l0 x.length c0) k_ ∧ zo (.slice m0 y.length d0) k_ ∧ zo (.slice E D0.length I) k_ ∧ zo (.slice J E0.length L) k_ ∧ zo (.slice M F0.length O) k_ ∧ zo (.slice A0 U.length t0) k_ ∧ zo (.slice B0 X.length x0) k_ ∧ zo (.slice C0 a0.length y0) k_) s_.1 n6) ∧ (Kd.R (Kd.int .i64) 3 w' w.heap.size (fun k_ => zo s_.1 k_ ∧ zo s_.2.2.1 k_ ∧ zo (.slice i0 u.length b0) k_ ∧ zo (.slice l0 x.length c0) k_ ∧ zo (.slice m0 y.length d0) k_ ∧ zo (.slice E D0.length I) k_ ∧ zo (.slice J E0.length L) k_ ∧ zo (.slice M F0.length O) k_ ∧ zo (.slice A0 U.length t0) k_ ∧ zo (.slice B0 X.length x0) k_ ∧ zo (.slice C0 a0.length y0) k_) s_.2.1 o6) ∧ (Kd.R (Kd.int .i64) 3 w' w.heap.size (fun k_ => zo s_.1 k_ ∧ zo s_.2.1 k_ ∧ zo (.slice i0 u.length b0) k_ ∧ zo (.slice l0 x.length c0) k_ ∧ zo (.slice m0 y.length d0) k_ ∧ zo (.slice E D0.length I) k_ ∧ zo (.slice J E0.length L) k_ ∧ zo (.slice M F0.length O) k_ ∧ zo (.slice A0 U.length t0) k_ ∧ zo (.slice B0 X.length x0) k_ ∧ zo (.slice C0 a0.length y0) k_) s_.2.2.1 p6) ∧ (Kd.R (Kd.int .i64) 3 w' w.heap.size (fun k_ => zo s_.1 k_ ∧ zo s_.2.1 k_ ∧ zo s_.2.2.1 k_ ∧ zo (.slice l0 x.length c0) k_ ∧ zo (.slice m0 y.length d0) k_ ∧ zo (.slice E D0.length I) k_ ∧ zo (.slice J E0.length L) k_ ∧ zo (.slice M F0.length O) k_ ∧ zo (.slice A0 U.length t0) k_ ∧ zo (.slice B0 X.length x0) k_ ∧ zo (.slice C0 a0.length y0) k_) (.slice i0 u.length b0) u) ∧ (Kd.R (Kd.int .i64) 3 w' w.heap.size (fun k_ => zo s_.1 k_ ∧ zo s_.2.1 k_ ∧ zo s_.2.2.1 k_ ∧ zo (.slice i0 u.length b0) k_ ∧ zo (.slice m0 y.length d0) k_ ∧ zo (.slice E D0.length I) k_ ∧ zo (.slice J E0.length L) k_ ∧ zo (.slice M F0.length O) k_ ∧ zo (.slice A0 U.length t0) k_ ∧ zo (.slice B0 X.length x0) k_ ∧ zo (.slice C0 a0.length y0) k_) (.slice l0 x.length c0) x) ∧ (Kd.R (Kd.int .i64) 3 w' w.heap.size (fun k_ => zo s_.1 k_ ∧ zo s_.2.1 k_ ∧ zo s_.2.2.1 k_ ∧ zo (.slice i0 u.length b0) k_ ∧ zo (.slice l0 x.length c0) k_ ∧ zo (.slice E D0.length I) k_ ∧ zo (.slice J E0.length L) k_ ∧ zo (.slice M F0.length O) k_ ∧ zo (.slice A0 U.length t0) k_ ∧ zo (.slice B0 X.length x0) k_ ∧ zo (.slice C0 a0.length y0) k_) (.slice m0 y.length d0) y) ∧ (Kd.R (Kd.int .i64) 3 w' w.heap.size (fun k_ => zo s_.1 k_ ∧ zo s_.2.1 k_ ∧ zo s_.2.2.1 k_ ∧ zo (.slice i0 u.length b0) k_ ∧ zo (.slice l0 x.length c0) k_ ∧ zo (.slice m0 y.length d0) k_ ∧ zo (.slice J E0.length L) k_ ∧ zo (.slice M F0.length O) k_ ∧ zo (.slice A0 U.length t0) k_ ∧ zo (.slice B0 X.length x0) k_ ∧ zo (.slice C0 a0.length y0) k_) (.slice E D0.length I) D0) ∧ (Kd.R (Kd.int .i64) 3 w' w.heap.size (fun k_ => zo s_.1 k_ ∧ zo s_.2.1 k_ ∧ zo s_.2.2.1 k_ ∧ zo (.slice i0 u.length b0) k_ ∧ zo (.slice l0 x.length c0) k_ ∧ zo (.slice m0 y.length d0) k_ ∧ zo (.slice E D0.length I) k_ ∧ zo (.slice M F0.length O) k_ ∧ zo (.slice A0 U.length t0) k_ ∧ zo (.slice B0 X.length x0) k_ ∧ zo (.slice C0 a0.length y0) k_) (.slice J E0.length L) E0) ∧ (Kd.R (Kd.int .i64) 3 w' w.heap.size (fun k_ => zo s_.1 k_ ∧ zo s_.2.1 k_ ∧ zo s_.2.2.1 k_ ∧ zo (.slice i0 u.length b0) k_ ∧ zo (.slice l0 x.length c0) k_ ∧ zo (.slice m0 y.length d0) k_ ∧ zo (.slice E D0.length I) k_ ∧ zo (.slice J E0.length L) k_ ∧ zo (.slice A0 U.length t0) k_ ∧ zo (.slice B0 X.length x0) k_ ∧ zo (.slice C0 a0.length y0) k_) (.slice M F0.length O) F0) ∧ (Kd.R (Kd.int .i64) 3 w' w.heap.size (fun k_ => zo s_.1 k_ ∧ zo s_.2.1 k_ ∧ zo s_.2.2.1 k_ ∧ zo (.slice i0 u.length b0) k_ ∧ zo (.slice l0 x.length c0) k_ ∧ zo (.slice m0 y.length d0) k_ ∧ zo (.slice E D0.length I) k_ ∧ zo (.slice J E0.length L) k_ ∧ zo (.slice M F0.length O) k_ ∧ zo (.slice B0 X.length x0) k_ ∧ zo (.slice C0 a0.length y0) k_) (.slice A0 U.length t0) L4) ∧ (Kd.R (Kd.int .i64) 3 w' w.heap.size (fun k_ => zo s_.1 k_ ∧ zo s_.2.1 k_ ∧ zo s_.2.2.1 k_ ∧ zo (.slice i0 u.length b0) k_ ∧ zo (.slice l0 x.length c0) k_ ∧ zo (.slice m0 y.length d0) k_ ∧ zo (.slice E D0.length I) k_ ∧ zo (.slice J E0.length L) k_ ∧ zo (.slice M F0.length O) k_ ∧ zo (.slice A0 U.length t0) k_ ∧ zo (.slice C0 a0.length y0) k_) (.slice B0 X.length x0) M4) ∧ (Kd.R (Kd.int .i64) 3 w' w.heap.size (fun k_ => zo s_.1 k_ ∧ zo s_.2.1 k_ ∧ zo s_.2.2.1 k_ ∧ zo (.slice i0 u.length b0) k_ ∧ zo (.slice l0 x.length c0) k_ ∧ zo (.slice m0 y.length d0) k_ ∧ zo (.slice E D0.length I) k_ ∧ zo (.slice J E0.length L) k_ ∧ zo (.slice M F0.length O) k_ ∧ zo (.slice A0 U.length t0) k_ ∧ zo (.slice B0 X.length x0) k_) (.slice C0 a0.length y0) N4) ∧ (w'.heap[l]? = some (.cells #[.int .i64 p1, .int .i64 q1, .int .i64 t1, .int .i64 x1, .int .i64 y1, .int .i64 A1, .int .i64 B1, .int .i64 C1, .int .i64 D1, .int .i64 E1, .int .i64 S0] 25 (0, 0))) ∧ (w'.heap[z]? = some (.cells #[.slice D2 g1.length E2, .slice F2 i1.length G2, .slice I2 l1.length J2, .int .i64 m1, .int .i64 n1, .int .i64 o1] 28 (0, 0))) ∧ (w'.heap[I0]? = some (.cells #[.slice i0 u.length b0, .slice l0 x.length c0, .slice m0 y.length d0, .int .i64 c3, .int .i64 d3, .int .i64 e3] 30 (0, 0))) ∧ (w'.heap[C2]? = some (.cells #[.slice E D0.length I, .slice J E0.length L, .slice M F0.length O, .int .i64 N3, .int .i64 O3, .int .i64 R3] 30 (0, 0))) ∧ (w'.heap[M0]? = some (.cells #[.slice A0 U.length t0, .slice B0 X.length x0, .slice C0 a0.length y0, .int .i64 o3, .int .i64 p3, .int .i64 q3] 30 (0, 0))) ∧ (w'.heap[s_.2.2.2]? = some (.cells #[.slice none 0 0, .slice none 0 0, .slice none 0 0, .int .i64 0, .int .i64 0, .int .i64 0] 30 (0, 0))) ∧ (w.heap.size ≤ s_.2.2.2) ∧ (w.heap.size ≤ s_.2.2.2) ∧ (l ≠ s_.2.2.2) ∧ (s_.2.2.2 ≠ l) ∧ (z ≠ s_.2.2.2) ∧ (s_.2.2.2 ≠ z) ∧ (I0 ≠ s_.2.2.2) ∧ (s_.2.2.2 ≠ I0) ∧ (C2 ≠ s_.2.2.2) ∧ (s_.2.2.2 ≠ C2) ∧ (M0 ≠ s_.2.2.2) ∧ (s_.2.2.2 ≠ M0) ∧ (Below w.heap.size w w')) ?_ ?_
          rotate_left
          · as_aux_lemma =>
            intro hJ1_3_10
            refine join_ (σ := Value × Value × Value) 8 (bl 13 31) (fun s_ => [(100, .agg #[.int .i64 f7, .int .i64 g7, .int .i64 i7, .int .i64 j7, .int .i64 l7, .int .i64 m7, .int .i64 n7, .int .i64 o7, .int .i64 p7, .int .i64 q7, .int .i64 t7]), (102, .agg #[s_.1, s_.2.1, s_.2.2, .int .i64 T7, .int .i64 U7, .int .i64 V7])]) (fun s_ w' => (w'.cell? ⟨l, 0, none⟩ = some (.int .i64 p1) ∧ w'.cell? ⟨l, 1, none⟩ = some (.int .i64 q1) ∧ w'.cell? ⟨l, 2, none⟩ = some (.int .i64 t1) ∧ w'.cell? ⟨l, 3, none⟩ = some (.int .i64 x1) ∧ w'.cell? ⟨l, 4, none⟩ = some (.int .i64 y1) ∧ w'.cell? ⟨l, 5, none⟩ = some (.int .i64 A1) ∧ w'.cell? ⟨l, 6, none⟩ = some (.int .i64 B1) ∧ w'.cell? ⟨l, 7, none⟩ = some (.int .i64 C1) ∧ w'.cell? ⟨l, 8, none⟩ = some (.int .i64 D1) ∧ w'.cell? ⟨l, 9, none⟩ = some (.int .i64 E1) ∧ w'.cell? ⟨l, 10, none⟩ = some (.int .i64 S0) ∧ w'.cell? ⟨z, 0, none⟩ = some (.slice D2 g1.length E2) ∧ w'.cell? ⟨z, 1, none⟩ = some (.slice F2 i1.length G2) ∧ w'.cell? ⟨z, 2, none⟩ = some (.slice I2 l1.length J2) ∧ w'.cell? ⟨z, 3, none⟩ = some (.int .i64 m1) ∧ w'.cell? ⟨z, 4, none⟩ = some (.int .i64 n1) ∧ w'.cell? ⟨z, 5, none⟩ = some (.int .i64 o1)) ∧ (Kd.R (Kd.int .i64) 3 w' w.heap.size (fun k_ => zo s_.2.1 k_ ∧ zo s_.2.2 k_ ∧ zo (.slice i0 u.length b0) k_ ∧ zo (.slice l0 x.length c0) k_ ∧ zo (.slice m0 y.length d0) k_ ∧ zo (.slice E D0.length I) k_ ∧ zo (.slice J E0.length L) k_ ∧ zo (.slice M F0.length O) k_ ∧ zo (.slice A0 U.length t0) k_ ∧ zo (.slice B0 X.length x0) k_ ∧ zo (.slice C0 a0.length y0) k_) s_.1 n6) ∧ (Kd.R (Kd.int .i64) 3 w' w.heap.size (fun k_ => zo s_.1 k_ ∧ zo s_.2.2 k_ ∧ zo (.slice i0 u.length b0) k_ ∧ zo (.slice l0 x.length c0) k_ ∧ zo (.slice m0 y.length d0) k_ ∧ zo (.slice E D0.length I) k_ ∧ zo (.slice J E0.length L) k_ ∧ zo (.slice M F0.length O) k_ ∧ zo (.slice A0 U.length t0) k_ ∧ zo (.slice B0 X.length x0) k_ ∧ zo (.slice C0 a0.length y0) k_) s_.2.1 o6) ∧ (Kd.R (Kd.int .i64) 3 w' w.heap.size (fun k_ => zo s_.1 k_ ∧ zo s_.2.1 k_ ∧ zo (.slice i0 u.length b0) k_ ∧ zo (.slice l0 x.length c0) k_ ∧ zo (.slice m0 y.length d0) k_ ∧ zo (.slice E D0.length I) k_ ∧ zo (.slice J E0.length L) k_ ∧ zo (.slice M F0.length O) k_ ∧ zo (.slice A0 U.length t0) k_ ∧ zo (.slice B0 X.length x0) k_ ∧ zo (.slice C0 a0.length y0) k_) s_.2.2 p6) ∧ (Kd.R (Kd.int .i64) 3 w' w.heap.size (fun k_ => zo s_.1 k_ ∧ zo s_.2.1 k_ ∧ zo s_.2.2 k_ ∧ zo (.slice l0 x.length c0) k_ ∧ zo (.slice m0 y.length d0) k_ ∧ zo (.slice E D0.length I) k_ ∧ zo (.slice J E0.length L) k_ ∧ zo (.slice M F0.length O) k_ ∧ zo (.slice A0 U.length t0) k_ ∧ zo (.slice B0 X.length x0) k_ ∧ zo (.slice C0 a0.length y0) k_) (.slice i0 u.length b0) u) ∧ (Kd.R (Kd.int .i64) 3 w' w.heap.size (fun k_ => zo s_.1 k_ ∧ zo s_.2.1 k_ ∧ zo s_.2.2 k_ ∧ zo (.slice i0 u.length b0) k_ ∧ zo (.slice m0 y.length d0) k_ ∧ zo (.slice E D0.length I) k_ ∧ zo (.slice J E0.length L) k_ ∧ zo (.slice M F0.length O) k_ ∧ zo (.slice A0 U.length t0) k_ ∧ zo (.slice B0 X.length x0) k_ ∧ zo (.slice C0 a0.length y0) k_) (.slice l0 x.length c0) x) ∧ (Kd.R (Kd.int .i64) 3 w' w.heap.size (fun k_ => zo s_.1 k_ ∧ zo s_.2.1 k_ ∧ zo s_.2.2 k_ ∧ zo (.slice i0 u.length b0) k_ ∧ zo (.slice l0 x.length c0) k_ ∧ zo (.slice E D0.length I) k_ ∧ zo (.slice J E0.length L) k_ ∧ zo (.slice M F0.length O) k_ ∧ zo (.slice A0 U.length t0) k_ ∧ zo (.slice B0 X.length x0) k_ ∧ zo (.slice C0 a0.length y0) k_) (.slice m0 y.length d0) y) ∧ (Kd.R (Kd.int .i64) 3 w' w.heap.size (fun k_ => zo s_.1 k_ ∧ zo s_.2.1 k_ ∧ zo s_.2.2 k_ ∧ zo (.slice i0 u.length b0) k_ ∧ zo (.slice l0 x.length c0) k_ ∧ zo (.slice m0 y.length d0) k_ ∧ zo (.slice J E0.length L) k_ ∧ zo (.slice M F0.length O) k_ ∧ zo (.slice A0 U.length t0) k_ ∧ zo (.slice B0 X.length x0) k_ ∧ zo (.slice C0 a0.length y0) k_) (.slice E D0.length I) D0) ∧ (Kd.R (Kd.int .i64) 3 w' w.heap.size (fun k_ => zo s_.1 k_ ∧ zo s_.2.1 k_ ∧ zo s_.2.2 k_ ∧ zo (.slice i0 u.length b0) k_ ∧ zo (.slice l0 x.length c0) k_ ∧ zo (.slice m0 y.length d0) k_ ∧ zo (.slice E D0.length I) k_ ∧ zo (.slice M F0.length O) k_ ∧ zo (.slice A0 U.length t0) k_ ∧ zo (.slice B0 X.length x0) k_ ∧ zo (.slice C0 a0.length y0) k_) (.slice J E0.length L) E0) ∧ (Kd.R (Kd.int .i64) 3 w' w.heap.size (fun k_ => zo s_.1 k_ ∧ zo s_.2.1 k_ ∧ zo s_.2.2 k_ ∧ zo (.slice i0 u.length b0) k_ ∧ zo (.slice l0 x.length c0) k_ ∧ zo (.slice m0 y.length d0) k_ ∧ zo (.slice E D0.length I) k_ ∧ zo (.slice J E0.length L) k_ ∧ zo (.slice A0 U.length t0) k_ ∧ zo (.slice B0 X.length x0) k_ ∧ zo (.slice C0 a0.length y0) k_) (.slice M F0.length O) F0) ∧ (Kd.R (Kd.int .i64) 3 w' w.heap.size (fun k_ => zo s_.1 k_ ∧ zo s_.2.1 k_ ∧ zo s_.2.2 k_ ∧ zo (.slice i0 u.length b0) k_ ∧ zo (.slice l0 x.length c0) k_ ∧ zo (.slice m0 y.length d0) k_ ∧ zo (.slice E D0.length I) k_ ∧ zo (.slice J E0.length L) k_ ∧ zo (.slice M F0.length O) k_ ∧ zo (.slice B0 X.length x0) k_ ∧ zo (.slice C0 a0.length y0) k_) (.slice A0 U.length t0) L4) ∧ (Kd.R (Kd.int .i64) 3 w' w.heap.size (fun k_ => zo s_.1 k_ ∧ zo s_.2.1 k_ ∧ zo s_.2.2 k_ ∧ zo (.slice i0 u.length b0) k_ ∧ zo (.slice l0 x.length c0) k_ ∧ zo (.slice m0 y.length d0) k_ ∧ zo (.slice E D0.length I) k_ ∧ zo (.slice J E0.length L) k_ ∧ zo (.slice M F0.length O) k_ ∧ zo (.slice A0 U.length t0) k_ ∧ zo (.slice C0 a0.length y0) k_) (.slice B0 X.length x0) M4) ∧ (Kd.R (Kd.int .i64) 3 w' w.heap.size (fun k_ => zo s_.1 k_ ∧ zo s_.2.1 k_ ∧ zo s_.2.2 k_ ∧ zo (.slice i0 u.length b0) k_ ∧ zo (.slice l0 x.length c0) k_ ∧ zo (.slice m0 y.length d0) k_ ∧ zo (.slice E D0.length I) k_ ∧ zo (.slice J E0.length L) k_ ∧ zo (.slice M F0.length O) k_ ∧ zo (.slice A0 U.length t0) k_ ∧ zo (.slice B0 X.length x0) k_) (.slice C0 a0.length y0) N4) ∧ (w'.heap[l]? = some (.cells #[.int .i64 p1, .int .i64 q1, .int .i64 t1, .int .i64 x1, .int .i64 y1, .int .i64 A1, .int .i64 B1, .int .i64 C1, .int .i64 D1, .int .i64 E1, .int .i64 S0] 25 (0, 0))) ∧ (w'.heap[z]? = some (.cells #[.slice D2 g1.length E2, .slice F2 i1.length G2, .slice I2 l1.length J2, .int .i64 m1, .int .i64 n1, .int .i64 o1] 28 (0, 0))) ∧ (w'.heap[I0]? = some (.cells #[.slice i0 u.length b0, .slice l0 x.length c0, .slice m0 y.length d0, .int .i64 c3, .int .i64 d3, .int .i64 e3] 30 (0, 0))) ∧ (w'.heap[C2]? = some (.cells #[.slice E D0.length I, .slice J E0.length L, .slice M F0.length O, .int .i64 N3, .int .i64 O3, .int .i64 R3] 30 (0, 0))) ∧ (w'.heap[M0]? = some (.cells #[.slice A0 U.length t0, .slice B0 X.length x0, .slice C0 a0.length y0, .int .i64 o3, .int .i64 p3, .int .i64 q3] 30 (0, 0))) ∧ (Below w.heap.size w w')) ?_ ?_
            rotate_left
            · as_aux_lemma =>
              intro hJ1_3
              refine join_ (σ := Nat) 8 (bl 13 1047) (fun s_ => [(100, .agg #[.int .i64 f7, .int .i64 g7, .int .i64 i7, .int .i64 j7, .int .i64 l7, .int .i64 m7, .int .i64 n7, .int .i64 o7, .int .i64 p7, .int .i64 q7, .int .i64 t7]), (17, .pointer (some ⟨s_, 0, none⟩))]) (fun s_ w' => (w'.cell? ⟨l, 0, none⟩ = some (.int .i64 p1) ∧ w'.cell? ⟨l, 1, none⟩ = some (.int .i64 q1) ∧ w'.cell? ⟨l, 2, none⟩ = some (.int .i64 t1) ∧ w'.cell? ⟨l, 3, none⟩ = some (.int .i64 x1) ∧ w'.cell? ⟨l, 4, none⟩ = some (.int .i64 y1) ∧ w'.cell? ⟨l, 5, none⟩ = some (.int .i64 A1) ∧ w'.cell? ⟨l, 6, none⟩ = some (.int .i64 B1) ∧ w'.cell? ⟨l, 7, none⟩ = some (.int .i64 C1) ∧ w'.cell? ⟨l, 8, none⟩ = some (.int .i64 D1) ∧ w'.cell? ⟨l, 9, none⟩ = some (.int .i64 E1) ∧ w'.cell? ⟨l, 10, none⟩ = some (.int .i64 S0) ∧ w'.cell? ⟨z, 0, none⟩ = some (.slice D2 g1.length E2) ∧ w'.cell? ⟨z, 1, none⟩ = some (.slice F2 i1.length G2) ∧ w'.cell? ⟨z, 2, none⟩ = some (.slice I2 l1.length J2) ∧ w'.cell? ⟨z, 3, none⟩ = some (.int .i64 m1) ∧ w'.cell? ⟨z, 4, none⟩ = some (.int .i64 n1) ∧ w'.cell? ⟨z, 5, none⟩ = some (.int .i64 o1)) ∧ (Kd.R (Kd.int .i64) 3 w' w.heap.size (fun k_ => zo (.slice l0 x.length c0) k_ ∧ zo (.slice m0 y.length d0) k_ ∧ zo (.slice E D0.length I) k_ ∧ zo (.slice J E0.length L) k_ ∧ zo (.slice M F0.length O) k_ ∧ zo (.slice A0 U.length t0) k_ ∧ zo (.slice B0 X.length x0) k_ ∧ zo (.slice C0 a0.length y0) k_) (.slice i0 u.length b0) u) ∧ (Kd.R (Kd.int .i64) 3 w' w.heap.size (fun k_ => zo (.slice i0 u.length b0) k_ ∧ zo (.slice m0 y.length d0) k_ ∧ zo (.slice E D0.length I) k_ ∧ zo (.slice J E0.length L) k_ ∧ zo (.slice M F0.length O) k_ ∧ zo (.slice A0 U.length t0) k_ ∧ zo (.slice B0 X.length x0) k_ ∧ zo (.slice C0 a0.length y0) k_) (.slice l0 x.length c0) x) ∧ (Kd.R (Kd.int .i64) 3 w' w.heap.size (fun k_ => zo (.slice i0 u.length b0) k_ ∧ zo (.slice l0 x.length c0) k_ ∧ zo (.slice E D0.length I) k_ ∧ zo (.slice J E0.length L) k_ ∧ zo (.slice M F0.length O) k_ ∧ zo (.slice A0 U.length t0) k_ ∧ zo (.slice B0 X.length x0) k_ ∧ zo (.slice C0 a0.length y0) k_) (.slice m0 y.length d0) y) ∧ (Kd.R (Kd.int .i64) 3 w' w.heap.size (fun k_ => zo (.slice i0 u.length b0) k_ ∧ zo (.slice l0 x.length c0) k_ ∧ zo (.slice m0 y.length d0) k_ ∧ zo (.slice J E0.length L) k_ ∧ zo (.slice M F0.length O) k_ ∧ zo (.slice A0 U.length t0) k_ ∧ zo (.slice B0 X.length x0) k_ ∧ zo (.slice C0 a0.length y0) k_) (.slice E D0.length I) D0) ∧ (Kd.R (Kd.int .i64) 3 w' w.heap.size (fun k_ => zo (.slice i0 u.length b0) k_ ∧ zo (.slice l0 x.length c0) k_ ∧ zo (.slice m0 y.length d0) k_ ∧ zo (.slice E D0.length I) k_ ∧ zo (.slice M F0.length O) k_ ∧ zo (.slice A0 U.length t0) k_ ∧ zo (.slice B0 X.length x0) k_ ∧ zo (.slice C0 a0.length y0) k_) (.slice J E0.length L) E0) ∧ (Kd.R (Kd.int .i64) 3 w' w.heap.size (fun k_ => zo (.slice i0 u.length b0) k_ ∧ zo (.slice l0 x.length c0) k_ ∧ zo (.slice m0 y.length d0) k_ ∧ zo (.slice E D0.length I) k_ ∧ zo (.slice J E0.length L) k_ ∧ zo (.slice A0 U.length t0) k_ ∧ zo (.slice B0 X.length x0) k_ ∧ zo (.slice C0 a0.length y0) k_) (.slice M F0.length O) F0) ∧ (Kd.R (Kd.int .i64) 3 w' w.heap.size (fun k_ => zo (.slice i0 u.length b0) k_ ∧ zo (.slice l0 x.length c0) k_ ∧ zo (.slice m0 y.length d0) k_ ∧ zo (.slice E D0.length I) k_ ∧ zo (.slice J E0.length L) k_ ∧ zo (.slice M F0.length O) k_ ∧ zo (.slice B0 X.length x0) k_ ∧ zo (.slice C0 a0.length y0) k_) (.slice A0 U.length t0) L4) ∧ (Kd.R (Kd.int .i64) 3 w' w.heap.size (fun k_ => zo (.slice i0 u.length b0) k_ ∧ zo (.slice l0 x.length c0) k_ ∧ zo (.slice m0 y.length d0) k_ ∧ zo (.slice E D0.length I) k_ ∧ zo (.slice J E0.length L) k_ ∧ zo (.slice M F0.length O) k_ ∧ zo (.slice A0 U.length t0) k_ ∧ zo (.slice C0 a0.length y0) k_) (.slice B0 X.length x0) M4) ∧ (Kd.R (Kd.int .i64) 3 w' w.heap.size (fun k_ => zo (.slice i0 u.length b0) k_ ∧ zo (.slice l0 x.length c0) k_ ∧ zo (.slice m0 y.length d0) k_ ∧ zo (.slice E D0.length I) k_ ∧ zo (.slice J E0.length L) k_ ∧ zo (.slice M F0.length O) k_ ∧ zo (.slice A0 U.length t0) k_ ∧ zo (.slice B0 X.length x0) k_) (.slice C0 a0.length y0) N4) ∧ (w'.heap[l]? = some (.cells #[.int .i64 p1, .int .i64 q1, .int .i64 t1, .int .i64 x1, .int .i64 y1, .int .i64 A1, .int .i64 B1, .int .i64 C1, .int .i64 D1, .int .i64 E1, .int .i64 S0] 25 (0, 0))) ∧ (w'.heap[z]? = some (.cells #[.slice D2 g1.length E2, .slice F2 i1.length G2, .slice I2 l1.length J2, .int .i64 m1, .int .i64 n1, .int .i64 o1] 28 (0, 0))) ∧ (w'.heap[I0]? = some (.cells #[.slice i0 u.length b0, .slice l0 x.length c0, .slice m0 y.length d0, .int .i64 c3, .int .i64 d3, .int .i64 e3] 30 (0, 0))) ∧ (w'.heap[C2]? = some (.cells #[.slice E D0.length I, .slice J E0.length L, .slice M F0.length O, .int .i64 N3, .int .i64 O3, .int .i64 R3] 30 (0, 0))) ∧ (w'.heap[M0]? = some (.cells #[.slice A0 U.length t0, .slice B0 X.length x0, .slice C0 a0.length y0, .int .i64 o3, .int .i64 p3, .int .i64 q3] 30 (0, 0))) ∧ (w'.heap[s_]? = some (.cells #[.slice none 0 0, .slice none 0 0, .slice none 0 0, .int .i64 0, .int .i64 0, .int .i64 0] 30 (0, 0))) ∧ (w.heap.size ≤ s_) ∧ (w.heap.size ≤ s_) ∧ (l ≠ s_) ∧ (s_ ≠ l) ∧ (z ≠ s_) ∧ (s_ ≠ z) ∧ (I0 ≠ s_) ∧ (s_ ≠ I0) ∧ (C2 ≠ s_) ∧ (s_ ≠ C2) ∧ (M0 ≠ s_) ∧ (s_ ≠ M0) ∧ (Below w.heap.size w w')) ?_ ?_
              rotate_left
              · as_aux_lemma =>
                intro hJ1_10
                refine join_ (σ := Unit) 9 (bl 13 23) (fun s_ => [(100, .agg #[.int .i64 f7, .int .i64 g7, .int .i64 i7, .int .i64 j7, .int .i64 l7, .int .i64 m7, .int .i64 n7, .int .i64 o7, .int .i64 p7, .int .i64 q7, .int .i64 t7])]) (fun s_ w' => (w'.cell? ⟨l, 0, none⟩ = some (.int .i64 p1) ∧ w'.cell? ⟨l, 1, none⟩ = some (.int .i64 q1) ∧ w'.cell? ⟨l, 2, none⟩ = some (.int .i64 t1) ∧ w'.cell? ⟨l, 3, none⟩ = some (.int .i64 x1) ∧ w'.cell? ⟨l, 4, none⟩ = some (.int .i64 y1) ∧ w'.cell? ⟨l, 5, none⟩ = some (.int .i64 A1) ∧ w'.cell? ⟨l, 6, none⟩ = some (.int .i64 B1) ∧ w'.cell? ⟨l, 7, none⟩ = some (.int .i64 C1) ∧ w'.cell? ⟨l, 8, none⟩ = some (.int .i64 D1) ∧ w'.cell? ⟨l, 9, none⟩ = some (.int .i64 E1) ∧ w'.cell? ⟨l, 10, none⟩ = some (.int .i64 S0) ∧ w'.cell? ⟨z, 0, none⟩ = some (.slice D2 g1.length E2) ∧ w'.cell? ⟨z, 1, none⟩ = some (.slice F2 i1.length G2) ∧ w'.cell? ⟨z, 2, none⟩ = some (.slice I2 l1.length J2) ∧ w'.cell? ⟨z, 3, none⟩ = some (.int .i64 m1) ∧ w'.cell? ⟨z, 4, none⟩ = some (.int .i64 n1) ∧ w'.cell? ⟨z, 5, none⟩ = some (.int .i64 o1)) ∧ (Kd.R (Kd.int .i64) 3 w' w.heap.size (fun k_ => zo (.slice l0 x.length c0) k_ ∧ zo (.slice m0 y.length d0) k_ ∧ zo (.slice E D0.length I) k_ ∧ zo (.slice J E0.length L) k_ ∧ zo (.slice M F0.length O) k_ ∧ zo (.slice A0 U.length t0) k_ ∧ zo (.slice B0 X.length x0) k_ ∧ zo (.slice C0 a0.length y0) k_) (.slice i0 u.length b0) u) ∧ (Kd.R (Kd.int .i64) 3 w' w.heap.size (fun k_ => zo (.slice i0 u.length b0) k_ ∧ zo (.slice m0 y.length d0) k_ ∧ zo (.slice E D0.length I) k_ ∧ zo (.slice J E0.length L) k_ ∧ zo (.slice M F0.length O) k_ ∧ zo (.slice A0 U.length t0) k_ ∧ zo (.slice B0 X.length x0) k_ ∧ zo (.slice C0 a0.length y0) k_) (.slice l0 x.length c0) x) ∧ (Kd.R (Kd.int .i64) 3 w' w.heap.size (fun k_ => zo (.slice i0 u.length b0) k_ ∧ zo (.slice l0 x.length c0) k_ ∧ zo (.slice E D0.length I) k_ ∧ zo (.slice J E0.length L) k_ ∧ zo (.slice M F0.length O) k_ ∧ zo (.slice A0 U.length t0) k_ ∧ zo (.slice B0 X.length x0) k_ ∧ zo (.slice C0 a0.length y0) k_) (.slice m0 y.length d0) y) ∧ (Kd.R (Kd.int .i64) 3 w' w.heap.size (fun k_ => zo (.slice i0 u.length b0) k_ ∧ zo (.slice l0 x.length c0) k_ ∧ zo (.slice m0 y.length d0) k_ ∧ zo (.slice J E0.length L) k_ ∧ zo (.slice M F0.length O) k_ ∧ zo (.slice A0 U.length t0) k_ ∧ zo (.slice B0 X.length x0) k_ ∧ zo (.slice C0 a0.length y0) k_) (.slice E D0.length I) D0) ∧ (Kd.R (Kd.int .i64) 3 w' w.heap.size (fun k_ => zo (.slice i0 u.length b0) k_ ∧ zo (.slice l0 x.length c0) k_ ∧ zo (.slice m0 y.length d0) k_ ∧ zo (.slice E D0.length I) k_ ∧ zo (.slice M F0.length O) k_ ∧ zo (.slice A0 U.length t0) k_ ∧ zo (.slice B0 X.length x0) k_ ∧ zo (.slice C0 a0.length y0) k_) (.slice J E0.length L) E0) ∧ (Kd.R (Kd.int .i64) 3 w' w.heap.size (fun k_ => zo (.slice i0 u.length b0) k_ ∧ zo (.slice l0 x.length c0) k_ ∧ zo (.slice m0 y.length d0) k_ ∧ zo (.slice E D0.length I) k_ ∧ zo (.slice J E0.length L) k_ ∧ zo (.slice A0 U.length t0) k_ ∧ zo (.slice B0 X.length x0) k_ ∧ zo (.slice C0 a0.length y0) k_) (.slice M F0.length O) F0) ∧ (Kd.R (Kd.int .i64) 3 w' w.heap.size (fun k_ => zo (.slice i0 u.length b0) k_ ∧ zo (.slice l0 x.length c0) k_ ∧ zo (.slice m0 y.length d0) k_ ∧ zo (.slice E D0.length I) k_ ∧ zo (.slice J E0.length L) k_ ∧ zo (.slice M F0.length O) k_ ∧ zo (.slice B0 X.length x0) k_ ∧ zo (.slice C0 a0.length y0) k_) (.slice A0 U.length t0) L4) ∧ (Kd.R (Kd.int .i64) 3 w' w.heap.size (fun k_ => zo (.slice i0 u.length b0) k_ ∧ zo (.slice l0 x.length c0) k_ ∧ zo (.slice m0 y.length d0) k_ ∧ zo (.slice E D0.length I) k_ ∧ zo (.slice J E0.length L) k_ ∧ zo (.slice M F0.length O) k_ ∧ zo (.slice A0 U.length t0) k_ ∧ zo (.slice C0 a0.length y0) k_) (.slice B0 X.length x0) M4) ∧ (Kd.R (Kd.int .i64) 3 w' w.heap.size (fun k_ => zo (.slice i0 u.length b0) k_ ∧ zo (.slice l0 x.length c0) k_ ∧ zo (.slice m0 y.length d0) k_ ∧ zo (.slice E D0.length I) k_ ∧ zo (.slice J E0.length L) k_ ∧ zo (.slice M F0.length O) k_ ∧ zo (.slice A0 U.length t0) k_ ∧ zo (.slice B0 X.length x0) k_) (.slice C0 a0.length y0) N4) ∧ (w'.heap[l]? = some (.cells #[.int .i64 p1, .int .i64 q1, .int .i64 t1, .int .i64 x1, .int .i64 y1, .int .i64 A1, .int .i64 B1, .int .i64 C1, .int .i64 D1, .int .i64 E1, .int .i64 S0] 25 (0, 0))) ∧ (w'.heap[z]? = some (.cells #[.slice D2 g1.length E2, .slice F2 i1.length G2, .slice I2 l1.length J2, .int .i64 m1, .int .i64 n1, .int .i64 o1] 28 (0, 0))) ∧ (w'.heap[I0]? = some (.cells #[.slice i0 u.length b0, .slice l0 x.length c0, .slice m0 y.length d0, .int .i64 c3, .int .i64 d3, .int .i64 e3] 30 (0, 0))) ∧ (w'.heap[C2]? = some (.cells #[.slice E D0.length I, .slice J E0.length L, .slice M F0.length O, .int .i64 N3, .int .i64 O3, .int .i64 R3] 30 (0, 0))) ∧ (w'.heap[M0]? = some (.cells #[.slice A0 U.length t0, .slice B0 X.length x0, .slice C0 a0.length y0, .int .i64 o3, .int .i64 p3, .int .i64 q3] 30 (0, 0))) ∧ (Below w.heap.size w w')) ?_ ?_
                rotate_left
                · as_aux_lemma =>
                  intro hJ1
                  refine join_ (σ := Nat) 9 (bl 13 1045) (fun s_ => [(17, .pointer (some ⟨s_, 0, none⟩))]) (fun s_ w' => (w'.cell? ⟨l, 0, none⟩ = some (.int .i64 p1) ∧ w'.cell? ⟨l, 1, none⟩ = some (.int .i64 q1) ∧ w'.cell? ⟨l, 2, none⟩ = some (.int .i64 t1) ∧ w'.cell? ⟨l, 3, none⟩ = some (.int .i64 x1) ∧ w'.cell? ⟨l, 4, none⟩ = some (.int .i64 y1) ∧ w'.cell? ⟨l, 5, none⟩ = some (.int .i64 A1) ∧ w'.cell? ⟨l, 6, none⟩ = some (.int .i64 B1) ∧ w'.cell? ⟨l, 7, none⟩ = some (.int .i64 C1) ∧ w'.cell? ⟨l, 8, none⟩ = some (.int .i64 D1) ∧ w'.cell? ⟨l, 9, none⟩ = some (.int .i64 E1) ∧ w'.cell? ⟨l, 10, none⟩ = some (.int .i64 S0) ∧ w'.cell? ⟨z, 0, none⟩ = some (.slice D2 g1.length E2) ∧ w'.cell? ⟨z, 1, none⟩ = some (.slice F2 i1.length G2) ∧ w'.cell? ⟨z, 2, none⟩ = some (.slice I2 l1.length J2) ∧ w'.cell? ⟨z, 3, none⟩ = some (.int .i64 m1) ∧ w'.cell? ⟨z, 4, none⟩ = some (.int .i64 n1) ∧ w'.cell? ⟨z, 5, none⟩ = some (.int .i64 o1)) ∧ (Kd.R (Kd.int .i64) 3 w' w.heap.size (fun k_ => zo (.slice l0 x.length c0) k_ ∧ zo (.slice m0 y.length d0) k_ ∧ zo (.slice E D0.length I) k_ ∧ zo (.slice J E0.length L) k_ ∧ zo (.slice M F0.length O) k_ ∧ zo (.slice A0 U.length t0) k_ ∧ zo (.slice B0 X.length x0) k_ ∧ zo (.slice C0 a0.length y0) k_) (.slice i0 u.length b0) u) ∧ (Kd.R (Kd.int .i64) 3 w' w.heap.size (fun k_ => zo (.slice i0 u.length b0) k_ ∧ zo (.slice m0 y.length d0) k_ ∧ zo (.slice E D0.length I) k_ ∧ zo (.slice J E0.length L) k_ ∧ zo (.slice M F0.length O) k_ ∧ zo (.slice A0 U.length t0) k_ ∧ zo (.slice B0 X.length x0) k_ ∧ zo (.slice C0 a0.length y0) k_) (.slice l0 x.length c0) x) ∧ (Kd.R (Kd.int .i64) 3 w' w.heap.size (fun k_ => zo (.slice i0 u.length b0) k_ ∧ zo (.slice l0 x.length c0) k_ ∧ zo (.slice E D0.length I) k_ ∧ zo (.slice J E0.length L) k_ ∧ zo (.slice M F0.length O) k_ ∧ zo (.slice A0 U.length t0) k_ ∧ zo (.slice B0 X.length x0) k_ ∧ zo (.slice C0 a0.length y0) k_) (.slice m0 y.length d0) y) ∧ (Kd.R (Kd.int .i64) 3 w' w.heap.size (fun k_ => zo (.slice i0 u.length b0) k_ ∧ zo (.slice l0 x.length c0) k_ ∧ zo (.slice m0 y.length d0) k_ ∧ zo (.slice J E0.length L) k_ ∧ zo (.slice M F0.length O) k_ ∧ zo (.slice A0 U.length t0) k_ ∧ zo (.slice B0 X.length x0) k_ ∧ zo (.slice C0 a0.length y0) k_) (.slice E D0.length I) D0) ∧ (Kd.R (Kd.int .i64) 3 w' w.heap.size (fun k_ => zo (.slice i0 u.length b0) k_ ∧ zo (.slice l0 x.length c0) k_ ∧ zo (.slice m0 y.length d0) k_ ∧ zo (.slice E D0.length I) k_ ∧ zo (.slice M F0.length O) k_ ∧ zo (.slice A0 U.length t0) k_ ∧ zo (.slice B0 X.length x0) k_ ∧ zo (.slice C0 a0.length y0) k_) (.slice J E0.length L) E0) ∧ (Kd.R (Kd.int .i64) 3 w' w.heap.size (fun k_ => zo (.slice i0 u.length b0) k_ ∧ zo (.slice l0 x.length c0) k_ ∧ zo (.slice m0 y.length d0) k_ ∧ zo (.slice E D0.length I) k_ ∧ zo (.slice J E0.length L) k_ ∧ zo (.slice A0 U.length t0) k_ ∧ zo (.slice B0 X.length x0) k_ ∧ zo (.slice C0 a0.length y0) k_) (.slice M F0.length O) F0) ∧ (Kd.R (Kd.int .i64) 3 w' w.heap.size (fun k_ => zo (.slice i0 u.length b0) k_ ∧ zo (.slice l0 x.length c0) k_ ∧ zo (.slice m0 y.length d0) k_ ∧ zo (.slice E D0.length I) k_ ∧ zo (.slice J E0.length L) k_ ∧ zo (.slice M F0.length O) k_ ∧ zo (.slice B0 X.length x0) k_ ∧ zo (.slice C0 a0.length y0) k_) (.slice A0 U.length t0) L4) ∧ (Kd.R (Kd.int .i64) 3 w' w.heap.size (fun k_ => zo (.slice i0 u.length b0) k_ ∧ zo (.slice l0 x.length c0) k_ ∧ zo (.slice m0 y.length d0) k_ ∧ zo (.slice E D0.length I) k_ ∧ zo (.slice J E0.length L) k_ ∧ zo (.slice M F0.length O) k_ ∧ zo (.slice A0 U.length t0) k_ ∧ zo (.slice C0 a0.length y0) k_) (.slice B0 X.length x0) M4) ∧ (Kd.R (Kd.int .i64) 3 w' w.heap.size (fun k_ => zo (.slice i0 u.length b0) k_ ∧ zo (.slice l0 x.length c0) k_ ∧ zo (.slice m0 y.length d0) k_ ∧ zo (.slice E D0.length I) k_ ∧ zo (.slice J E0.length L) k_ ∧ zo (.slice M F0.length O) k_ ∧ zo (.slice A0 U.length t0) k_ ∧ zo (.slice B0 X.length x0) k_) (.slice C0 a0.length y0) N4) ∧ (w'.heap[l]? = some (.cells #[.int .i64 p1, .int .i64 q1, .int .i64 t1, .int .i64 x1, .int .i64 y1, .int .i64 A1, .int .i64 B1, .int .i64 C1, .int .i64 D1, .int .i64 E1, .int .i64 S0] 25 (0, 0))) ∧ (w'.heap[z]? = some (.cells #[.slice D2 g1.length E2, .slice F2 i1.length G2, .slice I2 l1.length J2, .int .i64 m1, .int .i64 n1, .int .i64 o1] 28 (0, 0))) ∧ (w'.heap[I0]? = some (.cells #[.slice i0 u.length b0, .slice l0 x.length c0, .slice m0 y.length d0, .int .i64 c3, .int .i64 d3, .int .i64 e3] 30 (0, 0))) ∧ (w'.heap[C2]? = some (.cells #[.slice E D0.length I, .slice J E0.length L, .slice M F0.length O, .int .i64 N3, .int .i64 O3, .int .i64 R3] 30 (0, 0))) ∧ (w'.heap[M0]? = some (.cells #[.slice A0 U.length t0, .slice B0 X.length x0, .slice C0 a0.length y0, .int .i64 o3, .int .i64 p3, .int .i64 q3] 30 (0, 0))) ∧ (w'.heap[s_]? = some (.cells #[.slice none 0 0, .slice none 0 0, .slice none 0 0, .int .i64 0, .int .i64 0, .int .i64 0] 30 (0, 0))) ∧ (w.heap.size ≤ s_) ∧ (w.heap.size ≤ s_) ∧ (l ≠ s_) ∧ (s_ ≠ l) ∧ (z ≠ s_) ∧ (s_ ≠ z) ∧ (I0 ≠ s_) ∧ (s_ ≠ I0) ∧ (C2 ≠ s_) ∧ (s_ ≠ C2) ∧ (M0 ≠ s_) ∧ (s_ ≠ M0) ∧ (Below w.heap.size w w')) ?_ ?_
                  rotate_left
                  · as_aux_lemma =>
                    intro hJ10
                    refine two_ (i := 1) (j := 10) (Ni := some 100) (Nj := some 17) (bl 13 23) (bl 13 1045) rfl rfl rfl rfl (two_of HT_.out (by kernel_rfl)) (by decide) (by decide) (fun K hK => ?_) (fun K hK => ?_)
                    · as_aux_lemma =>
                      skip
                      refine goes_ Try.func9 (by kernel_rfl) rfl #[.agg #[.int .i64 p1, .int .i64 q1, .int .i64 t1, .int .i64 x1, .int .i64 y1, .int .i64 A1, .int .i64 B1, .int .i64 C1, .int .i64 D1, .int .i64 E1, .int .i64 S0]] (by rfl) rfl rfl zL ?_
                      with_reducible refine (laws_toRule.calls p1 q1 t1 x1 y1 A1 B1 C1 D1 E1 S0 f7 g7 i7 j7 l7 m7 n7 o7 p7 q7 t7 _ t9.out).mono ?_
                      rintro e b6f ⟨rfl, hb⟩
                      refine ⟨_, rfl, ?_⟩
                      have R1 := zK (Kd.R_below (zkR o0) hb)
                      have S1 := zK (Kd.R_below (zkR p0) hb)
                      have T1 := zK (Kd.R_below (zkR q0) hb)
                      have a2 := zK (Kd.R_below (zkR e0) hb)
                      have b2 := zK (Kd.R_below (zkR f0) hb)
                      have d2 := zK (Kd.R_below (zkR g0) hb)
                      have i2 := zK (Kd.R_below (zkR A) hb)
                      have m2 := zK (Kd.R_below (zkR B) hb)
                      have t2 := zK (Kd.R_below (zkR D) hb)
                      have x2 := z7 a hb
                      have O1 := z7 q hb
                      have U1 := z7 n0 hb
                      have V1 := z7 T hb
                      have X1 := z7 G0 hb
                      have g2 := z8 hb
                      revert R1 S1 T1 a2 b2 d2 i2 m2 t2 x2 O1 U1 V1 X1 g2
                      clear o0 p0 q0 e0 f0 g0 A B D a q n0 T G0 HB
                      intro o0 p0 q0 e0 f0 g0 A B D a q n0 T G0 HB
                      (try clear hb)
                      (try clear hb2)
                      (try clear hk)
                      (try clear hi)
                      refine hK.out _ _ ⟨zy a 0, zy a 1, zy a 2, zy a 3, zy a 4, zy a 5, zy a 6, zy a 7, zy a 8, zy a 9, zy a 10, zy q 0, zy q 1, zy q 2, zy q 3, zy q 4, zy q 5⟩ (fun hHeld => ?_)
                      clear hK K
                      refine zU 100 ?_
                      exact norm_ (by first | (simp only [putAll, Act.put, zq1, zq2, zq3]; done) | (simp only [putAll, Act.put, zq1, zq2, zq3]; rfl)) (hJ1 () _ ⟨hHeld, (zkR o0), (zkR p0), (zkR q0), (zkR e0), (zkR f0), (zkR g0), (zkR A), (zkR B), (zkR D), (zM a), (zM q), (zM n0), (zM T), (zM G0), zB⟩)
                    · as_aux_lemma =>
                      skip
                      refine box_step ?hg (N := 17) ?hd (cs := #[.slice none 0 0, .slice none 0 0, .slice none 0 0, .int .i64 0, .int .i64 0, .int .i64 0]) (t := 30) ?hr ?_; (case hd => rfl); (case hg => rfl); (case hr => first | (go_simp; done) | (go_simp; rfl))
                      intro J0 hg b6f hbox hb
                      have R1 := zK (Kd.R_below (zkR o0) hb)
                      have S1 := zK (Kd.R_below (zkR p0) hb)
                      have T1 := zK (Kd.R_below (zkR q0) hb)
                      have a2 := zK (Kd.R_below (zkR e0) hb)
                      have b2 := zK (Kd.R_below (zkR f0) hb)
                      have d2 := zK (Kd.R_below (zkR g0) hb)
                      have i2 := zK (Kd.R_below (zkR A) hb)
                      have m2 := zK (Kd.R_below (zkR B) hb)
                      have t2 := zK (Kd.R_below (zkR D) hb)
                      have x2 := z7 a hb
                      have O1 := z7 q hb
                      have U1 := z7 n0 hb
                      have V1 := z7 T hb
                      have X1 := z7 G0 hb
                      have g2 := z8 hb
                      have B2 := zK (hbox)
                      have L2 := z9 hg
                      have V2 := z9 hg
                      have b3 := zHH hg a
                      have G3 := zGG hg a
                      have p4 := zHH hg q
                      have q4 := zGG hg q
                      have V4 := zHH hg n0
                      have J5 := zGG hg n0
                      have L5 := zHH hg T
                      have M5 := zGG hg T
                      have N5 := zHH hg G0
                      have f6 := zGG hg G0
                      revert R1 S1 T1 a2 b2 d2 i2 m2 t2 x2 O1 U1 V1 X1 g2 B2 L2 V2 b3 G3 p4 q4 V4 J5 L5 M5 N5 f6
                      clear o0 p0 q0 e0 f0 g0 A B D a q n0 T G0 HB
                      intro o0 p0 q0 e0 f0 g0 A B D a q n0 T G0 HB F1 j6 l6 N0 A3 b1 B3 C3 D3 E3 F3 x3 y3
                      clear hb hbox hg
                      refine hK.out _ _ ⟨zy a 0, zy a 1, zy a 2, zy a 3, zy a 4, zy a 5, zy a 6, zy a 7, zy a 8, zy a 9, zy a 10, zy q 0, zy q 1, zy q 2, zy q 3, zy q 4, zy q 5⟩ (fun hHeld => ?_)
                      clear hK K
                      refine zU 17 ?_
                      exact norm_ (by first | (simp only [putAll, Act.put, zq1, zq2, zq3]; done) | (simp only [putAll, Act.put, zq1, zq2, zq3]; rfl)) (hJ10 (J0) _ ⟨hHeld, (zkR o0), (zkR p0), (zkR q0), (zkR e0), (zkR f0), (zkR g0), (zkR A), (zkR B), (zkR D), (zM a), (zM q), (zM n0), (zM T), (zM G0), (zM F1), j6.out, l6.out, N0.out, A3.out, b1.out, B3.out, C3.out, D3.out, E3.out, F3.out, x3.out, y3.out, zB⟩)
                  · as_aux_lemma =>
                    skip
                    rintro J0 t3 ⟨hS_, a4, b4, d4, m4, n4, o4, F4, R4, S4, T4, C4, D4, E4, U4, c5, f5, g5, U5, g6, x6, y6, A6, E6, F6, G6, I6, J6, L6⟩
                    try dsimp only at hS_ a4 b4 d4 m4 n4 o4 F4 R4 S4 T4 C4 D4 E4 U4 c5 f5 g5 U5 g6 x6 y6 A6 E6 F6 G6 I6 J6 L6
                    have R1 := zK a4
                    have S1 := zK b4
                    have T1 := zK d4
                    have a2 := zK m4
                    have b2 := zK n4
                    have d2 := zK o4
                    have i2 := zK F4
                    have m2 := zK R4
                    have t2 := zK S4
                    have x2 := zK T4
                    have O1 := zK C4
                    have U1 := zK D4
                    have V1 := zK E4
                    have X1 := zK U4
                    have g2 := zK c5
                    have B2 := zK f5
                    have L2 := zK g5
                    have V2 := zK U5
                    have b3 := zK g6
                    have G3 := zK x6
                    have p4 := zK y6
                    have q4 := zK A6
                    have V4 := zK E6
                    have J5 := zK F6
                    have L5 := zK G6
                    have M5 := zK I6
                    have N5 := zK J6
                    have f6 := zK L6
                    clear o0
                    clear p0
                    clear q0
                    clear e0
                    clear f0
                    clear g0
                    clear A
                    clear B
                    clear D
                    clear a
                    clear q
                    clear n0
                    clear T
                    clear G0
                    clear HB
                    clear a4 b4 d4 m4 n4 o4 F4 R4 S4 T4 C4 D4 E4 U4 c5 f5 g5 U5 g6 x6 y6 A6 E6 F6 G6 I6 J6 L6
                    revert R1 S1 T1 a2 b2 d2 i2 m2 t2 x2 O1 U1 V1 X1 g2 B2 L2 V2 b3 G3 p4 q4 V4 J5 L5 M5 N5 f6
                    intro o0 p0 q0 e0 f0 g0 A B D a q n0 T G0 F1 j6 l6 N0 A3 b1 B3 C3 D3 E3 F3 x3 y3 HB
                    have hHeld := hS_
                    refine norm_ (a' := ?_) ?_ ?_
                    rotate_left
                    · simp only [putAll, Act.put, zq1, zq2, zq3]
                      rfl
                    refine one_ (i := 1) (N := some 100) (bl 13 1047) rfl rfl (one_of HT_.out (by kernel_rfl)) (by decide) (fun K hK => ?_)
                    refine goes_ Try.func9 (by kernel_rfl) rfl #[.agg #[.int .i64 p1, .int .i64 q1, .int .i64 t1, .int .i64 x1, .int .i64 y1, .int .i64 A1, .int .i64 B1, .int .i64 C1, .int .i64 D1, .int .i64 E1, .int .i64 S0]] (by rfl) rfl rfl zL ?_
                    with_reducible refine (laws_toRule.calls p1 q1 t1 x1 y1 A1 B1 C1 D1 E1 S0 f7 g7 i7 j7 l7 m7 n7 o7 p7 q7 t7 _ t9.out).mono ?_
                    rintro e f3 ⟨rfl, hb⟩
                    refine ⟨_, rfl, ?_⟩
                    have R1 := zK (Kd.R_below (zkR o0) hb)
                    have S1 := zK (Kd.R_below (zkR p0) hb)
                    have T1 := zK (Kd.R_below (zkR q0) hb)
                    have a2 := zK (Kd.R_below (zkR e0) hb)
                    have b2 := zK (Kd.R_below (zkR f0) hb)
                    have d2 := zK (Kd.R_below (zkR g0) hb)
                    have i2 := zK (Kd.R_below (zkR A) hb)
                    have m2 := zK (Kd.R_below (zkR B) hb)
                    have t2 := zK (Kd.R_below (zkR D) hb)
                    have x2 := z7 a hb
                    have O1 := z7 q hb
                    have U1 := z7 n0 hb
                    have V1 := z7 T hb
                    have X1 := z7 G0 hb
                    have g2 := z7 F1 hb
                    have B2 := z8 hb
                    revert R1 S1 T1 a2 b2 d2 i2 m2 t2 x2 O1 U1 V1 X1 g2 B2
                    clear o0 p0 q0 e0 f0 g0 A B D a q n0 T G0 F1 HB
                    intro o0 p0 q0 e0 f0 g0 A B D a q n0 T G0 F1 HB
                    (try clear hb)
                    (try clear hb2)
                    (try clear hk)
                    (try clear hi)
                    refine hK.out _ _ ⟨zy a 0, zy a 1, zy a 2, zy a 3, zy a 4, zy a 5, zy a 6, zy a 7, zy a 8, zy a 9, zy a 10, zy q 0, zy q 1, zy q 2, zy q 3, zy q 4, zy q 5⟩ (fun hHeld => ?_)
                    clear hK K
                    refine zU 100 ?_
                    exact norm_ (by first | (simp only [putAll, Act.put, zq1, zq2, zq3]; done) | (simp only [putAll, Act.put, zq1, zq2, zq3]; rfl)) (hJ1_10 (J0) _ ⟨hHeld, (zkR o0), (zkR p0), (zkR q0), (zkR e0), (zkR f0), (zkR g0), (zkR A), (zkR B), (zkR D), (zM a), (zM q), (zM n0), (zM T), (zM G0), (zM F1), j6.out, l6.out, N0.out, A3.out, b1.out, B3.out, C3.out, D3.out, E3.out, F3.out, x3.out, y3.out, zB⟩)
                · as_aux_lemma =>
                  skip
                  rintro _ t3 ⟨hS_, a4, b4, d4, m4, n4, o4, F4, R4, S4, T4, C4, D4, E4, U4, c5⟩
                  try dsimp only at hS_ a4 b4 d4 m4 n4 o4 F4 R4 S4 T4 C4 D4 E4 U4 c5
                  have R1 := zK a4
                  have S1 := zK b4
                  have T1 := zK d4
                  have a2 := zK m4
                  have b2 := zK n4
                  have d2 := zK o4
                  have i2 := zK F4
                  have m2 := zK R4
                  have t2 := zK S4
                  have x2 := zK T4
                  have O1 := zK C4
                  have U1 := zK D4
                  have V1 := zK E4
                  have X1 := zK U4
                  have g2 := zK c5
                  clear o0
                  clear p0
                  clear q0
                  clear e0
                  clear f0
                  clear g0
                  clear A
                  clear B
                  clear D
                  clear a
                  clear q
                  clear n0
                  clear T
                  clear G0
                  clear HB
                  clear a4 b4 d4 m4 n4 o4 F4 R4 S4 T4 C4 D4 E4 U4 c5
                  revert R1 S1 T1 a2 b2 d2 i2 m2 t2 x2 O1 U1 V1 X1 g2
                  intro o0 p0 q0 e0 f0 g0 A B D a q n0 T G0 HB
                  have hHeld := hS_
                  refine norm_ (a' := ?_) ?_ ?_
                  rotate_left
                  · simp only [putAll, Act.put, zq1, zq2, zq3]
                    rfl
                  refine two_ (i := 3) (j := 10) (Ni := some 102) (Nj := some 17) (bl 13 31) (bl 13 1047) rfl rfl rfl rfl (two_of HT_.out (by kernel_rfl)) (by decide) (by decide) (fun K hK => ?_) (fun K hK => ?_)
                  · as_aux_lemma =>
                    skip
                    refine goes_ Try.func10 (by kernel_rfl) rfl #[.agg #[.slice D2 g1.length E2, .slice F2 i1.length G2, .slice I2 l1.length J2, .int .i64 m1, .int .i64 n1, .int .i64 o1]] (by rfl) rfl rfl zL ?_
                    refine (laws_toOpt.calls j4 _ _ g1 _ _ i1 _ _ l1 m1 n1 o1 n6 o6 p6 T7 U7 V7 _ (zS y8) A8.out (zS B8) C8.out (zS D8) E8.out b2z.out).mono ?_
                    rintro e f3 ⟨v508, v511, v514, rfl, T0, e2, f2, hb⟩
                    refine ⟨_, rfl, ?_⟩
                    have R1 := zK (Kd.R_mono (Kd.R_told (Kd.R_told (Kd.R_told (Kd.R_old (zkR o0) hb) (Kd.R_base T0)) (Kd.R_base e2)) (Kd.R_base f2)) (fun _ h_ => h_.1))
                    have S1 := zK (Kd.R_mono (Kd.R_told (Kd.R_told (Kd.R_told (Kd.R_old (zkR p0) hb) (Kd.R_base T0)) (Kd.R_base e2)) (Kd.R_base f2)) (fun _ h_ => h_.1))
                    have T1 := zK (Kd.R_mono (Kd.R_told (Kd.R_told (Kd.R_told (Kd.R_old (zkR q0) hb) (Kd.R_base T0)) (Kd.R_base e2)) (Kd.R_base f2)) (fun _ h_ => h_.1))
                    have a2 := zK (Kd.R_mono (Kd.R_told (Kd.R_told (Kd.R_told (Kd.R_old (zkR e0) hb) (Kd.R_base T0)) (Kd.R_base e2)) (Kd.R_base f2)) (fun _ h_ => h_.1))
                    have b2 := zK (Kd.R_mono (Kd.R_told (Kd.R_told (Kd.R_told (Kd.R_old (zkR f0) hb) (Kd.R_base T0)) (Kd.R_base e2)) (Kd.R_base f2)) (fun _ h_ => h_.1))
                    have d2 := zK (Kd.R_mono (Kd.R_told (Kd.R_told (Kd.R_told (Kd.R_old (zkR g0) hb) (Kd.R_base T0)) (Kd.R_base e2)) (Kd.R_base f2)) (fun _ h_ => h_.1))
                    have i2 := zK (Kd.R_mono (Kd.R_told (Kd.R_told (Kd.R_told (Kd.R_old (zkR A) hb) (Kd.R_base T0)) (Kd.R_base e2)) (Kd.R_base f2)) (fun _ h_ => h_.1))
                    have m2 := zK (Kd.R_mono (Kd.R_told (Kd.R_told (Kd.R_told (Kd.R_old (zkR B) hb) (Kd.R_base T0)) (Kd.R_base e2)) (Kd.R_base f2)) (fun _ h_ => h_.1))
                    have t2 := zK (Kd.R_mono (Kd.R_told (Kd.R_told (Kd.R_told (Kd.R_old (zkR D) hb) (Kd.R_base T0)) (Kd.R_base e2)) (Kd.R_base f2)) (fun _ h_ => h_.1))
                    have x2 := zK (Kd.R_lower (Kd.R_new' (Kd.R_new' (Kd.R_new' (Kd.R_new' (Kd.R_new' (Kd.R_new' (Kd.R_new' (Kd.R_new' (Kd.R_new' T0 (Kd.R_lt (zkR o0))) (Kd.R_lt (zkR p0))) (Kd.R_lt (zkR q0))) (Kd.R_lt (zkR e0))) (Kd.R_lt (zkR f0))) (Kd.R_lt (zkR g0))) (Kd.R_lt (zkR A))) (Kd.R_lt (zkR B))) (Kd.R_lt (zkR D))) (zz zB))
                    have O1 := zK (Kd.R_lower (Kd.R_new' (Kd.R_new' (Kd.R_new' (Kd.R_new' (Kd.R_new' (Kd.R_new' (Kd.R_new' (Kd.R_new' (Kd.R_new' e2 (Kd.R_lt (zkR o0))) (Kd.R_lt (zkR p0))) (Kd.R_lt (zkR q0))) (Kd.R_lt (zkR e0))) (Kd.R_lt (zkR f0))) (Kd.R_lt (zkR g0))) (Kd.R_lt (zkR A))) (Kd.R_lt (zkR B))) (Kd.R_lt (zkR D))) (zz zB))
                    have U1 := zK (Kd.R_lower (Kd.R_new' (Kd.R_new' (Kd.R_new' (Kd.R_new' (Kd.R_new' (Kd.R_new' (Kd.R_new' (Kd.R_new' (Kd.R_new' f2 (Kd.R_lt (zkR o0))) (Kd.R_lt (zkR p0))) (Kd.R_lt (zkR q0))) (Kd.R_lt (zkR e0))) (Kd.R_lt (zkR f0))) (Kd.R_lt (zkR g0))) (Kd.R_lt (zkR A))) (Kd.R_lt (zkR B))) (Kd.R_lt (zkR D))) (zz zB))
                    have V1 := z7 a hb
                    have X1 := z7 q hb
                    have g2 := z7 n0 hb
                    have B2 := z7 T hb
                    have L2 := z7 G0 hb
                    have V2 := z8 hb
                    revert R1 S1 T1 a2 b2 d2 i2 m2 t2 x2 O1 U1 V1 X1 g2 B2 L2 V2
                    clear o0 p0 q0 e0 f0 g0 A B D a q n0 T G0 HB
                    intro o0 p0 q0 e0 f0 g0 A B D i3 j3 l3 a q n0 T G0 HB
                    (try clear hb)
                    (try clear hb2)
                    (try clear hk)
                    (try clear hi)
                    (try clear T0)
                    (try clear e2)
                    (try clear f2)
                    refine hK.out _ _ ⟨zy a 0, zy a 1, zy a 2, zy a 3, zy a 4, zy a 5, zy a 6, zy a 7, zy a 8, zy a 9, zy a 10, zy q 0, zy q 1, zy q 2, zy q 3, zy q 4, zy q 5⟩ (fun hHeld => ?_)
                    clear hK K
                    refine zU 102 ?_
                    exact norm_ (by first | (simp only [putAll, Act.put, zq1, zq2, zq3]; done) | (simp only [putAll, Act.put, zq1, zq2, zq3]; rfl)) (hJ1_3 (v508, v511, v514) _ ⟨hHeld, (zkM (zlR i3.out)), (zkM (zlR j3.out)), (zkM (zlR l3.out)), (zkM (zlR o0.out)), (zkM (zlR p0.out)), (zkM (zlR q0.out)), (zkM (zlR e0.out)), (zkM (zlR f0.out)), (zkM (zlR g0.out)), (zkM (zlR A.out)), (zkM (zlR B.out)), (zkM (zlR D.out)), (zM a), (zM q), (zM n0), (zM T), (zM G0), zB⟩)
                  · as_aux_lemma =>
                    skip
                    refine box_step ?hg (N := 17) ?hd (cs := #[.slice none 0 0, .slice none 0 0, .slice none 0 0, .int .i64 0, .int .i64 0, .int .i64 0]) (t := 30) ?hr ?_; (case hd => rfl); (case hg => rfl); (case hr => first | (go_simp; done) | (go_simp; rfl))
                    intro J0 hg f3 hbox hb
                    have R1 := zK (Kd.R_below (zkR o0) hb)
                    have S1 := zK (Kd.R_below (zkR p0) hb)
                    have T1 := zK (Kd.R_below (zkR q0) hb)
                    have a2 := zK (Kd.R_below (zkR e0) hb)
                    have b2 := zK (Kd.R_below (zkR f0) hb)
                    have d2 := zK (Kd.R_below (zkR g0) hb)
                    have i2 := zK (Kd.R_below (zkR A) hb)
                    have m2 := zK (Kd.R_below (zkR B) hb)
                    have t2 := zK (Kd.R_below (zkR D) hb)
                    have x2 := z7 a hb
                    have O1 := z7 q hb
                    have U1 := z7 n0 hb
                    have V1 := z7 T hb
                    have X1 := z7 G0 hb
                    have g2 := z8 hb
                    have B2 := zK (hbox)
                    have L2 := z9 hg
                    have V2 := z9 hg
                    have b3 := zHH hg a
                    have G3 := zGG hg a
                    have p4 := zHH hg q
                    have q4 := zGG hg q
                    have V4 := zHH hg n0
                    have J5 := zGG hg n0
                    have L5 := zHH hg T
                    have M5 := zGG hg T
                    have N5 := zHH hg G0
                    have f6 := zGG hg G0
                    revert R1 S1 T1 a2 b2 d2 i2 m2 t2 x2 O1 U1 V1 X1 g2 B2 L2 V2 b3 G3 p4 q4 V4 J5 L5 M5 N5 f6
                    clear o0 p0 q0 e0 f0 g0 A B D a q n0 T G0 HB
                    intro o0 p0 q0 e0 f0 g0 A B D a q n0 T G0 HB F1 j6 l6 N0 A3 b1 B3 C3 D3 E3 F3 x3 y3
                    clear hb hbox hg
                    refine hK.out _ _ ⟨zy a 0, zy a 1, zy a 2, zy a 3, zy a 4, zy a 5, zy a 6, zy a 7, zy a 8, zy a 9, zy a 10, zy q 0, zy q 1, zy q 2, zy q 3, zy q 4, zy q 5⟩ (fun hHeld => ?_)
                    clear hK K
                    refine zU 17 ?_
                    exact norm_ (by first | (simp only [putAll, Act.put, zq1, zq2, zq3]; done) | (simp only [putAll, Act.put, zq1, zq2, zq3]; rfl)) (hJ1_10 (J0) _ ⟨hHeld, (zkR o0), (zkR p0), (zkR q0), (zkR e0), (zkR f0), (zkR g0), (zkR A), (zkR B), (zkR D), (zM a), (zM q), (zM n0), (zM T), (zM G0), (zM F1), j6.out, l6.out, N0.out, A3.out, b1.out, B3.out, C3.out, D3.out, E3.out, F3.out, x3.out, y3.out, zB⟩)
              · as_aux_lemma =>
                skip
                rintro J0 f3 ⟨hS_, a4, b4, d4, m4, n4, o4, F4, R4, S4, T4, C4, D4, E4, U4, c5, f5, g5, U5, g6, x6, y6, A6, E6, F6, G6, I6, J6, L6⟩
                try dsimp only at hS_ a4 b4 d4 m4 n4 o4 F4 R4 S4 T4 C4 D4 E4 U4 c5 f5 g5 U5 g6 x6 y6 A6 E6 F6 G6 I6 J6 L6
                have R1 := zK a4
                have S1 := zK b4
                have T1 := zK d4
                have a2 := zK m4
                have b2 := zK n4
                have d2 := zK o4
                have i2 := zK F4
                have m2 := zK R4
                have t2 := zK S4
                have x2 := zK T4
                have O1 := zK C4
                have U1 := zK D4
                have V1 := zK E4
                have X1 := zK U4
                have g2 := zK c5
                have B2 := zK f5
                have L2 := zK g5
                have V2 := zK U5
                have b3 := zK g6
                have G3 := zK x6
                have p4 := zK y6
                have q4 := zK A6
                have V4 := zK E6
                have J5 := zK F6
                have L5 := zK G6
                have M5 := zK I6
                have N5 := zK J6
                have f6 := zK L6
                clear o0
                clear p0
                clear q0
                clear e0
                clear f0
                clear g0
                clear A
                clear B
                clear D
                clear a
                clear q
                clear n0
                clear T
                clear G0
                clear HB
                clear a4 b4 d4 m4 n4 o4 F4 R4 S4 T4 C4 D4 E4 U4 c5 f5 g5 U5 g6 x6 y6 A6 E6 F6 G6 I6 J6 L6
                revert R1 S1 T1 a2 b2 d2 i2 m2 t2 x2 O1 U1 V1 X1 g2 B2 L2 V2 b3 G3 p4 q4 V4 J5 L5 M5 N5 f6
                intro o0 p0 q0 e0 f0 g0 A B D a q n0 T G0 F1 j6 l6 N0 A3 b1 B3 C3 D3 E3 F3 x3 y3 HB
                have hHeld := hS_
                refine norm_ (a' := ?_) ?_ ?_
                rotate_left
                · simp only [putAll, Act.put, zq1, zq2, zq3]
                  rfl
                refine one_ (i := 3) (N := some 102) (bl 13 1055) rfl rfl (one_of HT_.out (by kernel_rfl)) (by decide) (fun K hK => ?_)
                refine goes_ Try.func10 (by kernel_rfl) rfl #[.agg #[.slice D2 g1.length E2, .slice F2 i1.length G2, .slice I2 l1.length J2, .int .i64 m1, .int .i64 n1, .int .i64 o1]] (by rfl) rfl rfl zL ?_
                refine (laws_toOpt.calls j4 _ _ g1 _ _ i1 _ _ l1 m1 n1 o1 n6 o6 p6 T7 U7 V7 _ (zS y8) A8.out (zS B8) C8.out (zS D8) E8.out b2z.out).mono ?_
                rintro e X2 ⟨v508, v511, v514, rfl, T0, e2, f2, hb⟩
                refine ⟨_, rfl, ?_⟩
                have R1 := zK (Kd.R_mono (Kd.R_told (Kd.R_told (Kd.R_told (Kd.R_old (zkR o0) hb) (Kd.R_base T0)) (Kd.R_base e2)) (Kd.R_base f2)) (fun _ h_ => h_.1))
                have S1 := zK (Kd.R_mono (Kd.R_told (Kd.R_told (Kd.R_told (Kd.R_old (zkR p0) hb) (Kd.R_base T0)) (Kd.R_base e2)) (Kd.R_base f2)) (fun _ h_ => h_.1))
                have T1 := zK (Kd.R_mono (Kd.R_told (Kd.R_told (Kd.R_told (Kd.R_old (zkR q0) hb) (Kd.R_base T0)) (Kd.R_base e2)) (Kd.R_base f2)) (fun _ h_ => h_.1))
                have a2 := zK (Kd.R_mono (Kd.R_told (Kd.R_told (Kd.R_told (Kd.R_old (zkR e0) hb) (Kd.R_base T0)) (Kd.R_base e2)) (Kd.R_base f2)) (fun _ h_ => h_.1))
                have b2 := zK (Kd.R_mono (Kd.R_told (Kd.R_told (Kd.R_told (Kd.R_old (zkR f0) hb) (Kd.R_base T0)) (Kd.R_base e2)) (Kd.R_base f2)) (fun _ h_ => h_.1))
                have d2 := zK (Kd.R_mono (Kd.R_told (Kd.R_told (Kd.R_told (Kd.R_old (zkR g0) hb) (Kd.R_base T0)) (Kd.R_base e2)) (Kd.R_base f2)) (fun _ h_ => h_.1))
                have i2 := zK (Kd.R_mono (Kd.R_told (Kd.R_told (Kd.R_told (Kd.R_old (zkR A) hb) (Kd.R_base T0)) (Kd.R_base e2)) (Kd.R_base f2)) (fun _ h_ => h_.1))
                have m2 := zK (Kd.R_mono (Kd.R_told (Kd.R_told (Kd.R_told (Kd.R_old (zkR B) hb) (Kd.R_base T0)) (Kd.R_base e2)) (Kd.R_base f2)) (fun _ h_ => h_.1))
                have t2 := zK (Kd.R_mono (Kd.R_told (Kd.R_told (Kd.R_told (Kd.R_old (zkR D) hb) (Kd.R_base T0)) (Kd.R_base e2)) (Kd.R_base f2)) (fun _ h_ => h_.1))
                have x2 := zK (Kd.R_lower (Kd.R_new' (Kd.R_new' (Kd.R_new' (Kd.R_new' (Kd.R_new' (Kd.R_new' (Kd.R_new' (Kd.R_new' (Kd.R_new' T0 (Kd.R_lt (zkR o0))) (Kd.R_lt (zkR p0))) (Kd.R_lt (zkR q0))) (Kd.R_lt (zkR e0))) (Kd.R_lt (zkR f0))) (Kd.R_lt (zkR g0))) (Kd.R_lt (zkR A))) (Kd.R_lt (zkR B))) (Kd.R_lt (zkR D))) (zz zB))
                have O1 := zK (Kd.R_lower (Kd.R_new' (Kd.R_new' (Kd.R_new' (Kd.R_new' (Kd.R_new' (Kd.R_new' (Kd.R_new' (Kd.R_new' (Kd.R_new' e2 (Kd.R_lt (zkR o0))) (Kd.R_lt (zkR p0))) (Kd.R_lt (zkR q0))) (Kd.R_lt (zkR e0))) (Kd.R_lt (zkR f0))) (Kd.R_lt (zkR g0))) (Kd.R_lt (zkR A))) (Kd.R_lt (zkR B))) (Kd.R_lt (zkR D))) (zz zB))
                have U1 := zK (Kd.R_lower (Kd.R_new' (Kd.R_new' (Kd.R_new' (Kd.R_new' (Kd.R_new' (Kd.R_new' (Kd.R_new' (Kd.R_new' (Kd.R_new' f2 (Kd.R_lt (zkR o0))) (Kd.R_lt (zkR p0))) (Kd.R_lt (zkR q0))) (Kd.R_lt (zkR e0))) (Kd.R_lt (zkR f0))) (Kd.R_lt (zkR g0))) (Kd.R_lt (zkR A))) (Kd.R_lt (zkR B))) (Kd.R_lt (zkR D))) (zz zB))
                have V1 := z7 a hb
                have X1 := z7 q hb
                have g2 := z7 n0 hb
                have B2 := z7 T hb
                have L2 := z7 G0 hb
                have V2 := z7 F1 hb
                have b3 := z8 hb
                revert R1 S1 T1 a2 b2 d2 i2 m2 t2 x2 O1 U1 V1 X1 g2 B2 L2 V2 b3
                clear o0 p0 q0 e0 f0 g0 A B D a q n0 T G0 F1 HB
                intro o0 p0 q0 e0 f0 g0 A B D i3 j3 l3 a q n0 T G0 F1 HB
                (try clear hb)
                (try clear hb2)
                (try clear hk)
                (try clear hi)
                (try clear T0)
                (try clear e2)
                (try clear f2)
                refine hK.out _ _ ⟨zy a 0, zy a 1, zy a 2, zy a 3, zy a 4, zy a 5, zy a 6, zy a 7, zy a 8, zy a 9, zy a 10, zy q 0, zy q 1, zy q 2, zy q 3, zy q 4, zy q 5⟩ (fun hHeld => ?_)
                clear hK K
                refine zU 102 ?_
                exact norm_ (by first | (simp only [putAll, Act.put, zq1, zq2, zq3]; done) | (simp only [putAll, Act.put, zq1, zq2, zq3]; rfl)) (hJ1_3_10 (v508, v511, v514, J0) _ ⟨hHeld, (zkM (zlR i3.out)), (zkM (zlR j3.out)), (zkM (zlR l3.out)), (zkM (zlR o0.out)), (zkM (zlR p0.out)), (zkM (zlR q0.out)), (zkM (zlR e0.out)), (zkM (zlR f0.out)), (zkM (zlR g0.out)), (zkM (zlR A.out)), (zkM (zlR B.out)), (zkM (zlR D.out)), (zM a), (zM q), (zM n0), (zM T), (zM G0), (zM F1), j6.out, l6.out, N0.out, A3.out, b1.out, B3.out, C3.out, D3.out, E3.out, F3.out, x3.out, y3.out, zB⟩)
            · as_aux_lemma =>
              skip
              rintro ⟨v508, v511, v514⟩ f3 ⟨hS_, a4, b4, d4, m4, n4, o4, F4, R4, S4, T4, C4, D4, E4, U4, c5, f5, g5, U5⟩
              try dsimp only at hS_ a4 b4 d4 m4 n4 o4 F4 R4 S4 T4 C4 D4 E4 U4 c5 f5 g5 U5
              have R1 := zK a4
              have S1 := zK b4
              have T1 := zK d4
              have a2 := zK m4
              have b2 := zK n4
              have d2 := zK o4
              have i2 := zK F4
              have m2 := zK R4
              have t2 := zK S4
              have x2 := zK T4
              have O1 := zK C4
              have U1 := zK D4
              have V1 := zK E4
              have X1 := zK U4
              have g2 := zK c5
              have B2 := zK f5
              have L2 := zK g5
              have V2 := zK U5
              clear o0
              clear p0
              clear q0
              clear e0
              clear f0
              clear g0
              clear A
              clear B
              clear D
              clear a
              clear q
              clear n0
              clear T
              clear G0
              clear HB
              clear a4 b4 d4 m4 n4 o4 F4 R4 S4 T4 C4 D4 E4 U4 c5 f5 g5 U5
              revert R1 S1 T1 a2 b2 d2 i2 m2 t2 x2 O1 U1 V1 X1 g2 B2 L2 V2
              intro i3 j3 l3 o0 p0 q0 e0 f0 g0 A B D a q n0 T G0 HB
              have hHeld := hS_
              refine norm_ (a' := ?_) ?_ ?_
              rotate_left
              · simp only [putAll, Act.put, zq1, zq2, zq3]
                rfl
              refine two_ (i := 5) (j := 10) (Ni := some 104) (Nj := some 17) (bl 13 63) (bl 13 1055) rfl rfl rfl rfl (two_of HT_.out (by kernel_rfl)) (by decide) (by decide) (fun K hK => ?_) (fun K hK => ?_)
              · as_aux_lemma =>
                skip
                refine goes_ Try.func11 (by kernel_rfl) rfl #[.slice A2 l2.length c2] (by rfl) rfl rfl zL ?_
                refine (laws_toIntS.calls j4 _ _ l2 m6 _ (zS U9) V9.out b3a.out).mono ?_
                rintro e X2 ⟨v520, rfl, T0, hb⟩
                refine ⟨_, rfl, ?_⟩
                have R1 := zK (Kd.R_elder' (zkR o0) (Kd.R_base T0) hb)
                have S1 := zK (Kd.R_elder' (zkR p0) (Kd.R_base T0) hb)
                have T1 := zK (Kd.R_elder' (zkR q0) (Kd.R_base T0) hb)
                have a2 := zK (Kd.R_elder' (zkR e0) (Kd.R_base T0) hb)
                have b2 := zK (Kd.R_elder' (zkR f0) (Kd.R_base T0) hb)
                have d2 := zK (Kd.R_elder' (zkR g0) (Kd.R_base T0) hb)
                have i2 := zK (Kd.R_elder' (zkR A) (Kd.R_base T0) hb)
                have m2 := zK (Kd.R_elder' (zkR B) (Kd.R_base T0) hb)
                have t2 := zK (Kd.R_elder' (zkR D) (Kd.R_base T0) hb)
                have x2 := zK (Kd.R_elder' (zkR i3) (Kd.R_base T0) hb)
                have O1 := zK (Kd.R_elder' (zkR j3) (Kd.R_base T0) hb)
                have U1 := zK (Kd.R_elder' (zkR l3) (Kd.R_base T0) hb)
                have V1 := zK (Kd.R_lower (Kd.R_new' (Kd.R_new' (Kd.R_new' (Kd.R_new' (Kd.R_new' (Kd.R_new' (Kd.R_new' (Kd.R_new' (Kd.R_new' (Kd.R_new' (Kd.R_new' (Kd.R_new' T0 (Kd.R_lt (zkR o0))) (Kd.R_lt (zkR p0))) (Kd.R_lt (zkR q0))) (Kd.R_lt (zkR e0))) (Kd.R_lt (zkR f0))) (Kd.R_lt (zkR g0))) (Kd.R_lt (zkR A))) (Kd.R_lt (zkR B))) (Kd.R_lt (zkR D))) (Kd.R_lt (zkR i3))) (Kd.R_lt (zkR j3))) (Kd.R_lt (zkR l3))) (zz zB))
                have X1 := z7 a hb
                have g2 := z7 q hb
                have B2 := z7 n0 hb
                have L2 := z7 T hb
                have V2 := z7 G0 hb
                have b3 := z8 hb
                revert R1 S1 T1 a2 b2 d2 i2 m2 t2 x2 O1 U1 V1 X1 g2 B2 L2 V2 b3
                clear o0 p0 q0 e0 f0 g0 A B D i3 j3 l3 a q n0 T G0 HB
                intro o0 p0 q0 e0 f0 g0 A B D i3 j3 l3 M3 a q n0 T G0 HB
                (try clear hb)
                (try clear hb2)
                (try clear hk)
                (try clear hi)
                (try clear T0)
                refine hK.out _ _ ⟨zy a 0, zy a 1, zy a 2, zy a 3, zy a 4, zy a 5, zy a 6, zy a 7, zy a 8, zy a 9, zy a 10, zy q 0, zy q 1, zy q 2, zy q 3, zy q 4, zy q 5⟩ (fun hHeld => ?_)
                clear hK K
                refine zU 104 ?_
                exact norm_ (by first | (simp only [putAll, Act.put, zq1, zq2, zq3]; done) | (simp only [putAll, Act.put, zq1, zq2, zq3]; rfl)) (hJ1_3_5 (v508, v511, v514, v520) _ ⟨hHeld, (zkM (zlR i3.out)), (zkM (zlR j3.out)), (zkM (zlR l3.out)), (zkM (zlR M3.out)), (zkM (zlR o0.out)), (zkM (zlR p0.out)), (zkM (zlR q0.out)), (zkM (zlR e0.out)), (zkM (zlR f0.out)), (zkM (zlR g0.out)), (zkM (zlR A.out)), (zkM (zlR B.out)), (zkM (zlR D.out)), (zM a), (zM q), (zM n0), (zM T), (zM G0), zB⟩)
              · as_aux_lemma =>
                skip
                refine box_step ?hg (N := 17) ?hd (cs := #[.slice none 0 0, .slice none 0 0, .slice none 0 0, .int .i64 0, .int .i64 0, .int .i64 0]) (t := 30) ?hr ?_; (case hd => rfl); (case hg => rfl); (case hr => first | (go_simp; done) | (go_simp; rfl))
                intro J0 hg X2 hbox hb
                have R1 := zK (Kd.R_below (zkR o0) hb)
                have S1 := zK (Kd.R_below (zkR p0) hb)
                have T1 := zK (Kd.R_below (zkR q0) hb)
                have a2 := zK (Kd.R_below (zkR e0) hb)
                have b2 := zK (Kd.R_below (zkR f0) hb)
                have d2 := zK (Kd.R_below (zkR g0) hb)
                have i2 := zK (Kd.R_below (zkR A) hb)
                have m2 := zK (Kd.R_below (zkR B) hb)
                have t2 := zK (Kd.R_below (zkR D) hb)
                have x2 := zK (Kd.R_below (zkR i3) hb)
                have O1 := zK (Kd.R_below (zkR j3) hb)
                have U1 := zK (Kd.R_below (zkR l3) hb)
                have V1 := z7 a hb
                have X1 := z7 q hb
                have g2 := z7 n0 hb
                have B2 := z7 T hb
                have L2 := z7 G0 hb
                have V2 := z8 hb
                have b3 := zK (hbox)
                have G3 := z9 hg
                have p4 := z9 hg
                have q4 := zHH hg a
                have V4 := zGG hg a
                have J5 := zHH hg q
                have L5 := zGG hg q
                have M5 := zHH hg n0
                have N5 := zGG hg n0
                have f6 := zHH hg T
                have E7 := zGG hg T
                have F7 := zHH hg G0
                have d8 := zGG hg G0
                revert R1 S1 T1 a2 b2 d2 i2 m2 t2 x2 O1 U1 V1 X1 g2 B2 L2 V2 b3 G3 p4 q4 V4 J5 L5 M5 N5 f6 E7 F7 d8
                clear o0 p0 q0 e0 f0 g0 A B D i3 j3 l3 a q n0 T G0 HB
                intro o0 p0 q0 e0 f0 g0 A B D i3 j3 l3 a q n0 T G0 HB F1 j6 l6 N0 A3 b1 B3 C3 D3 E3 F3 x3 y3
                clear hb hbox hg
                refine hK.out _ _ ⟨zy a 0, zy a 1, zy a 2, zy a 3, zy a 4, zy a 5, zy a 6, zy a 7, zy a 8, zy a 9, zy a 10, zy q 0, zy q 1, zy q 2, zy q 3, zy q 4, zy q 5⟩ (fun hHeld => ?_)
                clear hK K
                refine zU 17 ?_
                exact norm_ (by first | (simp only [putAll, Act.put, zq1, zq2, zq3]; done) | (simp only [putAll, Act.put, zq1, zq2, zq3]; rfl)) (hJ1_3_10 (v508, v511, v514, J0) _ ⟨hHeld, (zkR i3), (zkR j3), (zkR l3), (zkR o0), (zkR p0), (zkR q0), (zkR e0), (zkR f0), (zkR g0), (zkR A), (zkR B), (zkR D), (zM a), (zM q), (zM n0), (zM T), (zM G0), (zM F1), j6.out, l6.out, N0.out, A3.out, b1.out, B3.out, C3.out, D3.out, E3.out, F3.out, x3.out, y3.out, zB⟩)
          · as_aux_lemma =>
            skip
            rintro ⟨v508, v511, v514, J0⟩ X2 ⟨hS_, a4, b4, d4, m4, n4, o4, F4, R4, S4, T4, C4, D4, E4, U4, c5, f5, g5, U5, g6, x6, y6, A6, E6, F6, G6, I6, J6, L6, a8, b8, I8⟩
            try dsimp only at hS_ a4 b4 d4 m4 n4 o4 F4 R4 S4 T4 C4 D4 E4 U4 c5 f5 g5 U5 g6 x6 y6 A6 E6 F6 G6 I6 J6 L6 a8 b8 I8
            have R1 := zK a4
            have S1 := zK b4
            have T1 := zK d4
            have a2 := zK m4
            have b2 := zK n4
            have d2 := zK o4
            have i2 := zK F4
            have m2 := zK R4
            have t2 := zK S4
            have x2 := zK T4
            have O1 := zK C4
            have U1 := zK D4
            have V1 := zK E4
            have X1 := zK U4
            have g2 := zK c5
            have B2 := zK f5
            have L2 := zK g5
            have V2 := zK U5
            have b3 := zK g6
            have G3 := zK x6
            have p4 := zK y6
            have q4 := zK A6
            have V4 := zK E6
            have J5 := zK F6
            have L5 := zK G6
            have M5 := zK I6
            have N5 := zK J6
            have f6 := zK L6
            have E7 := zK a8
            have F7 := zK b8
            have d8 := zK I8
            clear o0
            clear p0
            clear q0
            clear e0
            clear f0
            clear g0
            clear A
            clear B
            clear D
            clear a
            clear q
            clear n0
            clear T
            clear G0
            clear HB
            clear a4 b4 d4 m4 n4 o4 F4 R4 S4 T4 C4 D4 E4 U4 c5 f5 g5 U5 g6 x6 y6 A6 E6 F6 G6 I6 J6 L6 a8 b8 I8
            revert R1 S1 T1 a2 b2 d2 i2 m2 t2 x2 O1 U1 V1 X1 g2 B2 L2 V2 b3 G3 p4 q4 V4 J5 L5 M5 N5 f6 E7 F7 d8
            intro i3 j3 l3 o0 p0 q0 e0 f0 g0 A B D a q n0 T G0 F1 j6 l6 N0 A3 b1 B3 C3 D3 E3 F3 x3 y3 HB
            have hHeld := hS_
            refine norm_ (a' := ?_) ?_ ?_
            rotate_left
            · simp only [putAll, Act.put, zq1, zq2, zq3]
              rfl
            refine one_ (i := 5) (N := some 104) (bl 13 1087) rfl rfl (one_of HT_.out (by kernel_rfl)) (by decide) (fun K hK => ?_)
            refine goes_ Try.func11 (by kernel_rfl) rfl #[.slice A2 l2.length c2] (by rfl) rfl rfl zL ?_
            refine (laws_toIntS.calls j4 _ _ l2 m6 _ (zS U9) V9.out b3a.out).mono ?_
            rintro e A4 ⟨v520, rfl, T0, hb⟩
            refine ⟨_, rfl, ?_⟩
            have R1 := zK (Kd.R_elder' (zkR o0) (Kd.R_base T0) hb)
            have S1 := zK (Kd.R_elder' (zkR p0) (Kd.R_base T0) hb)
            have T1 := zK (Kd.R_elder' (zkR q0) (Kd.R_base T0) hb)
            have a2 := zK (Kd.R_elder' (zkR e0) (Kd.R_base T0) hb)
            have b2 := zK (Kd.R_elder' (zkR f0) (Kd.R_base T0) hb)
            have d2 := zK (Kd.R_elder' (zkR g0) (Kd.R_base T0) hb)
            have i2 := zK (Kd.R_elder' (zkR A) (Kd.R_base T0) hb)
            have m2 := zK (Kd.R_elder' (zkR B) (Kd.R_base T0) hb)
            have t2 := zK (Kd.R_elder' (zkR D) (Kd.R_base T0) hb)
            have x2 := zK (Kd.R_elder' (zkR i3) (Kd.R_base T0) hb)
            have O1 := zK (Kd.R_elder' (zkR j3) (Kd.R_base T0) hb)
            have U1 := zK (Kd.R_elder' (zkR l3) (Kd.R_base T0) hb)
            have V1 := zK (Kd.R_lower (Kd.R_new' (Kd.R_new' (Kd.R_new' (Kd.R_new' (Kd.R_new' (Kd.R_new' (Kd.R_new' (Kd.R_new' (Kd.R_new' (Kd.R_new' (Kd.R_new' (Kd.R_new' T0 (Kd.R_lt (zkR o0))) (Kd.R_lt (zkR p0))) (Kd.R_lt (zkR q0))) (Kd.R_lt (zkR e0))) (Kd.R_lt (zkR f0))) (Kd.R_lt (zkR g0))) (Kd.R_lt (zkR A))) (Kd.R_lt (zkR B))) (Kd.R_lt (zkR D))) (Kd.R_lt (zkR i3))) (Kd.R_lt (zkR j3))) (Kd.R_lt (zkR l3))) (zz zB))
            have X1 := z7 a hb
            have g2 := z7 q hb
            have B2 := z7 n0 hb
            have L2 := z7 T hb
            have V2 := z7 G0 hb
            have b3 := z7 F1 hb
            have G3 := z8 hb
            revert R1 S1 T1 a2 b2 d2 i2 m2 t2 x2 O1 U1 V1 X1 g2 B2 L2 V2 b3 G3
            clear o0 p0 q0 e0 f0 g0 A B D i3 j3 l3 a q n0 T G0 F1 HB
            intro o0 p0 q0 e0 f0 g0 A B D i3 j3 l3 M3 a q n0 T G0 F1 HB
            (try clear hb)
            (try clear hb2)
            (try clear hk)
            (try clear hi)
            (try clear T0)
            refine hK.out _ _ ⟨zy a 0, zy a 1, zy a 2, zy a 3, zy a 4, zy a 5, zy a 6, zy a 7, zy a 8, zy a 9, zy a 10, zy q 0, zy q 1, zy q 2, zy q 3, zy q 4, zy q 5⟩ (fun hHeld => ?_)
            clear hK K
            refine zU 104 ?_
            exact norm_ (by first | (simp only [putAll, Act.put, zq1, zq2, zq3]; done) | (simp only [putAll, Act.put, zq1, zq2, zq3]; rfl)) (hJ1_3_5_10 (v508, v511, v514, v520, J0) _ ⟨hHeld, (zkM (zlR i3.out)), (zkM (zlR j3.out)), (zkM (zlR l3.out)), (zkM (zlR M3.out)), (zkM (zlR o0.out)), (zkM (zlR p0.out)), (zkM (zlR q0.out)), (zkM (zlR e0.out)), (zkM (zlR f0.out)), (zkM (zlR g0.out)), (zkM (zlR A.out)), (zkM (zlR B.out)), (zkM (zlR D.out)), (zM a), (zM q), (zM n0), (zM T), (zM G0), (zM F1), j6.out, l6.out, N0.out, A3.out, b1.out, B3.out, C3.out, D3.out, E3.out, F3.out, x3.out, y3.out, zB⟩)
        · as_aux_lemma =>
          skip
          rintro ⟨v508, v511, v514, v520⟩ X2 ⟨hS_, a4, b4, d4, m4, n4, o4, F4, R4, S4, T4, C4, D4, E4, U4, c5, f5, g5, U5, g6⟩
          try dsimp only at hS_ a4 b4 d4 m4 n4 o4 F4 R4 S4 T4 C4 D4 E4 U4 c5 f5 g5 U5 g6
          have R1 := zK a4
          have S1 := zK b4
          have T1 := zK d4
          have a2 := zK m4
          have b2 := zK n4
          have d2 := zK o4
          have i2 := zK F4
          have m2 := zK R4
          have t2 := zK S4
          have x2 := zK T4
          have O1 := zK C4
          have U1 := zK D4
          have V1 := zK E4
          have X1 := zK U4
          have g2 := zK c5
          have B2 := zK f5
          have L2 := zK g5
          have V2 := zK U5
          have b3 := zK g6
          clear o0
          clear p0
          clear q0
          clear e0
          clear f0
          clear g0
          clear A
          clear B
          clear D
          clear a
          clear q
          clear n0
          clear T
          clear G0
          clear HB
          clear a4 b4 d4 m4 n4 o4 F4 R4 S4 T4 C4 D4 E4 U4 c5 f5 g5 U5 g6
          revert R1 S1 T1 a2 b2 d2 i2 m2 t2 x2 O1 U1 V1 X1 g2 B2 L2 V2 b3
          intro i3 j3 l3 M3 o0 p0 q0 e0 f0 g0 A B D a q n0 T G0 HB
          have hHeld := hS_
          obtain ⟨b1b, b1c, b1d⟩ := Kd.R_slice i3.out
          (first | subst b1d | (injection b1d with f1_ f2_ f3_; have f4_ := f1_.symm; have f5_ := f3_.symm; clear f1_ f2_ f3_; subst f4_; subst f5_))
          obtain ⟨U8, V8, X8⟩ := Kd.R_slice j3.out
          (first | subst X8 | (injection X8 with f1_ f2_ f3_; have f4_ := f1_.symm; have f5_ := f3_.symm; clear f1_ f2_ f3_; subst f4_; subst f5_))
          obtain ⟨a9, b9, d9⟩ := Kd.R_slice l3.out
          (first | subst d9 | (injection d9 with f1_ f2_ f3_; have f4_ := f1_.symm; have f5_ := f3_.symm; clear f1_ f2_ f3_; subst f4_; subst f5_))
          obtain ⟨e9, f9, g9⟩ := Kd.R_slice M3.out
          (first | subst g9 | (injection g9 with f1_ f2_ f3_; have f4_ := f1_.symm; have f5_ := f3_.symm; clear f1_ f2_ f3_; subst f4_; subst f5_))
          refine norm_ (a' := ?_) ?_ ?_
          rotate_left
          · simp only [putAll, Act.put, zq1, zq2, zq3]
            rfl
          refine two_ (i := 6) (j := 10) (Ni := some 105) (Nj := some 17) (bl 13 127) (bl 13 1087) rfl rfl rfl rfl (two_of HT_.out (by kernel_rfl)) (by decide) (by decide) (fun K hK => ?_) (fun K hK => ?_)
          · as_aux_lemma =>
            skip
            refine goes_ Try.func12 (by kernel_rfl) rfl #[.agg #[.int .i64 f7, .int .i64 g7, .int .i64 i7, .int .i64 j7, .int .i64 l7, .int .i64 m7, .int .i64 n7, .int .i64 o7, .int .i64 p7, .int .i64 q7, .int .i64 t7], .agg #[.slice b1b n6.length b1c, .slice U8 o6.length V8, .slice a9 p6.length b9, .int .i64 T7, .int .i64 U7, .int .i64 V7], .slice e9 m6.length f9] (by rfl) rfl rfl zL ?_
            refine (impl_StepOpt.calls j4 f7 g7 i7 j7 l7 m7 n7 o7 p7 q7 t7 _ _ n6 _ _ o6 _ _ p6 T7 U7 V7 _ _ m6 t4 x4 y4 x7 y7 B7 t8 _ (zC (Kd.R_reads' i3.out).2.2) ((Kd.R_reads' i3.out).2.1) (zC (Kd.R_reads' j3.out).2.2) ((Kd.R_reads' j3.out).2.1) (zC (Kd.R_reads' l3.out).2.2) ((Kd.R_reads' l3.out).2.1) (zC (Kd.R_reads' M3.out).2.2) ((Kd.R_reads' M3.out).2.1) b3b.out).mono ?_
            rintro e l4 ⟨v523, v526, v529, rfl, T0, e2, f2, hb⟩
            refine ⟨_, rfl, ?_⟩
            have R1 := zK (Kd.R_mono (Kd.R_told (Kd.R_told (Kd.R_told (Kd.R_old (zkR o0) hb) (Kd.R_base T0)) (Kd.R_base e2)) (Kd.R_base f2)) (fun _ h_ => h_.1))
            have S1 := zK (Kd.R_mono (Kd.R_told (Kd.R_told (Kd.R_told (Kd.R_old (zkR p0) hb) (Kd.R_base T0)) (Kd.R_base e2)) (Kd.R_base f2)) (fun _ h_ => h_.1))
            have T1 := zK (Kd.R_mono (Kd.R_told (Kd.R_told (Kd.R_told (Kd.R_old (zkR q0) hb) (Kd.R_base T0)) (Kd.R_base e2)) (Kd.R_base f2)) (fun _ h_ => h_.1))
            have a2 := zK (Kd.R_mono (Kd.R_told (Kd.R_told (Kd.R_told (Kd.R_old (zkR e0) hb) (Kd.R_base T0)) (Kd.R_base e2)) (Kd.R_base f2)) (fun _ h_ => h_.1))
            have b2 := zK (Kd.R_mono (Kd.R_told (Kd.R_told (Kd.R_told (Kd.R_old (zkR f0) hb) (Kd.R_base T0)) (Kd.R_base e2)) (Kd.R_base f2)) (fun _ h_ => h_.1))
            have d2 := zK (Kd.R_mono (Kd.R_told (Kd.R_told (Kd.R_told (Kd.R_old (zkR g0) hb) (Kd.R_base T0)) (Kd.R_base e2)) (Kd.R_base f2)) (fun _ h_ => h_.1))
            have i2 := zK (Kd.R_mono (Kd.R_told (Kd.R_told (Kd.R_told (Kd.R_old (zkR A) hb) (Kd.R_base T0)) (Kd.R_base e2)) (Kd.R_base f2)) (fun _ h_ => h_.1))
            have m2 := zK (Kd.R_mono (Kd.R_told (Kd.R_told (Kd.R_told (Kd.R_old (zkR B) hb) (Kd.R_base T0)) (Kd.R_base e2)) (Kd.R_base f2)) (fun _ h_ => h_.1))
            have t2 := zK (Kd.R_mono (Kd.R_told (Kd.R_told (Kd.R_told (Kd.R_old (zkR D) hb) (Kd.R_base T0)) (Kd.R_base e2)) (Kd.R_base f2)) (fun _ h_ => h_.1))
            have x2 := zK (Kd.R_mono (Kd.R_told (Kd.R_told (Kd.R_told (Kd.R_old (zkR i3) hb) (Kd.R_base T0)) (Kd.R_base e2)) (Kd.R_base f2)) (fun _ h_ => h_.1))
            have O1 := zK (Kd.R_mono (Kd.R_told (Kd.R_told (Kd.R_told (Kd.R_old (zkR j3) hb) (Kd.R_base T0)) (Kd.R_base e2)) (Kd.R_base f2)) (fun _ h_ => h_.1))
            have U1 := zK (Kd.R_mono (Kd.R_told (Kd.R_told (Kd.R_told (Kd.R_old (zkR l3) hb) (Kd.R_base T0)) (Kd.R_base e2)) (Kd.R_base f2)) (fun _ h_ => h_.1))
            have V1 := zK (Kd.R_mono (Kd.R_told (Kd.R_told (Kd.R_told (Kd.R_old (zkR M3) hb) (Kd.R_base T0)) (Kd.R_base e2)) (Kd.R_base f2)) (fun _ h_ => h_.1))
            have X1 := zK (Kd.R_lower (Kd.R_new' (Kd.R_new' (Kd.R_new' (Kd.R_new' (Kd.R_new' (Kd.R_new' (Kd.R_new' (Kd.R_new' (Kd.R_new' (Kd.R_new' (Kd.R_new' (Kd.R_new' (Kd.R_new' T0 (Kd.R_lt (zkR o0))) (Kd.R_lt (zkR p0))) (Kd.R_lt (zkR q0))) (Kd.R_lt (zkR e0))) (Kd.R_lt (zkR f0))) (Kd.R_lt (zkR g0))) (Kd.R_lt (zkR A))) (Kd.R_lt (zkR B))) (Kd.R_lt (zkR D))) (Kd.R_lt (zkR i3))) (Kd.R_lt (zkR j3))) (Kd.R_lt (zkR l3))) (Kd.R_lt (zkR M3))) (zz zB))
            have g2 := zK (Kd.R_lower (Kd.R_new' (Kd.R_new' (Kd.R_new' (Kd.R_new' (Kd.R_new' (Kd.R_new' (Kd.R_new' (Kd.R_new' (Kd.R_new' (Kd.R_new' (Kd.R_new' (Kd.R_new' (Kd.R_new' e2 (Kd.R_lt (zkR o0))) (Kd.R_lt (zkR p0))) (Kd.R_lt (zkR q0))) (Kd.R_lt (zkR e0))) (Kd.R_lt (zkR f0))) (Kd.R_lt (zkR g0))) (Kd.R_lt (zkR A))) (Kd.R_lt (zkR B))) (Kd.R_lt (zkR D))) (Kd.R_lt (zkR i3))) (Kd.R_lt (zkR j3))) (Kd.R_lt (zkR l3))) (Kd.R_lt (zkR M3))) (zz zB))
            have B2 := zK (Kd.R_lower (Kd.R_new' (Kd.R_new' (Kd.R_new' (Kd.R_new' (Kd.R_new' (Kd.R_new' (Kd.R_new' (Kd.R_new' (Kd.R_new' (Kd.R_new' (Kd.R_new' (Kd.R_new' (Kd.R_new' f2 (Kd.R_lt (zkR o0))) (Kd.R_lt (zkR p0))) (Kd.R_lt (zkR q0))) (Kd.R_lt (zkR e0))) (Kd.R_lt (zkR f0))) (Kd.R_lt (zkR g0))) (Kd.R_lt (zkR A))) (Kd.R_lt (zkR B))) (Kd.R_lt (zkR D))) (Kd.R_lt (zkR i3))) (Kd.R_lt (zkR j3))) (Kd.R_lt (zkR l3))) (Kd.R_lt (zkR M3))) (zz zB))
            have L2 := z7 a hb
            have V2 := z7 q hb
            have b3 := z7 n0 hb
            have G3 := z7 T hb
            have p4 := z7 G0 hb
            have q4 := z8 hb
            revert R1 S1 T1 a2 b2 d2 i2 m2 t2 x2 O1 U1 V1 X1 g2 B2 L2 V2 b3 G3 p4 q4
            clear o0 p0 q0 e0 f0 g0 A B D i3 j3 l3 M3 a q n0 T G0 HB
            intro o0 p0 q0 e0 f0 g0 A B D i3 j3 l3 M3 F5 G5 I5 a q n0 T G0 HB
            (try clear hb)
            (try clear hb2)
            (try clear hk)
            (try clear hi)
            (try clear T0)
            (try clear e2)
            (try clear f2)
            refine hK.out _ _ ⟨zy a 0, zy a 1, zy a 2, zy a 3, zy a 4, zy a 5, zy a 6, zy a 7, zy a 8, zy a 9, zy a 10, zy q 0, zy q 1, zy q 2, zy q 3, zy q 4, zy q 5⟩ (fun hHeld => ?_)
            clear hK K
            refine zU 105 ?_
            refine zP 7 98 (bl 13 255) HT_ ?_
            refine zP 8 106 (bl 13 511) HT_ ?_
            refine zP 9 107 (bl 13 1023) HT_ ?_
            exact norm_ (by first | (simp only [putAll, Act.put, zq1, zq2, zq3]; done) | (simp only [putAll, Act.put, zq1, zq2, zq3]; rfl)) (hJ1_3_5_6 (.slice b1b n6.length b1c, .slice U8 o6.length V8, .slice a9 p6.length b9, .slice e9 m6.length f9, v523, v526, v529) _ ⟨hHeld, (zkM (zlR i3.out)), (zkM (zlR j3.out)), (zkM (zlR l3.out)), (zkM (zlR M3.out)), (zkM (zlR F5.out)), (zkM (zlR G5.out)), (zkM (zlR I5.out)), (zkM (zlR o0.out)), (zkM (zlR p0.out)), (zkM (zlR q0.out)), (zkM (zlR e0.out)), (zkM (zlR f0.out)), (zkM (zlR g0.out)), (zkM (zlR A.out)), (zkM (zlR B.out)), (zkM (zlR D.out)), (zM a), (zM q), (zM n0), (zM T), (zM G0), zB⟩)
          · as_aux_lemma =>
            skip
            refine box_step ?hg (N := 17) ?hd (cs := #[.slice none 0 0, .slice none 0 0, .slice none 0 0, .int .i64 0, .int .i64 0, .int .i64 0]) (t := 30) ?hr ?_; (case hd => rfl); (case hg => rfl); (case hr => first | (go_simp; done) | (go_simp; rfl))
            intro J0 hg A4 hbox hb
            have R1 := zK (Kd.R_below (zkR o0) hb)
            have S1 := zK (Kd.R_below (zkR p0) hb)
            have T1 := zK (Kd.R_below (zkR q0) hb)
            have a2 := zK (Kd.R_below (zkR e0) hb)
            have b2 := zK (Kd.R_below (zkR f0) hb)
            have d2 := zK (Kd.R_below (zkR g0) hb)
            have i2 := zK (Kd.R_below (zkR A) hb)
            have m2 := zK (Kd.R_below (zkR B) hb)
            have t2 := zK (Kd.R_below (zkR D) hb)
            have x2 := zK (Kd.R_below (zkR i3) hb)
            have O1 := zK (Kd.R_below (zkR j3) hb)
            have U1 := zK (Kd.R_below (zkR l3) hb)
            have V1 := zK (Kd.R_below (zkR M3) hb)
            have X1 := z7 a hb
            have g2 := z7 q hb
            have B2 := z7 n0 hb
            have L2 := z7 T hb
            have V2 := z7 G0 hb
            have b3 := z8 hb
            have G3 := zK (hbox)
            have p4 := z9 hg
            have q4 := z9 hg
            have V4 := zHH hg a
            have J5 := zGG hg a
            have L5 := zHH hg q
            have M5 := zGG hg q
            have N5 := zHH hg n0
            have f6 := zGG hg n0
            have E7 := zHH hg T
            have F7 := zGG hg T
            have d8 := zHH hg G0
            have R8 := zGG hg G0
            revert R1 S1 T1 a2 b2 d2 i2 m2 t2 x2 O1 U1 V1 X1 g2 B2 L2 V2 b3 G3 p4 q4 V4 J5 L5 M5 N5 f6 E7 F7 d8 R8
            clear o0 p0 q0 e0 f0 g0 A B D i3 j3 l3 M3 a q n0 T G0 HB
            intro o0 p0 q0 e0 f0 g0 A B D i3 j3 l3 M3 a q n0 T G0 HB F1 j6 l6 N0 A3 b1 B3 C3 D3 E3 F3 x3 y3
            clear hb hbox hg
            refine hK.out _ _ ⟨zy a 0, zy a 1, zy a 2, zy a 3, zy a 4, zy a 5, zy a 6, zy a 7, zy a 8, zy a 9, zy a 10, zy q 0, zy q 1, zy q 2, zy q 3, zy q 4, zy q 5⟩ (fun hHeld => ?_)
            clear hK K
            refine zU 17 ?_
            exact norm_ (by first | (simp only [putAll, Act.put, zq1, zq2, zq3]; done) | (simp only [putAll, Act.put, zq1, zq2, zq3]; rfl)) (hJ1_3_5_10 (.slice b1b n6.length b1c, .slice U8 o6.length V8, .slice a9 p6.length b9, .slice e9 m6.length f9, J0) _ ⟨hHeld, (zkR i3), (zkR j3), (zkR l3), (zkR M3), (zkR o0), (zkR p0), (zkR q0), (zkR e0), (zkR f0), (zkR g0), (zkR A), (zkR B), (zkR D), (zM a), (zM q), (zM n0), (zM T), (zM G0), (zM F1), j6.out, l6.out, N0.out, A3.out, b1.out, B3.out, C3.out, D3.out, E3.out, F3.out, x3.out, y3.out, zB⟩)
      · as_aux_lemma =>
        skip
        rintro ⟨v508, v511, v514, v520, J0⟩ A4 ⟨hS_, a4, b4, d4, m4, n4, o4, F4, R4, S4, T4, C4, D4, E4, U4, c5, f5, g5, U5, g6, x6, y6, A6, E6, F6, G6, I6, J6, L6, a8, b8, I8, R9⟩
        try dsimp only at hS_ a4 b4 d4 m4 n4 o4 F4 R4 S4 T4 C4 D4 E4 U4 c5 f5 g5 U5 g6 x6 y6 A6 E6 F6 G6 I6 J6 L6 a8 b8 I8 R9
        have R1 := zK a4
        have S1 := zK b4
        have T1 := zK d4
        have a2 := zK m4
        have b2 := zK n4
        have d2 := zK o4
        have i2 := zK F4
        have m2 := zK R4
        have t2 := zK S4
        have x2 := zK T4
        have O1 := zK C4
        have U1 := zK D4
        have V1 := zK E4
        have X1 := zK U4
        have g2 := zK c5
        have B2 := zK f5
        have L2 := zK g5
        have V2 := zK U5
        have b3 := zK g6
        have G3 := zK x6
        have p4 := zK y6
        have q4 := zK A6
        have V4 := zK E6
        have J5 := zK F6
        have L5 := zK G6
        have M5 := zK I6
        have N5 := zK J6
        have f6 := zK L6
        have E7 := zK a8
        have F7 := zK b8
        have d8 := zK I8
        have R8 := zK R9
        clear o0
        clear p0
        clear q0
        clear e0
        clear f0
        clear g0
        clear A
        clear B
        clear D
        clear a
        clear q
        clear n0
        clear T
        clear G0
        clear HB
        clear a4 b4 d4 m4 n4 o4 F4 R4 S4 T4 C4 D4 E4 U4 c5 f5 g5 U5 g6 x6 y6 A6 E6 F6 G6 I6 J6 L6 a8 b8 I8 R9
        revert R1 S1 T1 a2 b2 d2 i2 m2 t2 x2 O1 U1 V1 X1 g2 B2 L2 V2 b3 G3 p4 q4 V4 J5 L5 M5 N5 f6 E7 F7 d8 R8
        intro i3 j3 l3 M3 o0 p0 q0 e0 f0 g0 A B D a q n0 T G0 F1 j6 l6 N0 A3 b1 B3 C3 D3 E3 F3 x3 y3 HB
        have hHeld := hS_
        obtain ⟨U8, V8, X8⟩ := Kd.R_slice i3.out
        (first | subst X8 | (injection X8 with f1_ f2_ f3_; have f4_ := f1_.symm; have f5_ := f3_.symm; clear f1_ f2_ f3_; subst f4_; subst f5_))
        obtain ⟨a9, b9, d9⟩ := Kd.R_slice j3.out
        (first | subst d9 | (injection d9 with f1_ f2_ f3_; have f4_ := f1_.symm; have f5_ := f3_.symm; clear f1_ f2_ f3_; subst f4_; subst f5_))
        obtain ⟨e9, f9, g9⟩ := Kd.R_slice l3.out
        (first | subst g9 | (injection g9 with f1_ f2_ f3_; have f4_ := f1_.symm; have f5_ := f3_.symm; clear f1_ f2_ f3_; subst f4_; subst f5_))
        obtain ⟨b1e, b1f, b1g⟩ := Kd.R_slice M3.out
        (first | subst b1g | (injection b1g with f1_ f2_ f3_; have f4_ := f1_.symm; have f5_ := f3_.symm; clear f1_ f2_ f3_; subst f4_; subst f5_))
        refine norm_ (a' := ?_) ?_ ?_
        rotate_left
        · simp only [putAll, Act.put, zq1, zq2, zq3]
          rfl
        refine one_ (i := 6) (N := some 105) (bl 13 1151) rfl rfl (one_of HT_.out (by kernel_rfl)) (by decide) (fun K hK => ?_)
        refine goes_ Try.func12 (by kernel_rfl) rfl #[.agg #[.int .i64 f7, .int .i64 g7, .int .i64 i7, .int .i64 j7, .int .i64 l7, .int .i64 m7, .int .i64 n7, .int .i64 o7, .int .i64 p7, .int .i64 q7, .int .i64 t7], .agg #[.slice U8 n6.length V8, .slice a9 o6.length b9, .slice e9 p6.length f9, .int .i64 T7, .int .i64 U7, .int .i64 V7], .slice b1e m6.length b1f] (by rfl) rfl rfl zL ?_
        refine (impl_StepOpt.calls j4 f7 g7 i7 j7 l7 m7 n7 o7 p7 q7 t7 _ _ n6 _ _ o6 _ _ p6 T7 U7 V7 _ _ m6 t4 x4 y4 x7 y7 B7 t8 _ (zC (Kd.R_reads' i3.out).2.2) ((Kd.R_reads' i3.out).2.1) (zC (Kd.R_reads' j3.out).2.2) ((Kd.R_reads' j3.out).2.1) (zC (Kd.R_reads' l3.out).2.2) ((Kd.R_reads' l3.out).2.1) (zC (Kd.R_reads' M3.out).2.2) ((Kd.R_reads' M3.out).2.1) b3b.out).mono ?_
        rintro e S3 ⟨v523, v526, v529, rfl, T0, e2, f2, hb⟩
        refine ⟨_, rfl, ?_⟩
        have R1 := zK (Kd.R_mono (Kd.R_told (Kd.R_told (Kd.R_told (Kd.R_old (zkR o0) hb) (Kd.R_base T0)) (Kd.R_base e2)) (Kd.R_base f2)) (fun _ h_ => h_.1))
        have S1 := zK (Kd.R_mono (Kd.R_told (Kd.R_told (Kd.R_told (Kd.R_old (zkR p0) hb) (Kd.R_base T0)) (Kd.R_base e2)) (Kd.R_base f2)) (fun _ h_ => h_.1))
        have T1 := zK (Kd.R_mono (Kd.R_told (Kd.R_told (Kd.R_told (Kd.R_old (zkR q0) hb) (Kd.R_base T0)) (Kd.R_base e2)) (Kd.R_base f2)) (fun _ h_ => h_.1))
        have a2 := zK (Kd.R_mono (Kd.R_told (Kd.R_told (Kd.R_told (Kd.R_old (zkR e0) hb) (Kd.R_base T0)) (Kd.R_base e2)) (Kd.R_base f2)) (fun _ h_ => h_.1))
        have b2 := zK (Kd.R_mono (Kd.R_told (Kd.R_told (Kd.R_told (Kd.R_old (zkR f0) hb) (Kd.R_base T0)) (Kd.R_base e2)) (Kd.R_base f2)) (fun _ h_ => h_.1))
        have d2 := zK (Kd.R_mono (Kd.R_told (Kd.R_told (Kd.R_told (Kd.R_old (zkR g0) hb) (Kd.R_base T0)) (Kd.R_base e2)) (Kd.R_base f2)) (fun _ h_ => h_.1))
        have i2 := zK (Kd.R_mono (Kd.R_told (Kd.R_told (Kd.R_told (Kd.R_old (zkR A) hb) (Kd.R_base T0)) (Kd.R_base e2)) (Kd.R_base f2)) (fun _ h_ => h_.1))
        have m2 := zK (Kd.R_mono (Kd.R_told (Kd.R_told (Kd.R_told (Kd.R_old (zkR B) hb) (Kd.R_base T0)) (Kd.R_base e2)) (Kd.R_base f2)) (fun _ h_ => h_.1))
        have t2 := zK (Kd.R_mono (Kd.R_told (Kd.R_told (Kd.R_told (Kd.R_old (zkR D) hb) (Kd.R_base T0)) (Kd.R_base e2)) (Kd.R_base f2)) (fun _ h_ => h_.1))
        have x2 := zK (Kd.R_mono (Kd.R_told (Kd.R_told (Kd.R_told (Kd.R_old (zkR i3) hb) (Kd.R_base T0)) (Kd.R_base e2)) (Kd.R_base f2)) (fun _ h_ => h_.1))
        have O1 := zK (Kd.R_mono (Kd.R_told (Kd.R_told (Kd.R_told (Kd.R_old (zkR j3) hb) (Kd.R_base T0)) (Kd.R_base e2)) (Kd.R_base f2)) (fun _ h_ => h_.1))
        have U1 := zK (Kd.R_mono (Kd.R_told (Kd.R_told (Kd.R_told (Kd.R_old (zkR l3) hb) (Kd.R_base T0)) (Kd.R_base e2)) (Kd.R_base f2)) (fun _ h_ => h_.1))
        have V1 := zK (Kd.R_mono (Kd.R_told (Kd.R_told (Kd.R_told (Kd.R_old (zkR M3) hb) (Kd.R_base T0)) (Kd.R_base e2)) (Kd.R_base f2)) (fun _ h_ => h_.1))
        have X1 := zK (Kd.R_lower (Kd.R_new' (Kd.R_new' (Kd.R_new' (Kd.R_new' (Kd.R_new' (Kd.R_new' (Kd.R_new' (Kd.R_new' (Kd.R_new' (Kd.R_new' (Kd.R_new' (Kd.R_new' (Kd.R_new' T0 (Kd.R_lt (zkR o0))) (Kd.R_lt (zkR p0))) (Kd.R_lt (zkR q0))) (Kd.R_lt (zkR e0))) (Kd.R_lt (zkR f0))) (Kd.R_lt (zkR g0))) (Kd.R_lt (zkR A))) (Kd.R_lt (zkR B))) (Kd.R_lt (zkR D))) (Kd.R_lt (zkR i3))) (Kd.R_lt (zkR j3))) (Kd.R_lt (zkR l3))) (Kd.R_lt (zkR M3))) (zz zB))
        have g2 := zK (Kd.R_lower (Kd.R_new' (Kd.R_new' (Kd.R_new' (Kd.R_new' (Kd.R_new' (Kd.R_new' (Kd.R_new' (Kd.R_new' (Kd.R_new' (Kd.R_new' (Kd.R_new' (Kd.R_new' (Kd.R_new' e2 (Kd.R_lt (zkR o0))) (Kd.R_lt (zkR p0))) (Kd.R_lt (zkR q0))) (Kd.R_lt (zkR e0))) (Kd.R_lt (zkR f0))) (Kd.R_lt (zkR g0))) (Kd.R_lt (zkR A))) (Kd.R_lt (zkR B))) (Kd.R_lt (zkR D))) (Kd.R_lt (zkR i3))) (Kd.R_lt (zkR j3))) (Kd.R_lt (zkR l3))) (Kd.R_lt (zkR M3))) (zz zB))
        have B2 := zK (Kd.R_lower (Kd.R_new' (Kd.R_new' (Kd.R_new' (Kd.R_new' (Kd.R_new' (Kd.R_new' (Kd.R_new' (Kd.R_new' (Kd.R_new' (Kd.R_new' (Kd.R_new' (Kd.R_new' (Kd.R_new' f2 (Kd.R_lt (zkR o0))) (Kd.R_lt (zkR p0))) (Kd.R_lt (zkR q0))) (Kd.R_lt (zkR e0))) (Kd.R_lt (zkR f0))) (Kd.R_lt (zkR g0))) (Kd.R_lt (zkR A))) (Kd.R_lt (zkR B))) (Kd.R_lt (zkR D))) (Kd.R_lt (zkR i3))) (Kd.R_lt (zkR j3))) (Kd.R_lt (zkR l3))) (Kd.R_lt (zkR M3))) (zz zB))
        have L2 := z7 a hb
        have V2 := z7 q hb
        have b3 := z7 n0 hb
        have G3 := z7 T hb
        have p4 := z7 G0 hb
        have q4 := z7 F1 hb
        have V4 := z8 hb
        revert R1 S1 T1 a2 b2 d2 i2 m2 t2 x2 O1 U1 V1 X1 g2 B2 L2 V2 b3 G3 p4 q4 V4
        clear o0 p0 q0 e0 f0 g0 A B D i3 j3 l3 M3 a q n0 T G0 F1 HB
        intro o0 p0 q0 e0 f0 g0 A B D i3 j3 l3 M3 F5 G5 I5 a q n0 T G0 F1 HB
        (try clear hb)
        (try clear hb2)
        (try clear hk)
        (try clear hi)
        (try clear T0)
        (try clear e2)
        (try clear f2)
        refine hK.out _ _ ⟨zy a 0, zy a 1, zy a 2, zy a 3, zy a 4, zy a 5, zy a 6, zy a 7, zy a 8, zy a 9, zy a 10, zy q 0, zy q 1, zy q 2, zy q 3, zy q 4, zy q 5⟩ (fun hHeld => ?_)
        clear hK K
        refine zU 105 ?_
        refine zP 7 98 (bl 13 1279) HT_ ?_
        refine zP 8 106 (bl 13 1535) HT_ ?_
        refine zP 9 107 (bl 13 2047) HT_ ?_
        exact norm_ (by first | (simp only [putAll, Act.put, zq1, zq2, zq3]; done) | (simp only [putAll, Act.put, zq1, zq2, zq3]; rfl)) (hJ1_3_5_6_10 (.slice U8 n6.length V8, .slice a9 o6.length b9, .slice e9 p6.length f9, .slice b1e m6.length b1f, v523, v526, v529, J0) _ ⟨hHeld, (zkM (zlR i3.out)), (zkM (zlR j3.out)), (zkM (zlR l3.out)), (zkM (zlR M3.out)), (zkM (zlR F5.out)), (zkM (zlR G5.out)), (zkM (zlR I5.out)), (zkM (zlR o0.out)), (zkM (zlR p0.out)), (zkM (zlR q0.out)), (zkM (zlR e0.out)), (zkM (zlR f0.out)), (zkM (zlR g0.out)), (zkM (zlR A.out)), (zkM (zlR B.out)), (zkM (zlR D.out)), (zM a), (zM q), (zM n0), (zM T), (zM G0), (zM F1), j6.out, l6.out, N0.out, A3.out, b1.out, B3.out, C3.out, D3.out, E3.out, F3.out, x3.out, y3.out, zB⟩)
    · as_aux_lemma =>
      skip
      rintro ⟨v508, v511, v514, v520, v523, v526, v529⟩ l4 ⟨hS_, a4, b4, d4, m4, n4, o4, F4, R4, S4, T4, C4, D4, E4, U4, c5, f5, g5, U5, g6, x6, y6, A6⟩
      try dsimp only at hS_ a4 b4 d4 m4 n4 o4 F4 R4 S4 T4 C4 D4 E4 U4 c5 f5 g5 U5 g6 x6 y6 A6
      have R1 := zK a4
      have S1 := zK b4
      have T1 := zK d4
      have a2 := zK m4
      have b2 := zK n4
      have d2 := zK o4
      have i2 := zK F4
      have m2 := zK R4
      have t2 := zK S4
      have x2 := zK T4
      have O1 := zK C4
      have U1 := zK D4
      have V1 := zK E4
      have X1 := zK U4
      have g2 := zK c5
      have B2 := zK f5
      have L2 := zK g5
      have V2 := zK U5
      have b3 := zK g6
      have G3 := zK x6
      have p4 := zK y6
      have q4 := zK A6
      clear o0
      clear p0
      clear q0
      clear e0
      clear f0
      clear g0
      clear A
      clear B
      clear D
      clear a
      clear q
      clear n0
      clear T
      clear G0
      clear HB
      clear a4 b4 d4 m4 n4 o4 F4 R4 S4 T4 C4 D4 E4 U4 c5 f5 g5 U5 g6 x6 y6 A6
      revert R1 S1 T1 a2 b2 d2 i2 m2 t2 x2 O1 U1 V1 X1 g2 B2 L2 V2 b3 G3 p4 q4
      intro i3 j3 l3 M3 F5 G5 I5 o0 p0 q0 e0 f0 g0 A B D a q n0 T G0 HB
      have hHeld := hS_
      refine norm_ (a' := ?_) ?_ ?_
      rotate_left
      · simp only [putAll, Act.put, zq1, zq2, zq3]
        rfl
      refine one_ (i := 10) (N := some 17) (bl 13 2047) rfl rfl (one_of HT_.out (by kernel_rfl)) (by decide) (fun K hK => ?_)
      refine box_step ?hg (N := 17) ?hd (cs := #[.slice none 0 0, .slice none 0 0, .slice none 0 0, .int .i64 0, .int .i64 0, .int .i64 0]) (t := 30) ?hr ?_; (case hd => rfl); (case hg => rfl); (case hr => first | (go_simp; done) | (go_simp; rfl))
      intro J0 hg S3 hbox hb
      have R1 := zK (Kd.R_below (zkR o0) hb)
      have S1 := zK (Kd.R_below (zkR p0) hb)
      have T1 := zK (Kd.R_below (zkR q0) hb)
      have a2 := zK (Kd.R_below (zkR e0) hb)
      have b2 := zK (Kd.R_below (zkR f0) hb)
      have d2 := zK (Kd.R_below (zkR g0) hb)
      have i2 := zK (Kd.R_below (zkR A) hb)
      have m2 := zK (Kd.R_below (zkR B) hb)
      have t2 := zK (Kd.R_below (zkR D) hb)
      have x2 := zK (Kd.R_below (zkR i3) hb)
      have O1 := zK (Kd.R_below (zkR j3) hb)
      have U1 := zK (Kd.R_below (zkR l3) hb)
      have V1 := zK (Kd.R_below (zkR M3) hb)
      have X1 := zK (Kd.R_below (zkR F5) hb)
      have g2 := zK (Kd.R_below (zkR G5) hb)
      have B2 := zK (Kd.R_below (zkR I5) hb)
      have L2 := z7 a hb
      have V2 := z7 q hb
      have b3 := z7 n0 hb
      have G3 := z7 T hb
      have p4 := z7 G0 hb
      have q4 := z8 hb
      have V4 := zK (hbox)
      have J5 := z9 hg
      have L5 := z9 hg
      have M5 := zHH hg a
      have N5 := zGG hg a
      have f6 := zHH hg q
      have E7 := zGG hg q
      have F7 := zHH hg n0
      have d8 := zGG hg n0
      have R8 := zHH hg T
      have a7l := zGG hg T
      have a7m := zHH hg G0
      have a7n := zGG hg G0
      revert R1 S1 T1 a2 b2 d2 i2 m2 t2 x2 O1 U1 V1 X1 g2 B2 L2 V2 b3 G3 p4 q4 V4 J5 L5 M5 N5 f6 E7 F7 d8 R8 a7l a7m a7n
      clear o0 p0 q0 e0 f0 g0 A B D i3 j3 l3 M3 F5 G5 I5 a q n0 T G0 HB
      intro o0 p0 q0 e0 f0 g0 A B D i3 j3 l3 M3 F5 G5 I5 a q n0 T G0 HB F1 j6 l6 N0 A3 b1 B3 C3 D3 E3 F3 x3 y3
      clear hb hbox hg
      refine hK.out _ _ ⟨zy a 0, zy a 1, zy a 2, zy a 3, zy a 4, zy a 5, zy a 6, zy a 7, zy a 8, zy a 9, zy a 10, zy q 0, zy q 1, zy q 2, zy q 3, zy q 4, zy q 5⟩ (fun hHeld => ?_)
      clear hK K
      refine zU 17 ?_
      exact norm_ (by first | (simp only [putAll, Act.put, zq1, zq2, zq3]; done) | (simp only [putAll, Act.put, zq1, zq2, zq3]; rfl)) (hJ1_3_5_6_10 (v508, v511, v514, v520, v523, v526, v529, J0) _ ⟨hHeld, (zkR i3), (zkR j3), (zkR l3), (zkR M3), (zkR F5), (zkR G5), (zkR I5), (zkR o0), (zkR p0), (zkR q0), (zkR e0), (zkR f0), (zkR g0), (zkR A), (zkR B), (zkR D), (zM a), (zM q), (zM n0), (zM T), (zM G0), (zM F1), j6.out, l6.out, N0.out, A3.out, b1.out, B3.out, C3.out, D3.out, E3.out, F3.out, x3.out, y3.out, zB⟩)
  rintro ⟨v508, v511, v514, v520, v523, v526, v529, J0⟩ S3 ⟨hS_, a4, b4, d4, m4, n4, o4, F4, R4, S4, T4, C4, D4, E4, U4, c5, f5, g5, U5, g6, x6, y6, A6, E6, F6, G6, I6, J6, L6, a8, b8, I8, R9, b3c, b3d, b3e⟩
  try dsimp only at hS_ a4 b4 d4 m4 n4 o4 F4 R4 S4 T4 C4 D4 E4 U4 c5 f5 g5 U5 g6 x6 y6 A6 E6 F6 G6 I6 J6 L6 a8 b8 I8 R9 b3c b3d b3e
  have R1 := zK a4
  have S1 := zK b4
  have T1 := zK d4
  have a2 := zK m4
  have b2 := zK n4
  have d2 := zK o4
  have i2 := zK F4
  have m2 := zK R4
  have t2 := zK S4
  have x2 := zK T4
  have O1 := zK C4
  have U1 := zK D4
  have V1 := zK E4
  have X1 := zK U4
  have g2 := zK c5
  have B2 := zK f5
  have L2 := zK g5
  have V2 := zK U5
  have b3 := zK g6
  have G3 := zK x6
  have p4 := zK y6
  have q4 := zK A6
  have V4 := zK E6
  have J5 := zK F6
  have L5 := zK G6
  have M5 := zK I6
  have N5 := zK J6
  have f6 := zK L6
  have E7 := zK a8
  have F7 := zK b8
  have d8 := zK I8
  have R8 := zK R9
  have a7l := zK b3c
  have a7m := zK b3d
  have a7n := zK b3e
  clear o0
  clear p0
  clear q0
  clear e0
  clear f0
  clear g0
  clear A
  clear B
  clear D
  clear a
  clear q
  clear n0
  clear T
  clear G0
  clear HB
  clear a4 b4 d4 m4 n4 o4 F4 R4 S4 T4 C4 D4 E4 U4 c5 f5 g5 U5 g6 x6 y6 A6 E6 F6 G6 I6 J6 L6 a8 b8 I8 R9 b3c b3d b3e
  revert R1 S1 T1 a2 b2 d2 i2 m2 t2 x2 O1 U1 V1 X1 g2 B2 L2 V2 b3 G3 p4 q4 V4 J5 L5 M5 N5 f6 E7 F7 d8 R8 a7l a7m a7n
  intro i3 j3 l3 M3 F5 G5 I5 o0 p0 q0 e0 f0 g0 A B D a q n0 T G0 F1 j6 l6 N0 A3 b1 B3 C3 D3 E3 F3 x3 y3 HB
  have hHeld := hS_
  obtain ⟨X4, G4, b1j⟩ := Kd.R_slice F5.out
  (first | subst b1j | (injection b1j with f1_ f2_ f3_; have f4_ := f1_.symm; have f5_ := f3_.symm; clear f1_ f2_ f3_; subst f4_; subst f5_))
  obtain ⟨a5, I4, b1l⟩ := Kd.R_slice G5.out
  (first | subst b1l | (injection b1l with f1_ f2_ f3_; have f4_ := f1_.symm; have f5_ := f3_.symm; clear f1_ f2_ f3_; subst f4_; subst f5_))
  obtain ⟨b5, J4, b1m⟩ := Kd.R_slice I5.out
  (first | subst b1m | (injection b1m with f1_ f2_ f3_; have f4_ := f1_.symm; have f5_ := f3_.symm; clear f1_ f2_ f3_; subst f4_; subst f5_))
  refine norm_ (a' := ?_) ?_ ?_
  rotate_left
  · simp only [putAll, Act.put, zq1, zq2, zq3]
    rfl
  refine one_ (i := 11) (N := none) (bl 13 4095) rfl rfl (one_of HT_.out (by kernel_rfl)) (by decide) (fun K hK => ?_)
  have c6l : S3.cell? ⟨J0, 0, none⟩ = some (.slice none 0 0) := zy F1 0
  have hfs175 := zf F1.out 0
  have hns175_0 := N0.out
  have hns175_1 := b1.out
  have hns175_2 := C3.out
  have hns175_3 := E3.out
  have hns175_4 := x3.out
  have hms175_0 := A3.out
  have hms175_1 := B3.out
  have hms175_2 := D3.out
  have hms175_3 := F3.out
  have hms175_4 := y3.out
  have c6m : S3.cell? ⟨J0, 1, none⟩ = some (.slice none 0 0) := zy F1 1
  have hfs177 := zf F1.out 1
  have hns177_0 := N0.out
  have hns177_1 := b1.out
  have hns177_2 := C3.out
  have hns177_3 := E3.out
  have hns177_4 := x3.out
  have hms177_0 := A3.out
  have hms177_1 := B3.out
  have hms177_2 := D3.out
  have hms177_3 := F3.out
  have hms177_4 := y3.out
  have c6n : S3.cell? ⟨J0, 2, none⟩ = some (.slice none 0 0) := zy F1 2
  have hfs179 := zf F1.out 2
  have hns179_0 := N0.out
  have hns179_1 := b1.out
  have hns179_2 := C3.out
  have hns179_3 := E3.out
  have hns179_4 := x3.out
  have hms179_0 := A3.out
  have hms179_1 := B3.out
  have hms179_2 := D3.out
  have hms179_3 := F3.out
  have hms179_4 := y3.out
  have c6o : S3.cell? ⟨J0, 3, none⟩ = some (.int .i64 0) := zy F1 3
  have hfs180 := zf F1.out 3
  have hns180_0 := N0.out
  have hns180_1 := b1.out
  have hns180_2 := C3.out
  have hns180_3 := E3.out
  have hns180_4 := x3.out
  have hms180_0 := A3.out
  have hms180_1 := B3.out
  have hms180_2 := D3.out
  have hms180_3 := F3.out
  have hms180_4 := y3.out
  have c6p : S3.cell? ⟨J0, 4, none⟩ = some (.int .i64 0) := zy F1 4
  have hfs181 := zf F1.out 4
  have hns181_0 := N0.out
  have hns181_1 := b1.out
  have hns181_2 := C3.out
  have hns181_3 := E3.out
  have hns181_4 := x3.out
  have hms181_0 := A3.out
  have hms181_1 := B3.out
  have hms181_2 := D3.out
  have hms181_3 := F3.out
  have hms181_4 := y3.out
  have c6q : S3.cell? ⟨J0, 5, none⟩ = some (.int .i64 0) := zy F1 5
  have hfs182 := zf F1.out 5
  have hns182_0 := N0.out
  have hns182_1 := b1.out
  have hns182_2 := C3.out
  have hns182_3 := E3.out
  have hns182_4 := x3.out
  have hms182_0 := A3.out
  have hms182_1 := B3.out
  have hms182_2 := D3.out
  have hms182_3 := F3.out
  have hms182_4 := y3.out
  refine skip_ (w1 := ?_) (by rfl) rfl ?_ ?_
  rotate_left
  · go_simp
    rfl
  refine hK.out _ _ ⟨((cell_far (p := ⟨J0, _, none⟩) N0.out _).trans (((cell_far (p := ⟨J0, _, none⟩) N0.out _).trans (((cell_far (p := ⟨J0, _, none⟩) N0.out _).trans (((cell_far (p := ⟨J0, _, none⟩) N0.out _).trans (((cell_far (p := ⟨J0, _, none⟩) N0.out _).trans (((cell_far (p := ⟨J0, _, none⟩) N0.out _).trans (hHeld.1)))))))))))), ((cell_far (p := ⟨J0, _, none⟩) N0.out _).trans (((cell_far (p := ⟨J0, _, none⟩) N0.out _).trans (((cell_far (p := ⟨J0, _, none⟩) N0.out _).trans (((cell_far (p := ⟨J0, _, none⟩) N0.out _).trans (((cell_far (p := ⟨J0, _, none⟩) N0.out _).trans (((cell_far (p := ⟨J0, _, none⟩) N0.out _).trans (hHeld.2.1)))))))))))), ((cell_far (p := ⟨J0, _, none⟩) N0.out _).trans (((cell_far (p := ⟨J0, _, none⟩) N0.out _).trans (((cell_far (p := ⟨J0, _, none⟩) N0.out _).trans (((cell_far (p := ⟨J0, _, none⟩) N0.out _).trans (((cell_far (p := ⟨J0, _, none⟩) N0.out _).trans (((cell_far (p := ⟨J0, _, none⟩) N0.out _).trans (hHeld.2.2.1)))))))))))), ((cell_far (p := ⟨J0, _, none⟩) N0.out _).trans (((cell_far (p := ⟨J0, _, none⟩) N0.out _).trans (((cell_far (p := ⟨J0, _, none⟩) N0.out _).trans (((cell_far (p := ⟨J0, _, none⟩) N0.out _).trans (((cell_far (p := ⟨J0, _, none⟩) N0.out _).trans (((cell_far (p := ⟨J0, _, none⟩) N0.out _).trans (hHeld.2.2.2.1)))))))))))), ((cell_far (p := ⟨J0, _, none⟩) N0.out _).trans (((cell_far (p := ⟨J0, _, none⟩) N0.out _).trans (((cell_far (p := ⟨J0, _, none⟩) N0.out _).trans (((cell_far (p := ⟨J0, _, none⟩) N0.out _).trans (((cell_far (p := ⟨J0, _, none⟩) N0.out _).trans (((cell_far (p := ⟨J0, _, none⟩) N0.out _).trans (hHeld.2.2.2.2.1)))))))))))), ((cell_far (p := ⟨J0, _, none⟩) N0.out _).trans (((cell_far (p := ⟨J0, _, none⟩) N0.out _).trans (((cell_far (p := ⟨J0, _, none⟩) N0.out _).trans (((cell_far (p := ⟨J0, _, none⟩) N0.out _).trans (((cell_far (p := ⟨J0, _, none⟩) N0.out _).trans (((cell_far (p := ⟨J0, _, none⟩) N0.out _).trans (hHeld.2.2.2.2.2.1)))))))))))), ((cell_far (p := ⟨J0, _, none⟩) N0.out _).trans (((cell_far (p := ⟨J0, _, none⟩) N0.out _).trans (((cell_far (p := ⟨J0, _, none⟩) N0.out _).trans (((cell_far (p := ⟨J0, _, none⟩) N0.out _).trans (((cell_far (p := ⟨J0, _, none⟩) N0.out _).trans (((cell_far (p := ⟨J0, _, none⟩) N0.out _).trans (hHeld.2.2.2.2.2.2.1)))))))))))), ((cell_far (p := ⟨J0, _, none⟩) N0.out _).trans (((cell_far (p := ⟨J0, _, none⟩) N0.out _).trans (((cell_far (p := ⟨J0, _, none⟩) N0.out _).trans (((cell_far (p := ⟨J0, _, none⟩) N0.out _).trans (((cell_far (p := ⟨J0, _, none⟩) N0.out _).trans (((cell_far (p := ⟨J0, _, none⟩) N0.out _).trans (hHeld.2.2.2.2.2.2.2.1)))))))))))), ((cell_far (p := ⟨J0, _, none⟩) N0.out _).trans (((cell_far (p := ⟨J0, _, none⟩) N0.out _).trans (((cell_far (p := ⟨J0, _, none⟩) N0.out _).trans (((cell_far (p := ⟨J0, _, none⟩) N0.out _).trans (((cell_far (p := ⟨J0, _, none⟩) N0.out _).trans (((cell_far (p := ⟨J0, _, none⟩) N0.out _).trans (hHeld.2.2.2.2.2.2.2.2.1)))))))))))), ((cell_far (p := ⟨J0, _, none⟩) N0.out _).trans (((cell_far (p := ⟨J0, _, none⟩) N0.out _).trans (((cell_far (p := ⟨J0, _, none⟩) N0.out _).trans (((cell_far (p := ⟨J0, _, none⟩) N0.out _).trans (((cell_far (p := ⟨J0, _, none⟩) N0.out _).trans (((cell_far (p := ⟨J0, _, none⟩) N0.out _).trans (hHeld.2.2.2.2.2.2.2.2.2.1)))))))))))), ((cell_far (p := ⟨J0, _, none⟩) N0.out _).trans (((cell_far (p := ⟨J0, _, none⟩) N0.out _).trans (((cell_far (p := ⟨J0, _, none⟩) N0.out _).trans (((cell_far (p := ⟨J0, _, none⟩) N0.out _).trans (((cell_far (p := ⟨J0, _, none⟩) N0.out _).trans (((cell_far (p := ⟨J0, _, none⟩) N0.out _).trans (hHeld.2.2.2.2.2.2.2.2.2.2.1)))))))))))), ((cell_far (p := ⟨J0, _, none⟩) b1.out _).trans (((cell_far (p := ⟨J0, _, none⟩) b1.out _).trans (((cell_far (p := ⟨J0, _, none⟩) b1.out _).trans (((cell_far (p := ⟨J0, _, none⟩) b1.out _).trans (((cell_far (p := ⟨J0, _, none⟩) b1.out _).trans (((cell_far (p := ⟨J0, _, none⟩) b1.out _).trans (hHeld.2.2.2.2.2.2.2.2.2.2.2.1)))))))))))), ((cell_far (p := ⟨J0, _, none⟩) b1.out _).trans (((cell_far (p := ⟨J0, _, none⟩) b1.out _).trans (((cell_far (p := ⟨J0, _, none⟩) b1.out _).trans (((cell_far (p := ⟨J0, _, none⟩) b1.out _).trans (((cell_far (p := ⟨J0, _, none⟩) b1.out _).trans (((cell_far (p := ⟨J0, _, none⟩) b1.out _).trans (hHeld.2.2.2.2.2.2.2.2.2.2.2.2.1)))))))))))), ((cell_far (p := ⟨J0, _, none⟩) b1.out _).trans (((cell_far (p := ⟨J0, _, none⟩) b1.out _).trans (((cell_far (p := ⟨J0, _, none⟩) b1.out _).trans (((cell_far (p := ⟨J0, _, none⟩) b1.out _).trans (((cell_far (p := ⟨J0, _, none⟩) b1.out _).trans (((cell_far (p := ⟨J0, _, none⟩) b1.out _).trans (hHeld.2.2.2.2.2.2.2.2.2.2.2.2.2.1)))))))))))), ((cell_far (p := ⟨J0, _, none⟩) b1.out _).trans (((cell_far (p := ⟨J0, _, none⟩) b1.out _).trans (((cell_far (p := ⟨J0, _, none⟩) b1.out _).trans (((cell_far (p := ⟨J0, _, none⟩) b1.out _).trans (((cell_far (p := ⟨J0, _, none⟩) b1.out _).trans (((cell_far (p := ⟨J0, _, none⟩) b1.out _).trans (hHeld.2.2.2.2.2.2.2.2.2.2.2.2.2.2.1)))))))))))), ((cell_far (p := ⟨J0, _, none⟩) b1.out _).trans (((cell_far (p := ⟨J0, _, none⟩) b1.out _).trans (((cell_far (p := ⟨J0, _, none⟩) b1.out _).trans (((cell_far (p := ⟨J0, _, none⟩) b1.out _).trans (((cell_far (p := ⟨J0, _, none⟩) b1.out _).trans (((cell_far (p := ⟨J0, _, none⟩) b1.out _).trans (hHeld.2.2.2.2.2.2.2.2.2.2.2.2.2.2.2.1)))))))))))), ((cell_far (p := ⟨J0, _, none⟩) b1.out _).trans (((cell_far (p := ⟨J0, _, none⟩) b1.out _).trans (((cell_far (p := ⟨J0, _, none⟩) b1.out _).trans (((cell_far (p := ⟨J0, _, none⟩) b1.out _).trans (((cell_far (p := ⟨J0, _, none⟩) b1.out _).trans (((cell_far (p := ⟨J0, _, none⟩) b1.out _).trans (hHeld.2.2.2.2.2.2.2.2.2.2.2.2.2.2.2.2))))))))))))⟩ (fun hHeld => ?_)
  clear hK K
  refine zP 12 18 (bl 13 8191) HT_ ?_
  refine done_ (done_of HT_.out (by kernel_rfl)) ?_
  generalize hW_ : (World.setCell (World.setCell (World.setCell (World.setCell (World.setCell (World.setCell _ ⟨J0, 0, none⟩ _) ⟨J0, 1, none⟩ _) ⟨J0, 2, none⟩ _) ⟨J0, 3, none⟩ _) ⟨J0, 4, none⟩ _) ⟨J0, 5, none⟩ _) = w6_
  have F5 := zT7 hW_ F5.out F1.out (by decide)
  have G5 := zT7 hW_ G5.out F1.out (by decide)
  have I5 := zT7 hW_ I5.out F1.out (by decide)
  have o0 := zT7 hW_ o0.out F1.out (by decide)
  have p0 := zT7 hW_ p0.out F1.out (by decide)
  have q0 := zT7 hW_ q0.out F1.out (by decide)
  have e0 := zT7 hW_ e0.out F1.out (by decide)
  have f0 := zT7 hW_ f0.out F1.out (by decide)
  have g0 := zT7 hW_ g0.out F1.out (by decide)
  have A := zT7 hW_ A.out F1.out (by decide)
  have B := zT7 hW_ B.out F1.out (by decide)
  have D := zT7 hW_ D.out F1.out (by decide)
  have i3 := zT7 hW_ i3.out F1.out (by decide)
  have j3 := zT7 hW_ j3.out F1.out (by decide)
  have l3 := zT7 hW_ l3.out F1.out (by decide)
  have M3 := zT7 hW_ M3.out F1.out (by decide)
  have a := zB7 hW_ a.out (Aside0.out (by assumption))
  have q := zB7 hW_ q.out (Aside0.out (by assumption))
  have n0 := zB7 hW_ n0.out (Aside0.out (by assumption))
  have T := zB7 hW_ T.out (Aside0.out (by assumption))
  have G0 := zB7 hW_ G0.out (Aside0.out (by assumption))
  have HB := zH7 hW_ HB.out (Aside0.out (by assumption))
  have F1 := zS7 hW_ F1.out
  clear hW_
  go_upto_region 31 with (fail)
  go_cut [116] (fun v116 wc => ∃ (kq : Nat) (G8 : Bool), v116 = .bool G8 ∧ Aside0 (laws_FnExactStepOpt.j2 kq S7 G8 L4 M4 N4 o3 p3 q3 = some true) ∧ Aside0 (kq ≤ j4) ∧ Aside0 (Kd.R (Kd.int .i64) 3 wc w.heap.size (fun k_ => zo (.slice l0 x.length c0) k_ ∧ zo (.slice m0 y.length d0) k_ ∧ zo (.slice E D0.length I) k_ ∧ zo (.slice J E0.length L) k_ ∧ zo (.slice M F0.length O) k_ ∧ zo (.slice A0 U.length t0) k_ ∧ zo (.slice B0 X.length x0) k_ ∧ zo (.slice C0 a0.length y0) k_ ∧ zo (.slice X4 t4.length G4) k_ ∧ zo (.slice a5 x4.length I4) k_ ∧ zo (.slice b5 y4.length J4) k_) (.slice i0 u.length b0) u) ∧ Aside0 (Kd.R (Kd.int .i64) 3 wc w.heap.size (fun k_ => zo (.slice i0 u.length b0) k_ ∧ zo (.slice m0 y.length d0) k_ ∧ zo (.slice E D0.length I) k_ ∧ zo (.slice J E0.length L) k_ ∧ zo (.slice M F0.length O) k_ ∧ zo (.slice A0 U.length t0) k_ ∧ zo (.slice B0 X.length x0) k_ ∧ zo (.slice C0 a0.length y0) k_ ∧ zo (.slice X4 t4.length G4) k_ ∧ zo (.slice a5 x4.length I4) k_ ∧ zo (.slice b5 y4.length J4) k_) (.slice l0 x.length c0) x) ∧ Aside0 (Kd.R (Kd.int .i64) 3 wc w.heap.size (fun k_ => zo (.slice i0 u.length b0) k_ ∧ zo (.slice l0 x.length c0) k_ ∧ zo (.slice E D0.length I) k_ ∧ zo (.slice J E0.length L) k_ ∧ zo (.slice M F0.length O) k_ ∧ zo (.slice A0 U.length t0) k_ ∧ zo (.slice B0 X.length x0) k_ ∧ zo (.slice C0 a0.length y0) k_ ∧ zo (.slice X4 t4.length G4) k_ ∧ zo (.slice a5 x4.length I4) k_ ∧ zo (.slice b5 y4.length J4) k_) (.slice m0 y.length d0) y) ∧ Aside0 (Kd.R (Kd.int .i64) 3 wc w.heap.size (fun k_ => zo (.slice i0 u.length b0) k_ ∧ zo (.slice l0 x.length c0) k_ ∧ zo (.slice m0 y.length d0) k_ ∧ zo (.slice J E0.length L) k_ ∧ zo (.slice M F0.length O) k_ ∧ zo (.slice A0 U.length t0) k_ ∧ zo (.slice B0 X.length x0) k_ ∧ zo (.slice C0 a0.length y0) k_ ∧ zo (.slice X4 t4.length G4) k_ ∧ zo (.slice a5 x4.length I4) k_ ∧ zo (.slice b5 y4.length J4) k_) (.slice E D0.length I) D0) ∧ Aside0 (Kd.R (Kd.int .i64) 3 wc w.heap.size (fun k_ => zo (.slice i0 u.length b0) k_ ∧ zo (.slice l0 x.length c0) k_ ∧ zo (.slice m0 y.length d0) k_ ∧ zo (.slice E D0.length I) k_ ∧ zo (.slice M F0.length O) k_ ∧ zo (.slice A0 U.length t0) k_ ∧ zo (.slice B0 X.length x0) k_ ∧ zo (.slice C0 a0.length y0) k_ ∧ zo (.slice X4 t4.length G4) k_ ∧ zo (.slice a5 x4.length I4) k_ ∧ zo (.slice b5 y4.length J4) k_) (.slice J E0.length L) E0) ∧ Aside0 (Kd.R (Kd.int .i64) 3 wc w.heap.size (fun k_ => zo (.slice i0 u.length b0) k_ ∧ zo (.slice l0 x.length c0) k_ ∧ zo (.slice m0 y.length d0) k_ ∧ zo (.slice E D0.length I) k_ ∧ zo (.slice J E0.length L) k_ ∧ zo (.slice A0 U.length t0) k_ ∧ zo (.slice B0 X.length x0) k_ ∧ zo (.slice C0 a0.length y0) k_ ∧ zo (.slice X4 t4.length G4) k_ ∧ zo (.slice a5 x4.length I4) k_ ∧ zo (.slice b5 y4.length J4) k_) (.slice M F0.length O) F0) ∧ Aside0 (Kd.R (Kd.int .i64) 3 wc w.heap.size (fun k_ => zo (.slice i0 u.length b0) k_ ∧ zo (.slice l0 x.length c0) k_ ∧ zo (.slice m0 y.length d0) k_ ∧ zo (.slice E D0.length I) k_ ∧ zo (.slice J E0.length L) k_ ∧ zo (.slice M F0.length O) k_ ∧ zo (.slice B0 X.length x0) k_ ∧ zo (.slice C0 a0.length y0) k_ ∧ zo (.slice X4 t4.length G4) k_ ∧ zo (.slice a5 x4.length I4) k_ ∧ zo (.slice b5 y4.length J4) k_) (.slice A0 U.length t0) L4) ∧ Aside0 (Kd.R (Kd.int .i64) 3 wc w.heap.size (fun k_ => zo (.slice i0 u.length b0) k_ ∧ zo (.slice l0 x.length c0) k_ ∧ zo (.slice m0 y.length d0) k_ ∧ zo (.slice E D0.length I) k_ ∧ zo (.slice J E0.length L) k_ ∧ zo (.slice M F0.length O) k_ ∧ zo (.slice A0 U.length t0) k_ ∧ zo (.slice C0 a0.length y0) k_ ∧ zo (.slice X4 t4.length G4) k_ ∧ zo (.slice a5 x4.length I4) k_ ∧ zo (.slice b5 y4.length J4) k_) (.slice B0 X.length x0) M4) ∧ Aside0 (Kd.R (Kd.int .i64) 3 wc w.heap.size (fun k_ => zo (.slice i0 u.length b0) k_ ∧ zo (.slice l0 x.length c0) k_ ∧ zo (.slice m0 y.length d0) k_ ∧ zo (.slice E D0.length I) k_ ∧ zo (.slice J E0.length L) k_ ∧ zo (.slice M F0.length O) k_ ∧ zo (.slice A0 U.length t0) k_ ∧ zo (.slice B0 X.length x0) k_ ∧ zo (.slice X4 t4.length G4) k_ ∧ zo (.slice a5 x4.length I4) k_ ∧ zo (.slice b5 y4.length J4) k_) (.slice C0 a0.length y0) N4) ∧ Aside0 (Kd.R (Kd.int .i64) 3 wc w.heap.size (fun k_ => zo (.slice i0 u.length b0) k_ ∧ zo (.slice l0 x.length c0) k_ ∧ zo (.slice m0 y.length d0) k_ ∧ zo (.slice E D0.length I) k_ ∧ zo (.slice J E0.length L) k_ ∧ zo (.slice M F0.length O) k_ ∧ zo (.slice A0 U.length t0) k_ ∧ zo (.slice B0 X.length x0) k_ ∧ zo (.slice C0 a0.length y0) k_ ∧ zo (.slice a5 x4.length I4) k_ ∧ zo (.slice b5 y4.length J4) k_) (.slice X4 t4.length G4) t4) ∧ Aside0 (Kd.R (Kd.int .i64) 3 wc w.heap.size (fun k_ => zo (.slice i0 u.length b0) k_ ∧ zo (.slice l0 x.length c0) k_ ∧ zo (.slice m0 y.length d0) k_ ∧ zo (.slice E D0.length I) k_ ∧ zo (.slice J E0.length L) k_ ∧ zo (.slice M F0.length O) k_ ∧ zo (.slice A0 U.length t0) k_ ∧ zo (.slice B0 X.length x0) k_ ∧ zo (.slice C0 a0.length y0) k_ ∧ zo (.slice X4 t4.length G4) k_ ∧ zo (.slice b5 y4.length J4) k_) (.slice a5 x4.length I4) x4) ∧ Aside0 (Kd.R (Kd.int .i64) 3 wc w.heap.size (fun k_ => zo (.slice i0 u.length b0) k_ ∧ zo (.slice l0 x.length c0) k_ ∧ zo (.slice m0 y.length d0) k_ ∧ zo (.slice E D0.length I) k_ ∧ zo (.slice J E0.length L) k_ ∧ zo (.slice M F0.length O) k_ ∧ zo (.slice A0 U.length t0) k_ ∧ zo (.slice B0 X.length x0) k_ ∧ zo (.slice C0 a0.length y0) k_ ∧ zo (.slice X4 t4.length G4) k_ ∧ zo (.slice a5 x4.length I4) k_) (.slice b5 y4.length J4) y4) ∧ Aside0 (wc.heap[l]? = some (.cells #[.int .i64 p1, .int .i64 q1, .int .i64 t1, .int .i64 x1, .int .i64 y1, .int .i64 A1, .int .i64 B1, .int .i64 C1, .int .i64 D1, .int .i64 E1, .int .i64 S0] 25 (0, 0))) ∧ Aside0 (wc.heap[z]? = some (.cells #[(.slice D2 g1.length E2), (.slice F2 i1.length G2), (.slice I2 l1.length J2), .int .i64 m1, .int .i64 n1, .int .i64 o1] 28 (0, 0))) ∧ Aside0 (wc.heap[I0]? = some (.cells #[(.slice i0 u.length b0), (.slice l0 x.length c0), (.slice m0 y.length d0), .int .i64 c3, .int .i64 d3, .int .i64 e3] 30 (0, 0))) ∧ Aside0 (wc.heap[C2]? = some (.cells #[(.slice E D0.length I), (.slice J E0.length L), (.slice M F0.length O), .int .i64 N3, .int .i64 O3, .int .i64 R3] 30 (0, 0))) ∧ Aside0 (wc.heap[M0]? = some (.cells #[(.slice A0 U.length t0), (.slice B0 X.length x0), (.slice C0 a0.length y0), .int .i64 o3, .int .i64 p3, .int .i64 q3] 30 (0, 0))) ∧ Aside0 (wc.heap[J0]? = some (.cells #[(.slice X4 t4.length G4), (.slice a5 x4.length I4), (.slice b5 y4.length J4), .int .i64 x7, .int .i64 y7, .int .i64 B7] 30 (0, 0))) ∧ Aside0 (Below w.heap.size w wc))
  case first =>
   have H := a3a.out
   clear a3a
   replace H := z6 H
   obtain ⟨F8, b1n, H⟩ := H
   have b3f := zK b1n
   clear b1n
   by_cases S9 : F8 = true
   · as_aux_lemma =>
     subst S9
     rw [if_pos rfl] at H
     have H' := zK H
     clear H
     have c2b := A3.out
     have c2c := N0.out
     have c2d := B3.out
     have c2e := b1.out
     have c2f := D3.out
     have c2g := C3.out
     have c2j := F3.out
     have c2l := E3.out
     have c2m := y3.out
     have c2n := x3.out
     obtain ⟨a7o, a7p, a7q, a7s, a7t, a7u, a7x, a7y, a7z, a8a, a8b, a8c⟩ := zc6 F1
     have c2o := n3.out
     have c2p := L0.out
     have c2q := m3.out
     have c2s := a1.out
     have c2t := B6.out
     have c2u := C6.out
     have c2x := U3.out
     have c2y := V3.out
     obtain ⟨a8d, a8e, a8f, a8g, a8j, a8l, a8m, a8n, a8o, a8p, a8q, a8s⟩ := zc6 n0
     go_wp2_with (first | ((with_reducible refine gc 13 rfl ?_); refine zF 110 Try.func13 #[.agg #[.slice X4 t4.length G4, .slice a5 x4.length I4, .slice b5 y4.length J4, .int .i64 x7, .int .i64 y7, .int .i64 B7], .agg #[.slice i0 u.length b0, .slice l0 x.length c0, .slice m0 y.length d0, .int .i64 c3, .int .i64 d3, .int .i64 e3]] rfl zL ?_; (with_reducible refine (laws_eqOpt.calls j4 _ _ t4 _ _ x4 _ _ y4 x7 y7 B7 _ _ u _ _ x _ _ y c3 d3 e3 true _ ?side1 ?side2 ?side3 ?side4 ?side5 ?side6 ?side7 ?side8 ?side9 ?side10 ?side11 ?side12 b3f.out).mono ?_); (case side1 => refine (Kd.R_reads' (e := 3) (base := w.heap.size) (ok := fun k_ => (zo v508 k_ ∧ (zo v511 k_ ∧ (zo v514 k_ ∧ (zo v520 k_ ∧ (zo (.slice a5 x4.length I4) k_ ∧ (zo (.slice b5 y4.length J4) k_ ∧ (zo (.slice i0 u.length b0) k_ ∧ (zo (.slice l0 x.length c0) k_ ∧ (zo (.slice m0 y.length d0) k_ ∧ (zo (.slice E D0.length I) k_ ∧ (zo (.slice J E0.length L) k_ ∧ (zo (.slice M F0.length O) k_ ∧ (zo (.slice A0 U.length t0) k_ ∧ (zo (.slice B0 X.length x0) k_ ∧ zo (.slice C0 a0.length y0) k_))))))))))))))) (n := t4.length) (c := G4) ?_).2.2; exact (zlR F5.out)); (case side2 => exact (Kd.R_reads' F5.out).2.1); (case side3 => refine (Kd.R_reads' (e := 3) (base := w.heap.size) (ok := fun k_ => (zo v508 k_ ∧ (zo v511 k_ ∧ (zo v514 k_ ∧ (zo v520 k_ ∧ (zo (.slice X4 t4.length G4) k_ ∧ (zo (.slice b5 y4.length J4) k_ ∧ (zo (.slice i0 u.length b0) k_ ∧ (zo (.slice l0 x.length c0) k_ ∧ (zo (.slice m0 y.length d0) k_ ∧ (zo (.slice E D0.length I) k_ ∧ (zo (.slice J E0.length L) k_ ∧ (zo (.slice M F0.length O) k_ ∧ (zo (.slice A0 U.length t0) k_ ∧ (zo (.slice B0 X.length x0) k_ ∧ zo (.slice C0 a0.length y0) k_))))))))))))))) (n := x4.length) (c := I4) ?_).2.2; exact (zlR G5.out)); (case side4 => exact (Kd.R_reads' G5.out).2.1); (case side5 => refine (Kd.R_reads' (e := 3) (base := w.heap.size) (ok := fun k_ => (zo v508 k_ ∧ (zo v511 k_ ∧ (zo v514 k_ ∧ (zo v520 k_ ∧ (zo (.slice X4 t4.length G4) k_ ∧ (zo (.slice a5 x4.length I4) k_ ∧ (zo (.slice i0 u.length b0) k_ ∧ (zo (.slice l0 x.length c0) k_ ∧ (zo (.slice m0 y.length d0) k_ ∧ (zo (.slice E D0.length I) k_ ∧ (zo (.slice J E0.length L) k_ ∧ (zo (.slice M F0.length O) k_ ∧ (zo (.slice A0 U.length t0) k_ ∧ (zo (.slice B0 X.length x0) k_ ∧ zo (.slice C0 a0.length y0) k_))))))))))))))) (n := y4.length) (c := J4) ?_).2.2; exact (zlR I5.out)); (case side6 => exact (Kd.R_reads' I5.out).2.1); (case side7 => refine (Kd.R_reads' (e := 3) (base := w.heap.size) (ok := fun k_ => (zo v508 k_ ∧ (zo v511 k_ ∧ (zo v514 k_ ∧ (zo v520 k_ ∧ (zo (.slice X4 t4.length G4) k_ ∧ (zo (.slice a5 x4.length I4) k_ ∧ (zo (.slice b5 y4.length J4) k_ ∧ (zo (.slice l0 x.length c0) k_ ∧ (zo (.slice m0 y.length d0) k_ ∧ (zo (.slice E D0.length I) k_ ∧ (zo (.slice J E0.length L) k_ ∧ (zo (.slice M F0.length O) k_ ∧ (zo (.slice A0 U.length t0) k_ ∧ (zo (.slice B0 X.length x0) k_ ∧ zo (.slice C0 a0.length y0) k_))))))))))))))) (n := u.length) (c := b0) ?_).2.2; exact (zlR o0.out)); (case side8 => exact (Kd.R_reads' o0.out).2.1); (case side9 => refine (Kd.R_reads' (e := 3) (base := w.heap.size) (ok := fun k_ => (zo v508 k_ ∧ (zo v511 k_ ∧ (zo v514 k_ ∧ (zo v520 k_ ∧ (zo (.slice X4 t4.length G4) k_ ∧ (zo (.slice a5 x4.length I4) k_ ∧ (zo (.slice b5 y4.length J4) k_ ∧ (zo (.slice i0 u.length b0) k_ ∧ (zo (.slice m0 y.length d0) k_ ∧ (zo (.slice E D0.length I) k_ ∧ (zo (.slice J E0.length L) k_ ∧ (zo (.slice M F0.length O) k_ ∧ (zo (.slice A0 U.length t0) k_ ∧ (zo (.slice B0 X.length x0) k_ ∧ zo (.slice C0 a0.length y0) k_))))))))))))))) (n := x.length) (c := c0) ?_).2.2; exact (zlR p0.out)); (case side10 => exact (Kd.R_reads' p0.out).2.1); (case side11 => refine (Kd.R_reads' (e := 3) (base := w.heap.size) (ok := fun k_ => (zo v508 k_ ∧ (zo v511 k_ ∧ (zo v514 k_ ∧ (zo v520 k_ ∧ (zo (.slice X4 t4.length G4) k_ ∧ (zo (.slice a5 x4.length I4) k_ ∧ (zo (.slice b5 y4.length J4) k_ ∧ (zo (.slice i0 u.length b0) k_ ∧ (zo (.slice l0 x.length c0) k_ ∧ (zo (.slice E D0.length I) k_ ∧ (zo (.slice J E0.length L) k_ ∧ (zo (.slice M F0.length O) k_ ∧ (zo (.slice A0 U.length t0) k_ ∧ (zo (.slice B0 X.length x0) k_ ∧ zo (.slice C0 a0.length y0) k_))))))))))))))) (n := y.length) (c := d0) ?_).2.2; exact (zlR q0.out)); (case side12 => exact (Kd.R_reads' q0.out).2.1); rintro e c9b ⟨rfl, hb⟩; refine ⟨_, rfl, ?_⟩; have R1 := zK (Kd.R_below (zlR o0.out) hb); have S1 := zK (Kd.R_below (zlR p0.out) hb); have T1 := zK (Kd.R_below (zlR q0.out) hb); have a2 := zK (Kd.R_below (zlR e0.out) hb); have b2 := zK (Kd.R_below (zlR f0.out) hb); have d2 := zK (Kd.R_below (zlR g0.out) hb); have i2 := zK (Kd.R_below (zlR A.out) hb); have m2 := zK (Kd.R_below (zlR B.out) hb); have t2 := zK (Kd.R_below (zlR D.out) hb); have x2 := zK (Kd.R_below (zlR i3.out) hb); have O1 := zK (Kd.R_below (zlR j3.out) hb); have U1 := zK (Kd.R_below (zlR l3.out) hb); have V1 := zK (Kd.R_below (zlR M3.out) hb); have X1 := zK (Kd.R_below (zlR F5.out) hb); have g2 := zK (Kd.R_below (zlR G5.out) hb); have B2 := zK (Kd.R_below (zlR I5.out) hb); have L2 := zK (zg (zV a) hb); have V2 := zK (zg (zV q) hb); have b3 := zK (zg (zV n0) hb); have G3 := zK (zg (zV T) hb); have p4 := zK (zg (zV G0) hb); have q4 := zK (zg (g := J0) (o := .cells #[.slice X4 t4.length G4, .slice a5 x4.length I4, .slice b5 y4.length J4, .int .i64 x7, .int .i64 y7, .int .i64 B7] 30 (0, 0)) (zM F1) hb); have V4 := z8 hb; revert R1 S1 T1 a2 b2 d2 i2 m2 t2 x2 O1 U1 V1 X1 g2 B2 L2 V2 b3 G3 p4 q4 V4; clear o0 p0 q0 e0 f0 g0 A B D i3 j3 l3 M3 F5 G5 I5 a q n0 T G0 F1 HB; intro o0 p0 q0 e0 f0 g0 A B D i3 j3 l3 M3 F5 G5 I5 a q n0 T G0 F1 HB))
     go_meet
     case rel => exact ⟨_, ((t8 != i4)), zR, H', ⟨by have := L9.out; have := b0s.out; first | omega | exact Nat.le_refl _⟩, ⟨by (try simp only [U0]); (try simp only [V0]); (try simp only [X0]); (with_reducible repeat (first | apply Kd.R_alloc | apply Kd.R_drewN | apply Kd.R_drew)); exact Kd.R_mono o0.out (fun _ hk => ⟨hk.2.2.2.2.2.2.2.1, ⟨hk.2.2.2.2.2.2.2.2.1, ⟨hk.2.2.2.2.2.2.2.2.2.1, ⟨hk.2.2.2.2.2.2.2.2.2.2.1, ⟨hk.2.2.2.2.2.2.2.2.2.2.2.1, ⟨hk.2.2.2.2.2.2.2.2.2.2.2.2.1, ⟨hk.2.2.2.2.2.2.2.2.2.2.2.2.2.1, ⟨hk.2.2.2.2.2.2.2.2.2.2.2.2.2.2, ⟨hk.2.2.2.2.1, ⟨hk.2.2.2.2.2.1, hk.2.2.2.2.2.2.1⟩⟩⟩⟩⟩⟩⟩⟩⟩⟩)⟩, ⟨by (try simp only [U0]); (try simp only [V0]); (try simp only [X0]); (with_reducible repeat (first | apply Kd.R_alloc | apply Kd.R_drewN | apply Kd.R_drew)); exact Kd.R_mono p0.out (fun _ hk => ⟨hk.2.2.2.2.2.2.2.1, ⟨hk.2.2.2.2.2.2.2.2.1, ⟨hk.2.2.2.2.2.2.2.2.2.1, ⟨hk.2.2.2.2.2.2.2.2.2.2.1, ⟨hk.2.2.2.2.2.2.2.2.2.2.2.1, ⟨hk.2.2.2.2.2.2.2.2.2.2.2.2.1, ⟨hk.2.2.2.2.2.2.2.2.2.2.2.2.2.1, ⟨hk.2.2.2.2.2.2.2.2.2.2.2.2.2.2, ⟨hk.2.2.2.2.1, ⟨hk.2.2.2.2.2.1, hk.2.2.2.2.2.2.1⟩⟩⟩⟩⟩⟩⟩⟩⟩⟩)⟩, ⟨by (try simp only [U0]); (try simp only [V0]); (try simp only [X0]); (with_reducible repeat (first | apply Kd.R_alloc | apply Kd.R_drewN | apply Kd.R_drew)); exact Kd.R_mono q0.out (fun _ hk => ⟨hk.2.2.2.2.2.2.2.1, ⟨hk.2.2.2.2.2.2.2.2.1, ⟨hk.2.2.2.2.2.2.2.2.2.1, ⟨hk.2.2.2.2.2.2.2.2.2.2.1, ⟨hk.2.2.2.2.2.2.2.2.2.2.2.1, ⟨hk.2.2.2.2.2.2.2.2.2.2.2.2.1, ⟨hk.2.2.2.2.2.2.2.2.2.2.2.2.2.1, ⟨hk.2.2.2.2.2.2.2.2.2.2.2.2.2.2, ⟨hk.2.2.2.2.1, ⟨hk.2.2.2.2.2.1, hk.2.2.2.2.2.2.1⟩⟩⟩⟩⟩⟩⟩⟩⟩⟩)⟩, ⟨by (try simp only [U0]); (try simp only [V0]); (try simp only [X0]); (with_reducible repeat (first | apply Kd.R_alloc | apply Kd.R_drewN | apply Kd.R_drew)); exact Kd.R_mono e0.out (fun _ hk => ⟨hk.2.2.2.2.2.2.2.1, ⟨hk.2.2.2.2.2.2.2.2.1, ⟨hk.2.2.2.2.2.2.2.2.2.1, ⟨hk.2.2.2.2.2.2.2.2.2.2.1, ⟨hk.2.2.2.2.2.2.2.2.2.2.2.1, ⟨hk.2.2.2.2.2.2.2.2.2.2.2.2.1, ⟨hk.2.2.2.2.2.2.2.2.2.2.2.2.2.1, ⟨hk.2.2.2.2.2.2.2.2.2.2.2.2.2.2, ⟨hk.2.2.2.2.1, ⟨hk.2.2.2.2.2.1, hk.2.2.2.2.2.2.1⟩⟩⟩⟩⟩⟩⟩⟩⟩⟩)⟩, ⟨by (try simp only [U0]); (try simp only [V0]); (try simp only [X0]); (with_reducible repeat (first | apply Kd.R_alloc | apply Kd.R_drewN | apply Kd.R_drew)); exact Kd.R_mono f0.out (fun _ hk => ⟨hk.2.2.2.2.2.2.2.1, ⟨hk.2.2.2.2.2.2.2.2.1, ⟨hk.2.2.2.2.2.2.2.2.2.1, ⟨hk.2.2.2.2.2.2.2.2.2.2.1, ⟨hk.2.2.2.2.2.2.2.2.2.2.2.1, ⟨hk.2.2.2.2.2.2.2.2.2.2.2.2.1, ⟨hk.2.2.2.2.2.2.2.2.2.2.2.2.2.1, ⟨hk.2.2.2.2.2.2.2.2.2.2.2.2.2.2, ⟨hk.2.2.2.2.1, ⟨hk.2.2.2.2.2.1, hk.2.2.2.2.2.2.1⟩⟩⟩⟩⟩⟩⟩⟩⟩⟩)⟩, ⟨by (try simp only [U0]); (try simp only [V0]); (try simp only [X0]); (with_reducible repeat (first | apply Kd.R_alloc | apply Kd.R_drewN | apply Kd.R_drew)); exact Kd.R_mono g0.out (fun _ hk => ⟨hk.2.2.2.2.2.2.2.1, ⟨hk.2.2.2.2.2.2.2.2.1, ⟨hk.2.2.2.2.2.2.2.2.2.1, ⟨hk.2.2.2.2.2.2.2.2.2.2.1, ⟨hk.2.2.2.2.2.2.2.2.2.2.2.1, ⟨hk.2.2.2.2.2.2.2.2.2.2.2.2.1, ⟨hk.2.2.2.2.2.2.2.2.2.2.2.2.2.1, ⟨hk.2.2.2.2.2.2.2.2.2.2.2.2.2.2, ⟨hk.2.2.2.2.1, ⟨hk.2.2.2.2.2.1, hk.2.2.2.2.2.2.1⟩⟩⟩⟩⟩⟩⟩⟩⟩⟩)⟩, ⟨by (try simp only [U0]); (try simp only [V0]); (try simp only [X0]); (with_reducible repeat (first | apply Kd.R_alloc | apply Kd.R_drewN | apply Kd.R_drew)); exact Kd.R_mono A.out (fun _ hk => ⟨hk.2.2.2.2.2.2.2.1, ⟨hk.2.2.2.2.2.2.2.2.1, ⟨hk.2.2.2.2.2.2.2.2.2.1, ⟨hk.2.2.2.2.2.2.2.2.2.2.1, ⟨hk.2.2.2.2.2.2.2.2.2.2.2.1, ⟨hk.2.2.2.2.2.2.2.2.2.2.2.2.1, ⟨hk.2.2.2.2.2.2.2.2.2.2.2.2.2.1, ⟨hk.2.2.2.2.2.2.2.2.2.2.2.2.2.2, ⟨hk.2.2.2.2.1, ⟨hk.2.2.2.2.2.1, hk.2.2.2.2.2.2.1⟩⟩⟩⟩⟩⟩⟩⟩⟩⟩)⟩, ⟨by (try simp only [U0]); (try simp only [V0]); (try simp only [X0]); (with_reducible repeat (first | apply Kd.R_alloc | apply Kd.R_drewN | apply Kd.R_drew)); exact Kd.R_mono B.out (fun _ hk => ⟨hk.2.2.2.2.2.2.2.1, ⟨hk.2.2.2.2.2.2.2.2.1, ⟨hk.2.2.2.2.2.2.2.2.2.1, ⟨hk.2.2.2.2.2.2.2.2.2.2.1, ⟨hk.2.2.2.2.2.2.2.2.2.2.2.1, ⟨hk.2.2.2.2.2.2.2.2.2.2.2.2.1, ⟨hk.2.2.2.2.2.2.2.2.2.2.2.2.2.1, ⟨hk.2.2.2.2.2.2.2.2.2.2.2.2.2.2, ⟨hk.2.2.2.2.1, ⟨hk.2.2.2.2.2.1, hk.2.2.2.2.2.2.1⟩⟩⟩⟩⟩⟩⟩⟩⟩⟩)⟩, ⟨by (try simp only [U0]); (try simp only [V0]); (try simp only [X0]); (with_reducible repeat (first | apply Kd.R_alloc | apply Kd.R_drewN | apply Kd.R_drew)); exact Kd.R_mono D.out (fun _ hk => ⟨hk.2.2.2.2.2.2.2.1, ⟨hk.2.2.2.2.2.2.2.2.1, ⟨hk.2.2.2.2.2.2.2.2.2.1, ⟨hk.2.2.2.2.2.2.2.2.2.2.1, ⟨hk.2.2.2.2.2.2.2.2.2.2.2.1, ⟨hk.2.2.2.2.2.2.2.2.2.2.2.2.1, ⟨hk.2.2.2.2.2.2.2.2.2.2.2.2.2.1, ⟨hk.2.2.2.2.2.2.2.2.2.2.2.2.2.2, ⟨hk.2.2.2.2.1, ⟨hk.2.2.2.2.2.1, hk.2.2.2.2.2.2.1⟩⟩⟩⟩⟩⟩⟩⟩⟩⟩)⟩, ⟨by (try simp only [U0]); (try simp only [V0]); (try simp only [X0]); (with_reducible repeat (first | apply Kd.R_alloc | apply Kd.R_drewN | apply Kd.R_drew)); exact Kd.R_mono F5.out (fun _ hk => ⟨hk.2.2.2.2.2.2.1, ⟨hk.2.2.2.2.2.2.2.1, ⟨hk.2.2.2.2.2.2.2.2.1, ⟨hk.2.2.2.2.2.2.2.2.2.1, ⟨hk.2.2.2.2.2.2.2.2.2.2.1, ⟨hk.2.2.2.2.2.2.2.2.2.2.2.1, ⟨hk.2.2.2.2.2.2.2.2.2.2.2.2.1, ⟨hk.2.2.2.2.2.2.2.2.2.2.2.2.2.1, ⟨hk.2.2.2.2.2.2.2.2.2.2.2.2.2.2, ⟨hk.2.2.2.2.1, hk.2.2.2.2.2.1⟩⟩⟩⟩⟩⟩⟩⟩⟩⟩)⟩, ⟨by (try simp only [U0]); (try simp only [V0]); (try simp only [X0]); (with_reducible repeat (first | apply Kd.R_alloc | apply Kd.R_drewN | apply Kd.R_drew)); exact Kd.R_mono G5.out (fun _ hk => ⟨hk.2.2.2.2.2.2.1, ⟨hk.2.2.2.2.2.2.2.1, ⟨hk.2.2.2.2.2.2.2.2.1, ⟨hk.2.2.2.2.2.2.2.2.2.1, ⟨hk.2.2.2.2.2.2.2.2.2.2.1, ⟨hk.2.2.2.2.2.2.2.2.2.2.2.1, ⟨hk.2.2.2.2.2.2.2.2.2.2.2.2.1, ⟨hk.2.2.2.2.2.2.2.2.2.2.2.2.2.1, ⟨hk.2.2.2.2.2.2.2.2.2.2.2.2.2.2, ⟨hk.2.2.2.2.1, hk.2.2.2.2.2.1⟩⟩⟩⟩⟩⟩⟩⟩⟩⟩)⟩, ⟨by (try simp only [U0]); (try simp only [V0]); (try simp only [X0]); (with_reducible repeat (first | apply Kd.R_alloc | apply Kd.R_drewN | apply Kd.R_drew)); exact Kd.R_mono I5.out (fun _ hk => ⟨hk.2.2.2.2.2.2.1, ⟨hk.2.2.2.2.2.2.2.1, ⟨hk.2.2.2.2.2.2.2.2.1, ⟨hk.2.2.2.2.2.2.2.2.2.1, ⟨hk.2.2.2.2.2.2.2.2.2.2.1, ⟨hk.2.2.2.2.2.2.2.2.2.2.2.1, ⟨hk.2.2.2.2.2.2.2.2.2.2.2.2.1, ⟨hk.2.2.2.2.2.2.2.2.2.2.2.2.2.1, ⟨hk.2.2.2.2.2.2.2.2.2.2.2.2.2.2, ⟨hk.2.2.2.2.1, hk.2.2.2.2.2.1⟩⟩⟩⟩⟩⟩⟩⟩⟩⟩)⟩, ⟨by (try simp only [U0]); (try simp only [V0]); (try simp only [X0]); (with_reducible repeat (first | refine zn ?_ _ | refine zd ?_ | refine za ?_ _)); exact a.out⟩, ⟨by (try simp only [U0]); (try simp only [V0]); (try simp only [X0]); (with_reducible repeat (first | refine zn ?_ _ | refine zd ?_ | refine za ?_ _)); exact q.out⟩, ⟨by (try simp only [U0]); (try simp only [V0]); (try simp only [X0]); (with_reducible repeat (first | refine zn ?_ _ | refine zd ?_ | refine za ?_ _)); exact n0.out⟩, ⟨by (try simp only [U0]); (try simp only [V0]); (try simp only [X0]); (with_reducible repeat (first | refine zn ?_ _ | refine zd ?_ | refine za ?_ _)); exact T.out⟩, ⟨by (try simp only [U0]); (try simp only [V0]); (try simp only [X0]); (with_reducible repeat (first | refine zn ?_ _ | refine zd ?_ | refine za ?_ _)); exact G0.out⟩, ⟨by (try simp only [U0]); (try simp only [V0]); (try simp only [X0]); (with_reducible repeat (first | refine zn ?_ _ | refine zd ?_ | refine za ?_ _)); exact F1.out⟩, ⟨zB⟩⟩
   replace S9 := Bool.eq_false_iff.mpr S9
   subst S9
   rw [if_neg (show ¬ (false = true) by decide)] at H
   have H' := zK H
   clear H
   have c2z := A3.out
   have c3a := N0.out
   have c3b := B3.out
   have c3c := b1.out
   have c3d := D3.out
   have c3e := C3.out
   have c3f := F3.out
   have c3g := E3.out
   have c3j := y3.out
   have c3l := x3.out
   obtain ⟨a8t, a8u, a8x, a8y, a8z, a9a, a9b, a9c, a9d, a9e, a9f, a9g⟩ := zc6 F1
   have c3m := n3.out
   have c3n := L0.out
   have c3o := m3.out
   have c3p := a1.out
   have c3q := B6.out
   have c3s := C6.out
   have c3t := U3.out
   have c3u := V3.out
   obtain ⟨a9j, a9l, a9m, a9n, a9o, a9p, a9q, a9s, a9t, a9u, a9x, a9y⟩ := zc6 n0
   go_wp2_with (first | ((with_reducible refine gc 13 rfl ?_); refine zF 110 Try.func13 #[.agg #[.slice X4 t4.length G4, .slice a5 x4.length I4, .slice b5 y4.length J4, .int .i64 x7, .int .i64 y7, .int .i64 B7], .agg #[.slice i0 u.length b0, .slice l0 x.length c0, .slice m0 y.length d0, .int .i64 c3, .int .i64 d3, .int .i64 e3]] rfl zL ?_; (with_reducible refine (laws_eqOpt.calls j4 _ _ t4 _ _ x4 _ _ y4 x7 y7 B7 _ _ u _ _ x _ _ y c3 d3 e3 false _ ?side1 ?side2 ?side3 ?side4 ?side5 ?side6 ?side7 ?side8 ?side9 ?side10 ?side11 ?side12 b3f.out).mono ?_); (case side1 => refine (Kd.R_reads' (e := 3) (base := w.heap.size) (ok := fun k_ => (zo v508 k_ ∧ (zo v511 k_ ∧ (zo v514 k_ ∧ (zo v520 k_ ∧ (zo (.slice a5 x4.length I4) k_ ∧ (zo (.slice b5 y4.length J4) k_ ∧ (zo (.slice i0 u.length b0) k_ ∧ (zo (.slice l0 x.length c0) k_ ∧ (zo (.slice m0 y.length d0) k_ ∧ (zo (.slice E D0.length I) k_ ∧ (zo (.slice J E0.length L) k_ ∧ (zo (.slice M F0.length O) k_ ∧ (zo (.slice A0 U.length t0) k_ ∧ (zo (.slice B0 X.length x0) k_ ∧ zo (.slice C0 a0.length y0) k_))))))))))))))) (n := t4.length) (c := G4) ?_).2.2; exact (zlR F5.out)); (case side2 => exact (Kd.R_reads' F5.out).2.1); (case side3 => refine (Kd.R_reads' (e := 3) (base := w.heap.size) (ok := fun k_ => (zo v508 k_ ∧ (zo v511 k_ ∧ (zo v514 k_ ∧ (zo v520 k_ ∧ (zo (.slice X4 t4.length G4) k_ ∧ (zo (.slice b5 y4.length J4) k_ ∧ (zo (.slice i0 u.length b0) k_ ∧ (zo (.slice l0 x.length c0) k_ ∧ (zo (.slice m0 y.length d0) k_ ∧ (zo (.slice E D0.length I) k_ ∧ (zo (.slice J E0.length L) k_ ∧ (zo (.slice M F0.length O) k_ ∧ (zo (.slice A0 U.length t0) k_ ∧ (zo (.slice B0 X.length x0) k_ ∧ zo (.slice C0 a0.length y0) k_))))))))))))))) (n := x4.length) (c := I4) ?_).2.2; exact (zlR G5.out)); (case side4 => exact (Kd.R_reads' G5.out).2.1); (case side5 => refine (Kd.R_reads' (e := 3) (base := w.heap.size) (ok := fun k_ => (zo v508 k_ ∧ (zo v511 k_ ∧ (zo v514 k_ ∧ (zo v520 k_ ∧ (zo (.slice X4 t4.length G4) k_ ∧ (zo (.slice a5 x4.length I4) k_ ∧ (zo (.slice i0 u.length b0) k_ ∧ (zo (.slice l0 x.length c0) k_ ∧ (zo (.slice m0 y.length d0) k_ ∧ (zo (.slice E D0.length I) k_ ∧ (zo (.slice J E0.length L) k_ ∧ (zo (.slice M F0.length O) k_ ∧ (zo (.slice A0 U.length t0) k_ ∧ (zo (.slice B0 X.length x0) k_ ∧ zo (.slice C0 a0.length y0) k_))))))))))))))) (n := y4.length) (c := J4) ?_).2.2; exact (zlR I5.out)); (case side6 => exact (Kd.R_reads' I5.out).2.1); (case side7 => refine (Kd.R_reads' (e := 3) (base := w.heap.size) (ok := fun k_ => (zo v508 k_ ∧ (zo v511 k_ ∧ (zo v514 k_ ∧ (zo v520 k_ ∧ (zo (.slice X4 t4.length G4) k_ ∧ (zo (.slice a5 x4.length I4) k_ ∧ (zo (.slice b5 y4.length J4) k_ ∧ (zo (.slice l0 x.length c0) k_ ∧ (zo (.slice m0 y.length d0) k_ ∧ (zo (.slice E D0.length I) k_ ∧ (zo (.slice J E0.length L) k_ ∧ (zo (.slice M F0.length O) k_ ∧ (zo (.slice A0 U.length t0) k_ ∧ (zo (.slice B0 X.length x0) k_ ∧ zo (.slice C0 a0.length y0) k_))))))))))))))) (n := u.length) (c := b0) ?_).2.2; exact (zlR o0.out)); (case side8 => exact (Kd.R_reads' o0.out).2.1); (case side9 => refine (Kd.R_reads' (e := 3) (base := w.heap.size) (ok := fun k_ => (zo v508 k_ ∧ (zo v511 k_ ∧ (zo v514 k_ ∧ (zo v520 k_ ∧ (zo (.slice X4 t4.length G4) k_ ∧ (zo (.slice a5 x4.length I4) k_ ∧ (zo (.slice b5 y4.length J4) k_ ∧ (zo (.slice i0 u.length b0) k_ ∧ (zo (.slice m0 y.length d0) k_ ∧ (zo (.slice E D0.length I) k_ ∧ (zo (.slice J E0.length L) k_ ∧ (zo (.slice M F0.length O) k_ ∧ (zo (.slice A0 U.length t0) k_ ∧ (zo (.slice B0 X.length x0) k_ ∧ zo (.slice C0 a0.length y0) k_))))))))))))))) (n := x.length) (c := c0) ?_).2.2; exact (zlR p0.out)); (case side10 => exact (Kd.R_reads' p0.out).2.1); (case side11 => refine (Kd.R_reads' (e := 3) (base := w.heap.size) (ok := fun k_ => (zo v508 k_ ∧ (zo v511 k_ ∧ (zo v514 k_ ∧ (zo v520 k_ ∧ (zo (.slice X4 t4.length G4) k_ ∧ (zo (.slice a5 x4.length I4) k_ ∧ (zo (.slice b5 y4.length J4) k_ ∧ (zo (.slice i0 u.length b0) k_ ∧ (zo (.slice l0 x.length c0) k_ ∧ (zo (.slice E D0.length I) k_ ∧ (zo (.slice J E0.length L) k_ ∧ (zo (.slice M F0.length O) k_ ∧ (zo (.slice A0 U.length t0) k_ ∧ (zo (.slice B0 X.length x0) k_ ∧ zo (.slice C0 a0.length y0) k_))))))))))))))) (n := y.length) (c := d0) ?_).2.2; exact (zlR q0.out)); (case side12 => exact (Kd.R_reads' q0.out).2.1); rintro e c9c ⟨rfl, hb⟩; refine ⟨_, rfl, ?_⟩; have R1 := zK (Kd.R_below (zlR o0.out) hb); have S1 := zK (Kd.R_below (zlR p0.out) hb); have T1 := zK (Kd.R_below (zlR q0.out) hb); have a2 := zK (Kd.R_below (zlR e0.out) hb); have b2 := zK (Kd.R_below (zlR f0.out) hb); have d2 := zK (Kd.R_below (zlR g0.out) hb); have i2 := zK (Kd.R_below (zlR A.out) hb); have m2 := zK (Kd.R_below (zlR B.out) hb); have t2 := zK (Kd.R_below (zlR D.out) hb); have x2 := zK (Kd.R_below (zlR i3.out) hb); have O1 := zK (Kd.R_below (zlR j3.out) hb); have U1 := zK (Kd.R_below (zlR l3.out) hb); have V1 := zK (Kd.R_below (zlR M3.out) hb); have X1 := zK (Kd.R_below (zlR F5.out) hb); have g2 := zK (Kd.R_below (zlR G5.out) hb); have B2 := zK (Kd.R_below (zlR I5.out) hb); have L2 := zK (zg (zV a) hb); have V2 := zK (zg (zV q) hb); have b3 := zK (zg (zV n0) hb); have G3 := zK (zg (zV T) hb); have p4 := zK (zg (zV G0) hb); have q4 := zK (zg (g := J0) (o := .cells #[.slice X4 t4.length G4, .slice a5 x4.length I4, .slice b5 y4.length J4, .int .i64 x7, .int .i64 y7, .int .i64 B7] 30 (0, 0)) (zM F1) hb); have V4 := z8 hb; revert R1 S1 T1 a2 b2 d2 i2 m2 t2 x2 O1 U1 V1 X1 g2 B2 L2 V2 b3 G3 p4 q4 V4; clear o0 p0 q0 e0 f0 g0 A B D i3 j3 l3 M3 F5 G5 I5 a q n0 T G0 F1 HB; intro o0 p0 q0 e0 f0 g0 A B D i3 j3 l3 M3 F5 G5 I5 a q n0 T G0 F1 HB))
   go_meet
   case rel => exact ⟨_, (true), zR, H', ⟨by have := L9.out; have := b0s.out; first | omega | exact Nat.le_refl _⟩, ⟨by (try simp only [U0]); (try simp only [V0]); (try simp only [X0]); (with_reducible repeat (first | apply Kd.R_alloc | apply Kd.R_drewN | apply Kd.R_drew)); exact Kd.R_mono o0.out (fun _ hk => ⟨hk.2.2.2.2.2.2.2.1, ⟨hk.2.2.2.2.2.2.2.2.1, ⟨hk.2.2.2.2.2.2.2.2.2.1, ⟨hk.2.2.2.2.2.2.2.2.2.2.1, ⟨hk.2.2.2.2.2.2.2.2.2.2.2.1, ⟨hk.2.2.2.2.2.2.2.2.2.2.2.2.1, ⟨hk.2.2.2.2.2.2.2.2.2.2.2.2.2.1, ⟨hk.2.2.2.2.2.2.2.2.2.2.2.2.2.2, ⟨hk.2.2.2.2.1, ⟨hk.2.2.2.2.2.1, hk.2.2.2.2.2.2.1⟩⟩⟩⟩⟩⟩⟩⟩⟩⟩)⟩, ⟨by (try simp only [U0]); (try simp only [V0]); (try simp only [X0]); (with_reducible repeat (first | apply Kd.R_alloc | apply Kd.R_drewN | apply Kd.R_drew)); exact Kd.R_mono p0.out (fun _ hk => ⟨hk.2.2.2.2.2.2.2.1, ⟨hk.2.2.2.2.2.2.2.2.1, ⟨hk.2.2.2.2.2.2.2.2.2.1, ⟨hk.2.2.2.2.2.2.2.2.2.2.1, ⟨hk.2.2.2.2.2.2.2.2.2.2.2.1, ⟨hk.2.2.2.2.2.2.2.2.2.2.2.2.1, ⟨hk.2.2.2.2.2.2.2.2.2.2.2.2.2.1, ⟨hk.2.2.2.2.2.2.2.2.2.2.2.2.2.2, ⟨hk.2.2.2.2.1, ⟨hk.2.2.2.2.2.1, hk.2.2.2.2.2.2.1⟩⟩⟩⟩⟩⟩⟩⟩⟩⟩)⟩, ⟨by (try simp only [U0]); (try simp only [V0]); (try simp only [X0]); (with_reducible repeat (first | apply Kd.R_alloc | apply Kd.R_drewN | apply Kd.R_drew)); exact Kd.R_mono q0.out (fun _ hk => ⟨hk.2.2.2.2.2.2.2.1, ⟨hk.2.2.2.2.2.2.2.2.1, ⟨hk.2.2.2.2.2.2.2.2.2.1, ⟨hk.2.2.2.2.2.2.2.2.2.2.1, ⟨hk.2.2.2.2.2.2.2.2.2.2.2.1, ⟨hk.2.2.2.2.2.2.2.2.2.2.2.2.1, ⟨hk.2.2.2.2.2.2.2.2.2.2.2.2.2.1, ⟨hk.2.2.2.2.2.2.2.2.2.2.2.2.2.2, ⟨hk.2.2.2.2.1, ⟨hk.2.2.2.2.2.1, hk.2.2.2.2.2.2.1⟩⟩⟩⟩⟩⟩⟩⟩⟩⟩)⟩, ⟨by (try simp only [U0]); (try simp only [V0]); (try simp only [X0]); (with_reducible repeat (first | apply Kd.R_alloc | apply Kd.R_drewN | apply Kd.R_drew)); exact Kd.R_mono e0.out (fun _ hk => ⟨hk.2.2.2.2.2.2.2.1, ⟨hk.2.2.2.2.2.2.2.2.1, ⟨hk.2.2.2.2.2.2.2.2.2.1, ⟨hk.2.2.2.2.2.2.2.2.2.2.1, ⟨hk.2.2.2.2.2.2.2.2.2.2.2.1, ⟨hk.2.2.2.2.2.2.2.2.2.2.2.2.1, ⟨hk.2.2.2.2.2.2.2.2.2.2.2.2.2.1, ⟨hk.2.2.2.2.2.2.2.2.2.2.2.2.2.2, ⟨hk.2.2.2.2.1, ⟨hk.2.2.2.2.2.1, hk.2.2.2.2.2.2.1⟩⟩⟩⟩⟩⟩⟩⟩⟩⟩)⟩, ⟨by (try simp only [U0]); (try simp only [V0]); (try simp only [X0]); (with_reducible repeat (first | apply Kd.R_alloc | apply Kd.R_drewN | apply Kd.R_drew)); exact Kd.R_mono f0.out (fun _ hk => ⟨hk.2.2.2.2.2.2.2.1, ⟨hk.2.2.2.2.2.2.2.2.1, ⟨hk.2.2.2.2.2.2.2.2.2.1, ⟨hk.2.2.2.2.2.2.2.2.2.2.1, ⟨hk.2.2.2.2.2.2.2.2.2.2.2.1, ⟨hk.2.2.2.2.2.2.2.2.2.2.2.2.1, ⟨hk.2.2.2.2.2.2.2.2.2.2.2.2.2.1, ⟨hk.2.2.2.2.2.2.2.2.2.2.2.2.2.2, ⟨hk.2.2.2.2.1, ⟨hk.2.2.2.2.2.1, hk.2.2.2.2.2.2.1⟩⟩⟩⟩⟩⟩⟩⟩⟩⟩)⟩, ⟨by (try simp only [U0]); (try simp only [V0]); (try simp only [X0]); (with_reducible repeat (first | apply Kd.R_alloc | apply Kd.R_drewN | apply Kd.R_drew)); exact Kd.R_mono g0.out (fun _ hk => ⟨hk.2.2.2.2.2.2.2.1, ⟨hk.2.2.2.2.2.2.2.2.1, ⟨hk.2.2.2.2.2.2.2.2.2.1, ⟨hk.2.2.2.2.2.2.2.2.2.2.1, ⟨hk.2.2.2.2.2.2.2.2.2.2.2.1, ⟨hk.2.2.2.2.2.2.2.2.2.2.2.2.1, ⟨hk.2.2.2.2.2.2.2.2.2.2.2.2.2.1, ⟨hk.2.2.2.2.2.2.2.2.2.2.2.2.2.2, ⟨hk.2.2.2.2.1, ⟨hk.2.2.2.2.2.1, hk.2.2.2.2.2.2.1⟩⟩⟩⟩⟩⟩⟩⟩⟩⟩)⟩, ⟨by (try simp only [U0]); (try simp only [V0]); (try simp only [X0]); (with_reducible repeat (first | apply Kd.R_alloc | apply Kd.R_drewN | apply Kd.R_drew)); exact Kd.R_mono A.out (fun _ hk => ⟨hk.2.2.2.2.2.2.2.1, ⟨hk.2.2.2.2.2.2.2.2.1, ⟨hk.2.2.2.2.2.2.2.2.2.1, ⟨hk.2.2.2.2.2.2.2.2.2.2.1, ⟨hk.2.2.2.2.2.2.2.2.2.2.2.1, ⟨hk.2.2.2.2.2.2.2.2.2.2.2.2.1, ⟨hk.2.2.2.2.2.2.2.2.2.2.2.2.2.1, ⟨hk.2.2.2.2.2.2.2.2.2.2.2.2.2.2, ⟨hk.2.2.2.2.1, ⟨hk.2.2.2.2.2.1, hk.2.2.2.2.2.2.1⟩⟩⟩⟩⟩⟩⟩⟩⟩⟩)⟩, ⟨by (try simp only [U0]); (try simp only [V0]); (try simp only [X0]); (with_reducible repeat (first | apply Kd.R_alloc | apply Kd.R_drewN | apply Kd.R_drew)); exact Kd.R_mono B.out (fun _ hk => ⟨hk.2.2.2.2.2.2.2.1, ⟨hk.2.2.2.2.2.2.2.2.1, ⟨hk.2.2.2.2.2.2.2.2.2.1, ⟨hk.2.2.2.2.2.2.2.2.2.2.1, ⟨hk.2.2.2.2.2.2.2.2.2.2.2.1, ⟨hk.2.2.2.2.2.2.2.2.2.2.2.2.1, ⟨hk.2.2.2.2.2.2.2.2.2.2.2.2.2.1, ⟨hk.2.2.2.2.2.2.2.2.2.2.2.2.2.2, ⟨hk.2.2.2.2.1, ⟨hk.2.2.2.2.2.1, hk.2.2.2.2.2.2.1⟩⟩⟩⟩⟩⟩⟩⟩⟩⟩)⟩, ⟨by (try simp only [U0]); (try simp only [V0]); (try simp only [X0]); (with_reducible repeat (first | apply Kd.R_alloc | apply Kd.R_drewN | apply Kd.R_drew)); exact Kd.R_mono D.out (fun _ hk => ⟨hk.2.2.2.2.2.2.2.1, ⟨hk.2.2.2.2.2.2.2.2.1, ⟨hk.2.2.2.2.2.2.2.2.2.1, ⟨hk.2.2.2.2.2.2.2.2.2.2.1, ⟨hk.2.2.2.2.2.2.2.2.2.2.2.1, ⟨hk.2.2.2.2.2.2.2.2.2.2.2.2.1, ⟨hk.2.2.2.2.2.2.2.2.2.2.2.2.2.1, ⟨hk.2.2.2.2.2.2.2.2.2.2.2.2.2.2, ⟨hk.2.2.2.2.1, ⟨hk.2.2.2.2.2.1, hk.2.2.2.2.2.2.1⟩⟩⟩⟩⟩⟩⟩⟩⟩⟩)⟩, ⟨by (try simp only [U0]); (try simp only [V0]); (try simp only [X0]); (with_reducible repeat (first | apply Kd.R_alloc | apply Kd.R_drewN | apply Kd.R_drew)); exact Kd.R_mono F5.out (fun _ hk => ⟨hk.2.2.2.2.2.2.1, ⟨hk.2.2.2.2.2.2.2.1, ⟨hk.2.2.2.2.2.2.2.2.1, ⟨hk.2.2.2.2.2.2.2.2.2.1, ⟨hk.2.2.2.2.2.2.2.2.2.2.1, ⟨hk.2.2.2.2.2.2.2.2.2.2.2.1, ⟨hk.2.2.2.2.2.2.2.2.2.2.2.2.1, ⟨hk.2.2.2.2.2.2.2.2.2.2.2.2.2.1, ⟨hk.2.2.2.2.2.2.2.2.2.2.2.2.2.2, ⟨hk.2.2.2.2.1, hk.2.2.2.2.2.1⟩⟩⟩⟩⟩⟩⟩⟩⟩⟩)⟩, ⟨by (try simp only [U0]); (try simp only [V0]); (try simp only [X0]); (with_reducible repeat (first | apply Kd.R_alloc | apply Kd.R_drewN | apply Kd.R_drew)); exact Kd.R_mono G5.out (fun _ hk => ⟨hk.2.2.2.2.2.2.1, ⟨hk.2.2.2.2.2.2.2.1, ⟨hk.2.2.2.2.2.2.2.2.1, ⟨hk.2.2.2.2.2.2.2.2.2.1, ⟨hk.2.2.2.2.2.2.2.2.2.2.1, ⟨hk.2.2.2.2.2.2.2.2.2.2.2.1, ⟨hk.2.2.2.2.2.2.2.2.2.2.2.2.1, ⟨hk.2.2.2.2.2.2.2.2.2.2.2.2.2.1, ⟨hk.2.2.2.2.2.2.2.2.2.2.2.2.2.2, ⟨hk.2.2.2.2.1, hk.2.2.2.2.2.1⟩⟩⟩⟩⟩⟩⟩⟩⟩⟩)⟩, ⟨by (try simp only [U0]); (try simp only [V0]); (try simp only [X0]); (with_reducible repeat (first | apply Kd.R_alloc | apply Kd.R_drewN | apply Kd.R_drew)); exact Kd.R_mono I5.out (fun _ hk => ⟨hk.2.2.2.2.2.2.1, ⟨hk.2.2.2.2.2.2.2.1, ⟨hk.2.2.2.2.2.2.2.2.1, ⟨hk.2.2.2.2.2.2.2.2.2.1, ⟨hk.2.2.2.2.2.2.2.2.2.2.1, ⟨hk.2.2.2.2.2.2.2.2.2.2.2.1, ⟨hk.2.2.2.2.2.2.2.2.2.2.2.2.1, ⟨hk.2.2.2.2.2.2.2.2.2.2.2.2.2.1, ⟨hk.2.2.2.2.2.2.2.2.2.2.2.2.2.2, ⟨hk.2.2.2.2.1, hk.2.2.2.2.2.1⟩⟩⟩⟩⟩⟩⟩⟩⟩⟩)⟩, ⟨by (try simp only [U0]); (try simp only [V0]); (try simp only [X0]); (with_reducible repeat (first | refine zn ?_ _ | refine zd ?_ | refine za ?_ _)); exact a.out⟩, ⟨by (try simp only [U0]); (try simp only [V0]); (try simp only [X0]); (with_reducible repeat (first | refine zn ?_ _ | refine zd ?_ | refine za ?_ _)); exact q.out⟩, ⟨by (try simp only [U0]); (try simp only [V0]); (try simp only [X0]); (with_reducible repeat (first | refine zn ?_ _ | refine zd ?_ | refine za ?_ _)); exact n0.out⟩, ⟨by (try simp only [U0]); (try simp only [V0]); (try simp only [X0]); (with_reducible repeat (first | refine zn ?_ _ | refine zd ?_ | refine za ?_ _)); exact T.out⟩, ⟨by (try simp only [U0]); (try simp only [V0]); (try simp only [X0]); (with_reducible repeat (first | refine zn ?_ _ | refine zd ?_ | refine za ?_ _)); exact G0.out⟩, ⟨by (try simp only [U0]); (try simp only [V0]); (try simp only [X0]); (with_reducible repeat (first | refine zn ?_ _ | refine zd ?_ | refine za ?_ _)); exact F1.out⟩, ⟨zB⟩⟩
  case rest =>
   clear a3a
   try clear c1
   try clear c2
   try clear p2
   try clear c12
   try clear c13
   try clear c18
   try clear c19
   try clear c20
   try clear S9
   try clear c9d
   try clear c9e
   try clear c9f
   try clear c9g
   try clear c9j
   try clear c9l
   try clear c9m
   try clear c9n
   try clear c9o
   try clear c9p
   try clear c9q
   try clear c9s
   try clear c9t
   try clear c9u
   try clear c9x
   try clear c9y
   try clear c9z
   try clear d0a
   try clear a7o a7p a7q a7s a7t a7u a7x a7y a7z a8a a8b a8c
   try clear a8d a8e a8f a8g a8j a8l a8m a8n a8o a8p a8q a8s
   try clear a8t a8u a8x a8y a8z a9a a9b a9c a9d a9e a9f a9g
   try clear a9j a9l a9m a9n a9o a9p a9q a9s a9t a9u a9x a9y
   obtain ⟨kq, G8, rfl, HA, c6s, o0, p0, q0, e0, f0, g0, A, B, D, G7, I7, J7, a, q, n0, T, G0, F1, HB⟩ := hcut
   have I3 := (Kd.R_reads' A.out).1
   rw [I3] at A
   (try simp only [I3])
   (try simp only [I3] at a)
   (try simp only [I3] at q)
   (try simp only [I3] at n0)
   (try simp only [I3] at T)
   (try simp only [I3] at G0)
   (try simp only [I3] at F1)
   (try simp only [I3] at o0)
   (try simp only [I3] at p0)
   (try simp only [I3] at q0)
   (try simp only [I3] at e0)
   (try simp only [I3] at f0)
   (try simp only [I3] at g0)
   (try simp only [I3] at B)
   (try simp only [I3] at D)
   (try simp only [I3] at G7)
   (try simp only [I3] at I7)
   (try simp only [I3] at J7)
   have J3 := (Kd.R_reads' B.out).1
   rw [J3] at B
   (try simp only [J3])
   (try simp only [J3] at a)
   (try simp only [J3] at q)
   (try simp only [J3] at n0)
   (try simp only [J3] at T)
   (try simp only [J3] at G0)
   (try simp only [J3] at F1)
   (try simp only [J3] at o0)
   (try simp only [J3] at p0)
   (try simp only [J3] at q0)
   (try simp only [J3] at e0)
   (try simp only [J3] at f0)
   (try simp only [J3] at g0)
   (try simp only [J3] at A)
   (try simp only [J3] at D)
   (try simp only [J3] at G7)
   (try simp only [J3] at I7)
   (try simp only [J3] at J7)
   have L3 := (Kd.R_reads' D.out).1
   rw [L3] at D
   (try simp only [L3])
   (try simp only [L3] at a)
   (try simp only [L3] at q)
   (try simp only [L3] at n0)
   (try simp only [L3] at T)
   (try simp only [L3] at G0)
   (try simp only [L3] at F1)
   (try simp only [L3] at o0)
   (try simp only [L3] at p0)
   (try simp only [L3] at q0)
   (try simp only [L3] at e0)
   (try simp only [L3] at f0)
   (try simp only [L3] at g0)
   (try simp only [L3] at A)
   (try simp only [L3] at B)
   (try simp only [L3] at G7)
   (try simp only [L3] at I7)
   (try simp only [L3] at J7)
   cases kq with
   | zero => exact absurd HA.out (by simp [laws_FnExactStepOpt.j2])
   | succ b3o =>
    have H := HA.out
    clear HA
    simp only [laws_FnExactStepOpt.j2] at H
    by_cases a3b : G8 = true
    · subst a3b
      rw [if_pos rfl] at H
      exact absurd H (by simp)
    replace a3b := Bool.eq_false_iff.mpr a3b
    subst a3b
    rw [if_neg (show ¬ (false = true) by decide)] at H
    replace H := z6 H
    obtain ⟨a9z, b1o, H⟩ := H
    have a2m := zK b1o
    clear b1o
    by_cases l9 : a9z < 0
    · rw [if_pos l9] at H
      have b3g := z1 l9
      clear l9
      exact absurd H (by simp)
    rw [if_neg l9] at H
    have b3g := z2 l9
    clear l9
    by_cases S8 : a9z = S7
    rotate_left
    · rw [if_neg S8] at H
      have b3j := beq_eq_false_iff_ne.mpr S8
      have b3l := bne_iff_ne.mpr S8
      exact absurd H (by simp)
    rw [if_pos S8] at H
    have b3j := beq_iff_eq.mpr S8
    have b3l := bne_eq_false_iff_eq.mpr S8
    clear S8
    clear H
    have c3x := e4.out
    have c3y := O0.out
    have c3z := g4.out
    have c4a := f4.out
    have c4b := V3.out
    have c4c := U3.out
    have c4d := X3.out
    have c4e := G1.out
    have c4f := x3.out
    have c4g := y3.out
    obtain ⟨b6g, b6j, b6l, b6m, b6n, b6o, b6p, b6q, b6s, b6t, b6u, b6x⟩ := zc6 G0
    go_wp2_with (first | ((with_reducible refine gc 17 rfl ?_); refine zF 119 Try.func17 #[.agg #[.slice A0 L4.length t0, .slice B0 M4.length x0, .slice C0 N4.length y0, .int .i64 o3, .int .i64 p3, .int .i64 q3], .int .i64 1] rfl zL ?_; refine (laws_heldOpt.calls b3o _ _ L4 _ _ M4 _ _ N4 o3 p3 q3 1 a9z _ (zC (Kd.R_reads' A.out).2.2) ((Kd.R_reads' A.out).2.1) (zC (Kd.R_reads' B.out).2.2) ((Kd.R_reads' B.out).2.1) (zC (Kd.R_reads' D.out).2.2) ((Kd.R_reads' D.out).2.1) a2m.out).mono ?_; rintro e d0b ⟨rfl, hb⟩; refine ⟨_, rfl, ?_⟩; have R1 := zK (Kd.R_below (zkR o0) hb); have S1 := zK (Kd.R_below (zkR p0) hb); have T1 := zK (Kd.R_below (zkR q0) hb); have a2 := zK (Kd.R_below (zkR e0) hb); have b2 := zK (Kd.R_below (zkR f0) hb); have d2 := zK (Kd.R_below (zkR g0) hb); have i2 := zK (Kd.R_below (zkR A) hb); have m2 := zK (Kd.R_below (zkR B) hb); have t2 := zK (Kd.R_below (zkR D) hb); have x2 := zK (Kd.R_below (zkR G7) hb); have O1 := zK (Kd.R_below (zkR I7) hb); have U1 := zK (Kd.R_below (zkR J7) hb); have V1 := z7 a hb; have X1 := z7 q hb; have g2 := z7 n0 hb; have B2 := z7 T hb; have L2 := z7 G0 hb; have V2 := z7 F1 hb; have b3 := z8 hb; revert R1 S1 T1 a2 b2 d2 i2 m2 t2 x2 O1 U1 V1 X1 g2 B2 L2 V2 b3; clear o0 p0 q0 e0 f0 g0 A B D G7 I7 J7 a q n0 T G0 F1 HB; intro o0 p0 q0 e0 f0 g0 A B D G7 I7 J7 a q n0 T G0 F1 HB))
    go_ret
    exact ⟨zE, zB⟩
 all_goals go_ret
 all_goals exact ⟨zE, zB⟩
end Go.Proofs.Ytodfhokndnmdoaa.PFnExactStepOpt
