-- Printed out of the translation by this session's own turned copy of a printer; Lean checks it.
import Derived.Test.YtodfhokndnmdoaaPFnFactorx0
namespace Go.Proofs.Ytodfhokndnmdoaa.PFnFactor
open Go.RowKit Go.Proofs.YtodfhokndnmdoaaW.PrintWords Go.Proofs.YtodfhokndnmdoaaW.PrintLast Go.Proofs.YtodfhokndnmdoaaW.PrintMore
attribute [local go_sem] max2_int min2_int max_two min_two max_three min_three max_four min_four
set_option linter.unusedVariables false
set_option linter.unusedSimpArgs false
set_option maxHeartbeats 8000000
set_option maxRecDepth 100000
theorem ww12a {P : Prop} (h : P := by repeat (first | (with_reducible first | exact HI0.out | apply IsS94.alloc | apply IsS94.drewN | apply IsS94.drew | apply IsS94.set_1 | apply IsS94.set_2) | exact HI0.out)) : P := h
theorem ww12b {P : Prop} (h : P := by repeat (first | (with_reducible first | exact HK.out | apply KeepBut.set_ | apply keep_drewN | apply keep_drew | apply keep_alloc) | exact HK.out)) : P := h
theorem ww12c {P : Prop} (h : P := by repeat (first | (with_reducible first | exact HI0.out | apply IsS94.alloc | apply IsS94.drewN | apply IsS94.drew | apply IsS94.set_1 | apply IsS94.set_2 | refine IsS94.far ?_ D.out _ | refine IsS94.far ?_ I.out _) | exact HI0.out)) : P := h
theorem ww12d {P : Prop} (h : P := by repeat (first | (with_reducible first | exact HK.out | apply KeepBut.set_ | apply keep_drewN | apply keep_drew | apply keep_alloc | refine keep_far ?_ T.out _ | refine keep_far ?_ f0.out _) | exact HK.out)) : P := h
theorem ww12e {P : Prop} (h : P := by repeat (first | (with_reducible first | exact HB.out | apply zb | apply zw | apply ze | refine zs ?_ (IsS94.ge HI0.out)) | exact HB.out)) : P := h
theorem ww12f {P : Prop} (h : P := by repeat (first | (with_reducible first | exact HB.out | apply zb | apply zw | apply ze | refine zs ?_ (IsS94.ge HI0.out) | refine zs ?_ e0.out | refine zs ?_ p0.out) | exact HB.out)) : P := h
theorem ww12g {P : Prop} (h : P := by repeat (first | (with_reducible first | exact HBW.out | apply zb | apply zw | apply ze) | exact HBW.out)) : P := h
theorem ww12h {P : Prop} (h : P := by repeat (first | (with_reducible first | exact HI0.out | apply IsS94.alloc | apply IsS94.drewN | apply IsS94.drew | apply IsS94.set_1 | apply IsS94.set_2 | refine IsS94.far ?_ D.out _) | exact HI0.out)) : P := h
theorem ww12i {P : Prop} (h : P := by repeat (first | (with_reducible first | exact HK.out | apply KeepBut.set_ | apply keep_drewN | apply keep_drew | apply keep_alloc | refine keep_far ?_ T.out _) | exact HK.out)) : P := h
theorem ww12j {P : Prop} (h : P := by repeat (first | (with_reducible first | exact HB.out | apply zb | apply zw | apply ze | refine zs ?_ (IsS94.ge HI0.out) | refine zs ?_ e0.out) | exact HB.out)) : P := h
def laws_big.f (q : List Int) : Option (Bool) := some (decide ((q.length : Int) > 1048576))
theorem laws_big.calls (z) (A) (q : List Int) (r : Bool) (w) (u : Kd.C (Kd.int .u8) w z q.length q) (y : q.length ≤ A) (h : laws_big.f q = some r) :
 Calls Try.prog 24 #[.slice z q.length A] w fun e w' => e = .returned (.bool r) ∧ Drawn0 w w' := by
 have D := zK u
 have E := zK y
 clear u y
 have H : (some (decide ((q.length : Int) > 1048576))) = some r := h
 clear h
 obtain rfl := z5 H
 go_enter Try.func24, Try.ntmps24
 go_wp2
 go_ret
 exact ⟨zR, zD⟩
/-- A state of type 94 at block g of W; what its slices lead to came in by w0. -/
def IsS94 (w0 W : World) (g : Nat) (f0 : List Int) (f1 : Int) (f2 : Int) : Prop := ∃ q u, W.heap[g]? = some (.cells #[.slice q f0.length u, .int .i64 f1, .int .i64 f2] 94 (0, 0)) ∧ w0.heap.size ≤ g ∧ Kd.C (Kd.int .u8) w0 q f0.length f0
theorem IsS94.grown {w0 W : World} {g : Nat} {f0 : List Int} {f1 : Int} {f2 : Int} {W1 : World} {row : Option Nat} (h : IsS94 w0 W g f0 f1 f2) (hw : W.grownBy W1 row) (hne : some g ≠ row) : IsS94 w0 W1 g f0 f1 f2 := by
 obtain ⟨u, y, hb, hg, q⟩ := h
 exact ⟨u, y, blk_grown hb hw hne, hg, q⟩
theorem IsS94.below {w0 W : World} {g : Nat} {f0 : List Int} {f1 : Int} {f2 : Int} {W1 : World} (h : IsS94 w0 W g f0 f1 f2) (hw : Below W.heap.size W W1) : IsS94 w0 W1 g f0 f1 f2 := h.grown (grown_of_below hw none) (by simp)
theorem IsS94.alloc {w0 W : World} {g : Nat} {f0 : List Int} {f1 : Int} {f2 : Int} (h : IsS94 w0 W g f0 f1 f2) (o : Obj) : IsS94 w0 (W.alloc o) g f0 f1 f2 := h.below (zb (Below.refl _ _) o)
theorem IsS94.drewN {w0 W : World} {g : Nat} {f0 : List Int} {f1 : Int} {f2 : Int} (h : IsS94 w0 W g f0 f1 f2) (m : Nat) : IsS94 w0 (W.drewN m) g f0 f1 f2 := h
theorem IsS94.drew {w0 W : World} {g : Nat} {f0 : List Int} {f1 : Int} {f2 : Int} (h : IsS94 w0 W g f0 f1 f2) : IsS94 w0 W.drew g f0 f1 f2 := h
theorem IsS94.apart {w0 W : World} {g : Nat} {f0 : List Int} {f1 : Int} {f2 : Int} {α : Type} {d : Kd α} {e : Nat} {base : Nat} {ok : Nat → Prop} {v : Value} {xs : List α} (h : IsS94 w0 W g f0 f1 f2) (ho : d.R e W base ok v xs) (ht : ∀ q, q ∈ e :: d.E → q ≠ 94) : d.R e W base (fun k => ok k ∧ k ≠ g) v xs := by
 obtain ⟨y, z, hb, hg, u⟩ := h
 exact Kd.R_types ho hb ht
theorem IsS94.own_ne {w0 W : World} {g : Nat} {f0 : List Int} {f1 : Int} {f2 : Int} {α : Type} {d : Kd α} {e : Nat} {base : Nat} {ok : Nat → Prop} {v : Value} {xs : List α} (h : IsS94 w0 W g f0 f1 f2) (ho : d.R e W base ok v xs) (ht : e ≠ 94) : some g ≠ v.ownBlock := by
 obtain ⟨u, y, hb, hg, q⟩ := h
 exact Kd.R_ne ho hb ht
theorem IsS94.apartQ {w0 W : World} {g : Nat} {f0 : List Int} {f1 : Int} {f2 : Int} {α : Type} {d : Kd α} {e : Nat} {base : Nat} {ok : Nat → Prop} {v : Value} {xs : List α} (h : IsS94 w0 W g f0 f1 f2) (ho : d.Q e W base ok v xs) (ht : ∀ q, q ∈ e :: d.E → q ≠ 94) : d.Q e W base (fun k => ok k ∧ k ≠ g) v xs := by
 obtain ⟨y, z, hb, hg, u⟩ := h
 exact Kd.Q_types ho hb ht
theorem IsS94.own_neQ {w0 W : World} {g : Nat} {f0 : List Int} {f1 : Int} {f2 : Int} {α : Type} {d : Kd α} {e : Nat} {base : Nat} {ok : Nat → Prop} {v : Value} {xs : List α} (h : IsS94 w0 W g f0 f1 f2) (ho : d.Q e W base ok v xs) (ht : e ≠ 94) : some g ≠ v.ownBlock := by
 obtain ⟨u, y, hb, hg, q⟩ := h
 exact Kd.Q_ne ho hb ht
theorem IsS94.lt {w0 W : World} {g : Nat} {f0 : List Int} {f1 : Int} {f2 : Int} (h : IsS94 w0 W g f0 f1 f2) : g < W.heap.size := by
 obtain ⟨u, y, hb, hg, q⟩ := h
 exact blk_lt hb
theorem IsS94.ge {w0 W : World} {g : Nat} {f0 : List Int} {f1 : Int} {f2 : Int} (h : IsS94 w0 W g f0 f1 f2) : w0.heap.size ≤ g := by
 obtain ⟨u, y, hb, hg, q⟩ := h
 exact hg
theorem IsS94.ne_blk {w0 W : World} {g : Nat} {f0 : List Int} {f1 : Int} {f2 : Int} {a : Nat} {cs : Array Value} {t : TypeId} {fr : Nat × Nat} (h : IsS94 w0 W g f0 f1 f2) (hb2 : W.heap[a]? = some (.cells cs t fr)) (ht : t ≠ 94) : g ≠ a := by
 obtain ⟨u, y, hb, hg, q⟩ := h
 rintro rfl
 rw [hb] at hb2
 injection hb2 with hb2
 injection hb2 with _ ht2
 exact ht ht2.symm
theorem IsS94.far {w0 W : World} {g : Nat} {f0 : List Int} {f1 : Int} {f2 : Int} {p : Addr} (h : IsS94 w0 W g f0 f1 f2) (hne : g ≠ p.block) (u : Value) : IsS94 w0 (W.setCell p u) g f0 f1 f2 := by
 obtain ⟨y, z, hb, hg, q⟩ := h
 exact ⟨y, z, blk_far hb hne u, hg, q⟩
theorem cellS94_0 {W : World} {g : Nat} {q : Option Addr} {u : Nat} {f0 : List Int} {f1 : Int} {f2 : Int} (h : W.heap[g]? = some (.cells #[.slice q f0.length u, .int .i64 f1, .int .i64 f2] 94 (0, 0))) : W.cell? ⟨g, 0, none⟩ = some (.slice q f0.length u) := (zc h 0).trans rfl
theorem cellS94_1 {W : World} {g : Nat} {q : Option Addr} {u : Nat} {f0 : List Int} {f1 : Int} {f2 : Int} (h : W.heap[g]? = some (.cells #[.slice q f0.length u, .int .i64 f1, .int .i64 f2] 94 (0, 0))) : W.cell? ⟨g, 1, none⟩ = some (.int .i64 f1) := (zc h 1).trans rfl
theorem IsS94.set_1 {w0 W : World} {g : Nat} {f0 : List Int} {f1 : Int} {f2 : Int} (h : IsS94 w0 W g f0 f1 f2) (x : Int) : IsS94 w0 (W.setCell ⟨g, 1, none⟩ (.int .i64 x)) g f0 x f2 := by
 obtain ⟨u, y, hb, hg, q⟩ := h
 exact ⟨u, y, by simpa using blk_set hb 1 (.int .i64 x), hg, q⟩
theorem cellS94_2 {W : World} {g : Nat} {q : Option Addr} {u : Nat} {f0 : List Int} {f1 : Int} {f2 : Int} (h : W.heap[g]? = some (.cells #[.slice q f0.length u, .int .i64 f1, .int .i64 f2] 94 (0, 0))) : W.cell? ⟨g, 2, none⟩ = some (.int .i64 f2) := (zc h 2).trans rfl
theorem IsS94.set_2 {w0 W : World} {g : Nat} {f0 : List Int} {f1 : Int} {f2 : Int} (h : IsS94 w0 W g f0 f1 f2) (x : Int) : IsS94 w0 (W.setCell ⟨g, 2, none⟩ (.int .i64 x)) g f0 f1 x := by
 obtain ⟨u, y, hb, hg, q⟩ := h
 exact ⟨u, y, by simpa using blk_set hb 2 (.int .i64 x), hg, q⟩
def spec_l1New.l0 : Nat → List Int → Int → Int → Option (List Int × Int × Int)
 | 0, _, _, _ => none
 | k + 1, q, y, u => if u < (q.length : Int) then (if u < 4000 then (if 0 ≤ u then (spec_l1New.l0 k q (Go.bits .and .i64 (wrap64 ((wrap64 ((wrap64 (y * 131)) + (wrap64 (rd q u)))) + 7)) 1073741823) (wrap64 (u + 1))) else (none)) else (some (q, 0, y))) else (some (q, 0, y))
def spec_l1New.f (k : Nat) (q : List Int) : Option (List Int × Int × Int) := spec_l1New.l0 k q (wrap64 (71933 + (q.length : Int))) 0
theorem spec_l1New.calls (k) (A0) (c0) (y : List Int) (r1 : List Int) (r2) (r3) (w0 w : World) (hB : Below w0.heap.size w0 w) (o0 : Kd.C (Kd.int .u8) w0 A0 y.length y) (p0 : y.length ≤ c0) (h : spec_l1New.f k y = some (r1, r2, r3)) :
 Calls Try.prog 56 #[.slice A0 y.length c0] w fun e w' => ∃ g_ : Nat, e = .returned (.pointer (some ⟨g_, 0, none⟩)) ∧ IsS94 w0 w' g_ r1 r2 r3 ∧ Below w0.heap.size w0 w' ∧ Below w.heap.size w w' := by
 have B0 := Try.underlying94
 have M := zK o0
 have D0 := zK p0
 clear o0 p0
 have HBW := zK (Below.refl w.heap.size w)
 have HW0 := zK hB.size
 have HB := zK hB
 clear hB
 have H : (spec_l1New.l0 k y (wrap64 (71933 + (y.length : Int))) 0) = some (r1, r2, r3) := h
 clear h
 have H' := zK H
 clear H
 go_enter Try.func56, Try.ntmps56
 go_wp2
 go_loopg [3, 4] k (fun kq v3 v4 w' => ∃ (u : Int) (q : Int), v3 = .int .i64 u ∧ v4 = .int .i64 q ∧ Aside0 (spec_l1New.l0 kq y u q = some (r1, r2, r3)) ∧ Aside0 (kq ≤ k) ∧ Aside0 (Below w0.heap.size w0 w') ∧ Aside0 (Below w.heap.size w w'))
 case atStart => exact ⟨(wrap64 (71933 + (y.length : Int))), (0), zR, zR, H', ⟨Nat.le_refl _⟩, ⟨zB⟩, ⟨ww12g⟩⟩
 clear H'
 clear HBW
 obtain ⟨u, q, rfl, rfl, HA, q0, HB, HBW⟩ := hrel
 rcases gk with _ | k1
 · exact absurd HA.out (by simp [spec_l1New.l0])
 have H := HA.out
 clear HA
 simp only [spec_l1New.l0] at H
 by_cases J : q < (y.length : Int)
 rotate_left
 · rw [if_neg J] at H
   have s0 := z2 J
   clear J
   simp only [Option.some.injEq, Prod.mk.injEq] at H
   obtain ⟨rfl, rfl, rfl⟩ := H
   go_wp2_with (first | ((with_reducible refine gd 31 rfl ?_); refine zJ 31 #[.slice A0 y.length c0, .int .i64 0, .int .i64 u] 94 ?_; intro z hg w6 hbox hb; have O := zK (zp HBW.out hb); have T := z8 hb; have U := zK (hbox); have X := zK ((by rw [hg]; exact (zz (ww12g)) : w.heap.size ≤ z)); have a0 := zK ((Nat.le_trans HW0.out (by rw [hg]; exact (zz (ww12g)) : w.heap.size ≤ z) : w0.heap.size ≤ z)); revert O T U X a0; clear HBW HB; intro HBW HB e0 f0 g0; clear hb hbox hg))
   go_ret
   exact ⟨_, rfl, (show IsS94 w0 _ z y 0 u from ⟨_, _, zM e0, g0.out, M.out⟩), zB, by repeat (first | (with_reducible first | exact HBW.out | apply zb | apply zw | apply ze | refine zs ?_ f0.out) | exact HBW.out)⟩
 rw [if_pos J] at H
 have s0 := z1 J
 clear J
 by_cases L : q < 4000
 · rw [if_pos L] at H
   have t0 := z1 L
   clear L
   by_cases c4 : 0 ≤ q
   rotate_left
   · rw [if_neg c4] at H
     exact absurd H (by simp)
   rw [if_pos c4] at H
   have C0 := z1 c4
   clear c4
   have H' := zK H
   clear H
   have E : 0 ≤ (q : Int) := z3
   have I : q < (y.length : Int) := z3
   obtain ⟨y0, x0, D⟩ := Kd.at_int M.out q E I
   cases x0
   replace D := pw_cell_below HB.out D
   replace E := eq_true E
   replace I := eq_true I
   go_wp2
   go_roundg k1
   case measure => have := q0.out; omega
   case rel => exact ⟨(Go.bits .and .i64 (wrap64 ((wrap64 ((wrap64 (u * 131)) + (wrap64 (rd y q)))) + 7)) 1073741823), (wrap64 (q + 1)), zR, zR, H', ⟨by have := q0.out; omega⟩, ⟨zB⟩, ⟨ww12g⟩⟩
 rw [if_neg L] at H
 have t0 := z2 L
 clear L
 simp only [Option.some.injEq, Prod.mk.injEq] at H
 obtain ⟨rfl, rfl, rfl⟩ := H
 go_wp2_with (first | ((with_reducible refine gd 31 rfl ?_); refine zJ 31 #[.slice A0 y.length c0, .int .i64 0, .int .i64 u] 94 ?_; intro A hg w5 hbox hb; have O := zK (zp HBW.out hb); have T := z8 hb; have U := zK (hbox); have X := zK ((by rw [hg]; exact (zz (ww12g)) : w.heap.size ≤ A)); have a0 := zK ((Nat.le_trans HW0.out (by rw [hg]; exact (zz (ww12g)) : w.heap.size ≤ A) : w0.heap.size ≤ A)); revert O T U X a0; clear HBW HB; intro HBW HB j0 m0 n0; clear hb hbox hg))
 go_ret
 exact ⟨_, rfl, (show IsS94 w0 _ A y 0 u from ⟨_, _, zM j0, n0.out, M.out⟩), zB, by repeat (first | (with_reducible first | exact HBW.out | apply zb | apply zw | apply ze | refine zs ?_ m0.out) | exact HBW.out)⟩
def spec_l1Byte.f (y : List Int) (u : Int) (q : Int) : Option (Int × Int × Int) := if u < (y.length : Int) then (if 0 ≤ u then (some (Go.bits .and .i64 (wrap64 ((Go.bits .and .i64 (Go.bits .xor .i64 ((wrap64 ((wrap64 (q * 6364136223846793005)) + 1442695040888963407)) / 8589934592) ((wrap64 ((wrap64 (q * 6364136223846793005)) + 1442695040888963407)) / 35184372088832)) 255) + (wrap64 (rd y u)))) 255, wrap64 (u + 1), wrap64 ((wrap64 (q * 6364136223846793005)) + 1442695040888963407))) else (none)) else (some (Go.bits .and .i64 (Go.bits .xor .i64 ((wrap64 ((wrap64 (q * 6364136223846793005)) + 1442695040888963407)) / 8589934592) ((wrap64 ((wrap64 (q * 6364136223846793005)) + 1442695040888963407)) / 35184372088832)) 255, u, wrap64 ((wrap64 (q * 6364136223846793005)) + 1442695040888963407)))
theorem spec_l1Byte.calls (g) (A : List Int) (q) (y) (r1) (r2) (r3) (w0 w : World) (hI : IsS94 w0 w g A q y) (hB : Below w0.heap.size w0 w) (h : spec_l1Byte.f A q y = some (r1, r2, r3)) :
 Calls Try.prog 78 #[.pointer (some ⟨g, 0, none⟩)] w fun e w' => e = .returned (.int .i64 r1) ∧ IsS94 w0 w' g A r2 r3 ∧ Below w0.heap.size w0 w' ∧ KeepBut w w' g none := by
 have HI0 := zK hI
 have HK := zK (KeepBut.refl w g none)
 have HL := zK hB.size
 clear hI
 have HW0 := zK hB.size
 have HB := zK hB
 clear hB
 have H : (if q < (A.length : Int) then (if 0 ≤ q then (some (Go.bits .and .i64 (wrap64 ((Go.bits .and .i64 (Go.bits .xor .i64 ((wrap64 ((wrap64 (y * 6364136223846793005)) + 1442695040888963407)) / 8589934592) ((wrap64 ((wrap64 (y * 6364136223846793005)) + 1442695040888963407)) / 35184372088832)) 255) + (wrap64 (rd A q)))) 255, wrap64 (q + 1), wrap64 ((wrap64 (y * 6364136223846793005)) + 1442695040888963407))) else (none)) else (some (Go.bits .and .i64 (Go.bits .xor .i64 ((wrap64 ((wrap64 (y * 6364136223846793005)) + 1442695040888963407)) / 8589934592) ((wrap64 ((wrap64 (y * 6364136223846793005)) + 1442695040888963407)) / 35184372088832)) 255, q, wrap64 ((wrap64 (y * 6364136223846793005)) + 1442695040888963407)))) = some (r1, r2, r3) := h
 clear h
 by_cases I : q < (A.length : Int)
 rotate_left
 · rw [if_neg I] at H
   have M := z2 I
   clear I
   simp only [Option.some.injEq, Prod.mk.injEq] at H
   obtain ⟨rfl, rfl, rfl⟩ := H
   obtain ⟨ASz5_0, cSz5_0, HGz5, hgz5, HSz5_0⟩ := HI0.out
   have U := cellS94_0 HGz5
   have X := cellS94_1 HGz5
   have a0 := cellS94_2 HGz5
   have b0 := zf HGz5 1
   have c0 := zf HGz5 2
   clear HGz5 hgz5
   go_enter Try.func78, Try.ntmps78
   go_wp2
   repeat (go_quiet (fail); try go_wp2)
   go_ret
   exact ⟨zE, ww12a, ww12e, ww12b⟩
 rw [if_pos I] at H
 have M := z1 I
 clear I
 by_cases J : 0 ≤ q
 rotate_left
 · rw [if_neg J] at H
   exact absurd H (by simp)
 rw [if_pos J] at H
 have j0 := z1 J
 clear J
 simp only [Option.some.injEq, Prod.mk.injEq] at H
 obtain ⟨rfl, rfl, rfl⟩ := H
 obtain ⟨ASz4_0, cSz4_0, HGz4, hgz4, HSz4_0⟩ := HI0.out
 have d0 := cellS94_0 HGz4
 have e0 := cellS94_1 HGz4
 have f0 := cellS94_2 HGz4
 have g0 := zf HGz4 1
 have i0 := zf HGz4 2
 clear HGz4 hgz4
 have D : 0 ≤ (q : Int) := z3
 have E : q < (A.length : Int) := z3
 obtain ⟨L, O, u⟩ := Kd.at_int HSz4_0 q D E
 cases O
 have z : L.block ≠ g := Nat.ne_of_lt (Nat.lt_of_lt_of_le (by have := World.block_lt_of_cell? _ _ u; first | rwa [add_block] at this | exact this) (IsS94.ge HI0.out))
 replace u := pw_cell_below HB.out u
 replace u := (cell_far (p := ⟨g, 2, none⟩) (by first | (rw [add_block]; exact z) | (show (Addr.add _ _).block ≠ _; rw [add_block]; exact z) | exact z) (.int .i64 (wrap64 ((wrap64 (y * 6364136223846793005)) + 1442695040888963407)))).trans u
 (try have T := fun (n_ : Nat) => (show (((w.drewN n_).setCell ⟨g, 2, none⟩ (.int .i64 (wrap64 ((wrap64 (y * 6364136223846793005)) + 1442695040888963407))))).cell? _ = some _ from u))
 clear z
 replace D := eq_true D
 replace E := eq_true E
 go_enter Try.func78, Try.ntmps78
 go_wp2
 repeat (go_quiet (fail); try go_wp2)
 go_ret
 exact ⟨zE, ww12a, ww12e, ww12b⟩
def spec_l1Below.f (q : List Int) (E : Int) (I : Int) (J : Int) : Option (Int × Int × Int) := if J ≤ 0 then (some (0, E, I)) else (if J ≤ 256 then ((spec_l1Byte.f q E I).bind fun u => (if J = 0 then (none) else (some (Int.tmod u.1 J, u.2.1, u.2.2)))) else ((spec_l1Byte.f q E I).bind fun y => ((spec_l1Byte.f q y.2.1 y.2.2).bind fun z => ((spec_l1Byte.f q z.2.1 z.2.2).bind fun A => ((spec_l1Byte.f q A.2.1 A.2.2).bind fun D => (if J = 0 then (none) else (some (Int.tmod (wrap64 ((wrap64 ((wrap64 ((wrap64 (y.1 * 16777216)) + (wrap64 (z.1 * 65536)))) + (wrap64 (A.1 * 256)))) + D.1)) J, D.2.1, D.2.2))))))))
theorem spec_l1Below.calls (g) (q : List Int) (D) (E) (z) (r1) (r2) (r3) (w0 w : World) (hI : IsS94 w0 w g q D E) (hB : Below w0.heap.size w0 w) (h : spec_l1Below.f q D E z = some (r1, r2, r3)) :
 Calls Try.prog 60 #[.pointer (some ⟨g, 0, none⟩), .int .i64 z] w fun e w' => e = .returned (.int .i64 r1) ∧ IsS94 w0 w' g q r2 r3 ∧ Below w0.heap.size w0 w' ∧ KeepBut w w' g none := by
 have HI0 := zK hI
 have HK := zK (KeepBut.refl w g none)
 have HL := zK hB.size
 clear hI
 have HW0 := zK hB.size
 have HB := zK hB
 clear hB
 have H : (if z ≤ 0 then (some (0, D, E)) else (if z ≤ 256 then ((spec_l1Byte.f q D E).bind fun O => (if z = 0 then (none) else (some (Int.tmod O.1 z, O.2.1, O.2.2)))) else ((spec_l1Byte.f q D E).bind fun T => ((spec_l1Byte.f q T.2.1 T.2.2).bind fun A => ((spec_l1Byte.f q A.2.1 A.2.2).bind fun y => ((spec_l1Byte.f q y.2.1 y.2.2).bind fun u => (if z = 0 then (none) else (some (Int.tmod (wrap64 ((wrap64 ((wrap64 ((wrap64 (T.1 * 16777216)) + (wrap64 (A.1 * 65536)))) + (wrap64 (y.1 * 256)))) + u.1)) z, u.2.1, u.2.2))))))))) = some (r1, r2, r3) := h
 clear h
 by_cases c3 : z ≤ 0
 · rw [if_pos c3] at H
   have C0 := z1 c3
   clear c3
   simp only [Option.some.injEq, Prod.mk.injEq] at H
   obtain ⟨rfl, rfl, rfl⟩ := H
   go_enter Try.func60, Try.ntmps60
   go_wp2
   go_ret
   exact ⟨zE, ww12a, ww12e, ww12b⟩
 rw [if_neg c3] at H
 have C0 := z2 c3
 clear c3
 by_cases c4 : z ≤ 256
 · rw [if_pos c4] at H
   have D0 := z1 c4
   clear c4
   replace H := z6 H
   obtain ⟨⟨l0, m0, n0⟩, y0, H⟩ := H
   replace H : (if z = 0 then (none) else (some (Int.tmod l0 z, m0, n0))) = some (r1, r2, r3) := H
   have A5 := zK y0
   clear y0
   by_cases c6 : z = 0
   · rw [if_pos c6] at H
     exact absurd H (by simp)
   rw [if_neg c6] at H
   have L0 := beq_eq_false_iff_ne.mpr c6
   have M0 := bne_iff_ne.mpr c6
   simp only [Option.some.injEq, Prod.mk.injEq] at H
   obtain ⟨rfl, rfl, rfl⟩ := H
   go_enter Try.func60, Try.ntmps60
   go_wp2_with (first | ((with_reducible refine gc 78 rfl ?_); refine zF 14 Try.func78 #[.pointer (some ⟨g, 0, none⟩)] rfl zL ?_; (with_reducible refine (spec_l1Byte.calls g q D E l0 m0 n0 w0 _ ?side1 ?side2 A5.out).mono ?_); (case side1 => exact ww12a); (case side2 => exact ww12e); rintro e w7 ⟨rfl, hi, hb, hk⟩; refine ⟨_, rfl, ?_⟩; have I := zK (KeepBut.trans (ww12b) hk (.inl rfl)); have J := zK (hb); have L := zK (hi); revert I J L; clear HK HB HI0; intro HK HB HI0))
   go_ret
   exact ⟨zE, ww12a, ww12e, ww12b⟩
 rw [if_neg c4] at H
 have D0 := z2 c4
 clear c4
 replace H := z6 H
 obtain ⟨⟨M, X, a0⟩, A0, H⟩ := H
 replace H : ((spec_l1Byte.f q X a0).bind fun A => ((spec_l1Byte.f q A.2.1 A.2.2).bind fun y => ((spec_l1Byte.f q y.2.1 y.2.2).bind fun u => (if z = 0 then (none) else (some (Int.tmod (wrap64 ((wrap64 ((wrap64 ((wrap64 (M * 16777216)) + (wrap64 (A.1 * 65536)))) + (wrap64 (y.1 * 256)))) + u.1)) z, u.2.1, u.2.2)))))) = some (r1, r2, r3) := H
 have A8 := zK A0
 clear A0
 replace H := z6 H
 obtain ⟨⟨U, b0, c0⟩, B0, H⟩ := H
 replace H : ((spec_l1Byte.f q b0 c0).bind fun y => ((spec_l1Byte.f q y.2.1 y.2.2).bind fun u => (if z = 0 then (none) else (some (Int.tmod (wrap64 ((wrap64 ((wrap64 ((wrap64 (M * 16777216)) + (wrap64 (U * 65536)))) + (wrap64 (y.1 * 256)))) + u.1)) z, u.2.1, u.2.2))))) = some (r1, r2, r3) := H
 have A9 := zK B0
 clear B0
 replace H := z6 H
 obtain ⟨⟨d0, e0, f0⟩, o0, H⟩ := H
 replace H : ((spec_l1Byte.f q e0 f0).bind fun u => (if z = 0 then (none) else (some (Int.tmod (wrap64 ((wrap64 ((wrap64 ((wrap64 (M * 16777216)) + (wrap64 (U * 65536)))) + (wrap64 (d0 * 256)))) + u.1)) z, u.2.1, u.2.2)))) = some (r1, r2, r3) := H
 have E0 := zK o0
 clear o0
 replace H := z6 H
 obtain ⟨⟨p0, q0, s0⟩, t0, H⟩ := H
 replace H : (if z = 0 then (none) else (some (Int.tmod (wrap64 ((wrap64 ((wrap64 ((wrap64 (M * 16777216)) + (wrap64 (U * 65536)))) + (wrap64 (d0 * 256)))) + p0)) z, q0, s0))) = some (r1, r2, r3) := H
 have F0 := zK t0
 clear t0
 by_cases g0 : z = 0
 · rw [if_pos g0] at H
   exact absurd H (by simp)
 rw [if_neg g0] at H
 have G0 := beq_eq_false_iff_ne.mpr g0
 have I0 := bne_iff_ne.mpr g0
 simp only [Option.some.injEq, Prod.mk.injEq] at H
 obtain ⟨rfl, rfl, rfl⟩ := H
 go_enter Try.func60, Try.ntmps60
 go_wp2_with (first | ((with_reducible refine gc 78 rfl ?_); refine zF 18 Try.func78 #[.pointer (some ⟨g, 0, none⟩)] rfl zL ?_; (with_reducible refine (spec_l1Byte.calls g q D E M X a0 w0 _ ?side1 ?side2 A8.out).mono ?_); (case side1 => exact ww12a); (case side2 => exact ww12e); rintro e R0 ⟨rfl, hi, hb, hk⟩; refine ⟨_, rfl, ?_⟩; have I := zK (KeepBut.trans (ww12b) hk (.inl rfl)); have J := zK (hb); have L := zK (hi); revert I J L; clear HK HB HI0; intro HK HB HI0) | ((with_reducible refine gc 78 rfl ?_); refine zF 20 Try.func78 #[.pointer (some ⟨g, 0, none⟩)] rfl zL ?_; (with_reducible refine (spec_l1Byte.calls g q X a0 U b0 c0 w0 _ ?side1 ?side2 A9.out).mono ?_); (case side1 => exact ww12a); (case side2 => exact ww12e); rintro e S0 ⟨rfl, hi, hb, hk⟩; refine ⟨_, rfl, ?_⟩; have I := zK (KeepBut.trans (ww12b) hk (.inl rfl)); have J := zK (hb); have L := zK (hi); revert I J L; clear HK HB HI0; intro HK HB HI0) | ((with_reducible refine gc 78 rfl ?_); refine zF 22 Try.func78 #[.pointer (some ⟨g, 0, none⟩)] rfl zL ?_; (with_reducible refine (spec_l1Byte.calls g q b0 c0 d0 e0 f0 w0 _ ?side1 ?side2 E0.out).mono ?_); (case side1 => exact ww12a); (case side2 => exact ww12e); rintro e T0 ⟨rfl, hi, hb, hk⟩; refine ⟨_, rfl, ?_⟩; have I := zK (KeepBut.trans (ww12b) hk (.inl rfl)); have J := zK (hb); have L := zK (hi); revert I J L; clear HK HB HI0; intro HK HB HI0) | ((with_reducible refine gc 78 rfl ?_); refine zF 24 Try.func78 #[.pointer (some ⟨g, 0, none⟩)] rfl zL ?_; (with_reducible refine (spec_l1Byte.calls g q e0 f0 p0 q0 s0 w0 _ ?side1 ?side2 F0.out).mono ?_); (case side1 => exact ww12a); (case side2 => exact ww12e); rintro e U0 ⟨rfl, hi, hb, hk⟩; refine ⟨_, rfl, ?_⟩; have I := zK (KeepBut.trans (ww12b) hk (.inl rfl)); have J := zK (hb); have L := zK (hi); revert I J L; clear HK HB HI0; intro HK HB HI0))
 go_ret
 exact ⟨zE, ww12a, ww12e, ww12b⟩
def spec_l1Once.f (u : List Int) (y : Int) (z : Int) (A : Int) : Option (Bool × Int × Int) := (spec_l1Below.f u y z A).bind fun q => (some ((q.1 == 0), q.2.1, q.2.2))
theorem spec_l1Once.calls (g) (q : List Int) (u) (y) (A) (r1 : Bool) (r2) (r3) (w0 w : World) (hI : IsS94 w0 w g q u y) (hB : Below w0.heap.size w0 w) (h : spec_l1Once.f q u y A = some (r1, r2, r3)) :
 Calls Try.prog 76 #[.pointer (some ⟨g, 0, none⟩), .int .i64 A] w fun e w' => e = .returned (.bool r1) ∧ IsS94 w0 w' g q r2 r3 ∧ Below w0.heap.size w0 w' ∧ KeepBut w w' g none := by
 have HI0 := zK hI
 have HK := zK (KeepBut.refl w g none)
 have HL := zK hB.size
 clear hI
 have HW0 := zK hB.size
 have HB := zK hB
 clear hB
 have H : ((spec_l1Below.f q u y A).bind fun z => (some ((z.1 == 0), z.2.1, z.2.2))) = some (r1, r2, r3) := h
 clear h
 replace H := z6 H
 obtain ⟨⟨D, E, I⟩, J, H⟩ := H
 replace H : (some ((D == 0), E, I)) = some (r1, r2, r3) := H
 have T := zK J
 clear J
 simp only [Option.some.injEq, Prod.mk.injEq] at H
 obtain ⟨rfl, rfl, rfl⟩ := H
 go_enter Try.func76, Try.ntmps76
 go_wp2_with (first | ((with_reducible refine gc 60 rfl ?_); refine zF 7 Try.func60 #[.pointer (some ⟨g, 0, none⟩), .int .i64 A] rfl zL ?_; (with_reducible refine (spec_l1Below.calls g q u y A D E I w0 _ ?side1 ?side2 T.out).mono ?_); (case side1 => exact ww12a); (case side2 => exact ww12e); rintro e U ⟨rfl, hi, hb, hk⟩; refine ⟨_, rfl, ?_⟩; have L := zK (KeepBut.trans (ww12b) hk (.inl rfl)); have M := zK (hb); have O := zK (hi); revert L M O; clear HK HB HI0; intro HK HB HI0))
 go_ret
 exact ⟨zE, ww12a, ww12e, ww12b⟩
def spec_l1PickInt.f (u : List Int) (y : Int) (z : Int) (A : List Int) : Option (Int × Int × Int) := (spec_l1Below.f u y z (A.length : Int)).bind fun q => (if 0 ≤ q.1 then (if q.1 < (A.length : Int) then (some (rd A q.1, q.2.1, q.2.2)) else (none)) else (none))
theorem spec_l1PickInt.calls (g) (z : List Int) (D) (E) (A1) (c1) (u : List Int) (r1) (r2) (r3) (w0 w : World) (hI : IsS94 w0 w g z D E) (hB : Below w0.heap.size w0 w) (X : Kd.C (Kd.int .i64) w A1 u.length u) (a0 : u.length ≤ c1) (hf1 : ∀ ad, A1 = some ad → 0 < u.length → ad.block ≠ g) (h : spec_l1PickInt.f z D E u = some (r1, r2, r3)) :
 Calls Try.prog 77 #[.pointer (some ⟨g, 0, none⟩), .slice A1 u.length c1] w fun e w' => e = .returned (.int .i64 r1) ∧ IsS94 w0 w' g z r2 r3 ∧ Below w0.heap.size w0 w' ∧ KeepBut w w' g none := by
 have f0 := zK X
 have o0 := zK a0
 clear X a0
 have HI0 := zK hI
 have HK := zK (KeepBut.refl w g none)
 have HL := zK hB.size
 clear hI
 have HW0 := zK hB.size
 have HB := zK hB
 clear hB
 have H : ((spec_l1Below.f z D E (u.length : Int)).bind fun y => (if 0 ≤ y.1 then (if y.1 < (u.length : Int) then (some (rd u y.1, y.2.1, y.2.2)) else (none)) else (none))) = some (r1, r2, r3) := h
 clear h
 replace H := z6 H
 obtain ⟨⟨q, L, M⟩, b0, H⟩ := H
 replace H : (if 0 ≤ q then (if q < (u.length : Int) then (some (rd u q, L, M)) else (none)) else (none)) = some (r1, r2, r3) := H
 have A3 := zK b0
 clear b0
 by_cases O : 0 ≤ q
 rotate_left
 · rw [if_neg O] at H
   exact absurd H (by simp)
 rw [if_pos O] at H
 have m0 := z1 O
 clear O
 by_cases T : q < (u.length : Int)
 rotate_left
 · rw [if_neg T] at H
   exact absurd H (by simp)
 rw [if_pos T] at H
 have n0 := z1 T
 clear T
 simp only [Option.some.injEq, Prod.mk.injEq] at H
 obtain ⟨rfl, rfl, rfl⟩ := H
 go_enter Try.func77, Try.ntmps77
 go_wp2_with (first | ((with_reducible refine gc 60 rfl ?_); refine zF 9 Try.func60 #[.pointer (some ⟨g, 0, none⟩), .int .i64 (u.length : Int)] rfl zL ?_; (with_reducible refine (spec_l1Below.calls g z D E (u.length : Int) q L M w0 _ ?side1 ?side2 A3.out).mono ?_); (case side1 => exact ww12a); (case side2 => exact ww12e); rintro e w6 ⟨rfl, hi, hb, hk⟩; refine ⟨_, rfl, ?_⟩; have g0 := zK (KeepBut.trans (ww12b) hk (.inl rfl)); have i0 := zK (hb); have j0 := zK (hi); revert g0 i0 j0; clear HK HB HI0; intro HK HB HI0; have I : 0 ≤ (q : Int) := z3; have J : q < (u.length : Int) := z3; obtain ⟨U, d0, A⟩ := Kd.at_int f0.out q I J; cases d0; replace A := keep_cell HK.out A (by first | (rw [add_block]; exact hf1 _ rfl (by omega)) | exact hf1 _ rfl (by omega) | exact hf1 U rfl (by omega)); replace I := eq_true I; replace J := eq_true J))
 go_ret
 exact ⟨zE, ww12a, ww12e, ww12b⟩
def spec_l15DrawSched.j0 : Nat → List Int → Int → Int → Int → Int → Int → Int → Option (Int × Int × Int × Int × Int × Int)
 | 0, _, _, _, _, _, _, _ => none
 | k + 1, D, I, J, y, z, u, E => (spec_l1Once.f D I J 30).bind fun q => (if q.1 = true then ((spec_l1PickInt.f D q.2.1 q.2.2 (([1000000, 1000001, wrap64 (u - 1)] : List Int))).bind fun A => (some (y, z, u, A.1, A.2.1, A.2.2))) else (some (y, z, u, E, q.2.1, q.2.2)))
def spec_l15DrawSched.f (k : Nat) (q : List Int) (I : Int) (J : Int) : Option (Int × Int × Int × Int × Int × Int) := (spec_l1Below.f q I J 200000).bind fun z => ((spec_l1Below.f q z.2.1 z.2.2 6).bind fun u => ((spec_l1Below.f q u.2.1 u.2.2 (wrap64 (z.1 + 1))).bind fun A => ((spec_l1Below.f q A.2.1 A.2.2 12).bind fun D => ((spec_l1Once.f q D.2.1 D.2.2 30).bind fun y => (if y.1 = true then ((spec_l1PickInt.f q y.2.1 y.2.2 (([16777216, 16777217, (-1)] : List Int))).bind fun E => (spec_l15DrawSched.j0 k q E.2.1 E.2.2 E.1 A.1 u.1 (wrap64 (u.1 + D.1)))) else (spec_l15DrawSched.j0 k q y.2.1 y.2.2 z.1 A.1 u.1 (wrap64 (u.1 + D.1))))))))
theorem spec_l15DrawSched.calls (k) (g) (z : List Int) (N0) (O0) (r1) (r2) (r3) (r4) (r5) (r6) (w0 w : World) (hI : IsS94 w0 w g z N0 O0) (hB : Below w0.heap.size w0 w) (h : spec_l15DrawSched.f k z N0 O0 = some (r1, r2, r3, r4, r5, r6)) :
 Calls Try.prog 75 #[.pointer (some ⟨g, 0, none⟩)] w fun e w' => e = .returned (.agg #[.int .i64 r1, .int .i64 r2, .int .i64 r3, .int .i64 r4]) ∧ IsS94 w0 w' g z r5 r6 ∧ Below w0.heap.size w0 w' ∧ KeepBut w w' g none := by
 have L4 := Try.underlying33
 have HI0 := zK hI
 have HK := zK (KeepBut.refl w g none)
 have HL := zK hB.size
 clear hI
 have HW0 := zK hB.size
 have HB := zK hB
 clear hB
 have H : ((spec_l1Below.f z N0 O0 200000).bind fun R0 => ((spec_l1Below.f z R0.2.1 R0.2.2 6).bind fun q0 => ((spec_l1Below.f z q0.2.1 q0.2.2 (wrap64 (R0.1 + 1))).bind fun o0 => ((spec_l1Below.f z o0.2.1 o0.2.2 12).bind fun U => ((spec_l1Once.f z U.2.1 U.2.2 30).bind fun E => (if E.1 = true then ((spec_l1PickInt.f z E.2.1 E.2.2 (([16777216, 16777217, (-1)] : List Int))).bind fun O => (spec_l15DrawSched.j0 k z O.2.1 O.2.2 O.1 o0.1 q0.1 (wrap64 (q0.1 + U.1)))) else (spec_l15DrawSched.j0 k z E.2.1 E.2.2 R0.1 o0.1 q0.1 (wrap64 (q0.1 + U.1))))))))) = some (r1, r2, r3, r4, r5, r6) := h
 clear h
 replace H := z6 H
 obtain ⟨⟨n0, f1, g1⟩, C2, H⟩ := H
 replace H : ((spec_l1Below.f z f1 g1 6).bind fun q0 => ((spec_l1Below.f z q0.2.1 q0.2.2 (wrap64 (n0 + 1))).bind fun o0 => ((spec_l1Below.f z o0.2.1 o0.2.2 12).bind fun U => ((spec_l1Once.f z U.2.1 U.2.2 30).bind fun E => (if E.1 = true then ((spec_l1PickInt.f z E.2.1 E.2.2 (([16777216, 16777217, (-1)] : List Int))).bind fun O => (spec_l15DrawSched.j0 k z O.2.1 O.2.2 O.1 o0.1 q0.1 (wrap64 (q0.1 + U.1)))) else (spec_l15DrawSched.j0 k z E.2.1 E.2.2 n0 o0.1 q0.1 (wrap64 (q0.1 + U.1)))))))) = some (r1, r2, r3, r4, r5, r6) := H
 have A2 := zK C2
 clear C2
 replace H := z6 H
 obtain ⟨⟨y, S0, T0⟩, D2, H⟩ := H
 replace H : ((spec_l1Below.f z S0 T0 (wrap64 (n0 + 1))).bind fun o0 => ((spec_l1Below.f z o0.2.1 o0.2.2 12).bind fun U => ((spec_l1Once.f z U.2.1 U.2.2 30).bind fun E => (if E.1 = true then ((spec_l1PickInt.f z E.2.1 E.2.2 (([16777216, 16777217, (-1)] : List Int))).bind fun O => (spec_l15DrawSched.j0 k z O.2.1 O.2.2 O.1 o0.1 y (wrap64 (y + U.1)))) else (spec_l15DrawSched.j0 k z E.2.1 E.2.2 n0 o0.1 y (wrap64 (y + U.1))))))) = some (r1, r2, r3, r4, r5, r6) := H
 have A3 := zK D2
 clear D2
 replace H := z6 H
 obtain ⟨⟨J, b1, d1⟩, E2, H⟩ := H
 replace H : ((spec_l1Below.f z b1 d1 12).bind fun U => ((spec_l1Once.f z U.2.1 U.2.2 30).bind fun E => (if E.1 = true then ((spec_l1PickInt.f z E.2.1 E.2.2 (([16777216, 16777217, (-1)] : List Int))).bind fun O => (spec_l15DrawSched.j0 k z O.2.1 O.2.2 O.1 J y (wrap64 (y + U.1)))) else (spec_l15DrawSched.j0 k z E.2.1 E.2.2 n0 J y (wrap64 (y + U.1)))))) = some (r1, r2, r3, r4, r5, r6) := H
 have A4 := zK E2
 clear E2
 replace H := z6 H
 obtain ⟨⟨g0, i1, j1⟩, F2, H⟩ := H
 replace H : ((spec_l1Once.f z i1 j1 30).bind fun E => (if E.1 = true then ((spec_l1PickInt.f z E.2.1 E.2.2 (([16777216, 16777217, (-1)] : List Int))).bind fun O => (spec_l15DrawSched.j0 k z O.2.1 O.2.2 O.1 J y (wrap64 (y + g0)))) else (spec_l15DrawSched.j0 k z E.2.1 E.2.2 n0 J y (wrap64 (y + g0))))) = some (r1, r2, r3, r4, r5, r6) := H
 have A5 := zK F2
 clear F2
 replace H := z6 H
 obtain ⟨⟨l1, F0, G0⟩, G2, H⟩ := H
 replace H : (if l1 = true then ((spec_l1PickInt.f z F0 G0 (([16777216, 16777217, (-1)] : List Int))).bind fun O => (spec_l15DrawSched.j0 k z O.2.1 O.2.2 O.1 J y (wrap64 (y + g0)))) else (spec_l15DrawSched.j0 k z F0 G0 n0 J y (wrap64 (y + g0)))) = some (r1, r2, r3, r4, r5, r6) := H
 have A6 := zK G2
 clear G2
 have l2 := zK H
 clear H
 go_enter Try.func75, Try.ntmps75
 try go_wp2_with (first | ((with_reducible refine gd 2 rfl ?_); refine zJ 2 #[.int .i64 0, .int .i64 0, .int .i64 0, .int .i64 0] 33 ?_; intro X hg w8 hbox hb; have a0 := zK (IsS94.below (ww12a) hb); have b0 := zK (KeepBut.trans (ww12b) (KeepBut.of_below hb g none) (.inl rfl)); have c0 := zK (zp (ww12e) hb); have d0 := zK (hbox); have m0 := zK ((by rw [hg]; exact (keep_size (w := w) (g := g) (row := none) (ww12b)) : w.heap.size ≤ X)); have E0 := zK ((Nat.le_trans HW0.out (by rw [hg]; exact (keep_size (w := w) (g := g) (row := none) (ww12b)) : w.heap.size ≤ X) : w0.heap.size ≤ X)); have m2 := zK ((by rw [hg]; exact Nat.ne_of_lt (IsS94.lt (show IsS94 w0 _ g z N0 O0 from ww12a)) : g ≠ X)); have n2 := zK ((by rw [hg]; exact Nat.ne_of_gt (IsS94.lt (show IsS94 w0 _ g z N0 O0 from ww12a)) : X ≠ g)); revert a0 b0 c0 d0 m0 E0 m2 n2; clear HI0 HK HB; intro HI0 HK HB u T e0 D i0; clear hb hbox hg) | ((with_reducible refine gc 60 rfl ?_); refine zF 5 Try.func60 #[.pointer (some ⟨g, 0, none⟩), .int .i64 200000] rfl zL ?_; (with_reducible refine (spec_l1Below.calls g z N0 O0 200000 n0 f1 g1 w0 _ ?side1 ?side2 A2.out).mono ?_); (case side1 => exact ww12h); (case side2 => exact ww12j); rintro e w9 ⟨rfl, hi, hb, hk⟩; refine ⟨_, rfl, ?_⟩; have a0 := zK (KeepBut.blk hk (g' := X) (o := .cells #[.int .i64 0, .int .i64 0, .int .i64 0, .int .i64 0] 33 (0, 0)) (zM u) i0.out (by simp)); have b0 := zK (KeepBut.trans (ww12i) hk (.inl rfl)); have c0 := zK (hb); have d0 := zK (hi); revert a0 b0 c0 d0; clear u HK HB HI0; intro u HK HB HI0) | ((with_reducible refine gc 60 rfl ?_); refine zF 7 Try.func60 #[.pointer (some ⟨g, 0, none⟩), .int .i64 6] rfl zL ?_; (with_reducible refine (spec_l1Below.calls g z f1 g1 6 y S0 T0 w0 _ ?side1 ?side2 A3.out).mono ?_); (case side1 => exact ww12h); (case side2 => exact ww12j); rintro e U4 ⟨rfl, hi, hb, hk⟩; refine ⟨_, rfl, ?_⟩; have a0 := zK (KeepBut.blk hk (g' := X) (o := .cells #[.int .i64 0, .int .i64 0, .int .i64 0, .int .i64 0] 33 (0, 0)) (zM u) i0.out (by simp)); have b0 := zK (KeepBut.trans (ww12i) hk (.inl rfl)); have c0 := zK (hb); have d0 := zK (hi); revert a0 b0 c0 d0; clear u HK HB HI0; intro u HK HB HI0) | ((with_reducible refine gd 3 rfl ?_); refine zJ 3 #[.int .i64 0, .int .i64 0, .int .i64 0, .int .i64 0] 33 ?_; intro A hg V4 hbox hb; have a0 := zK (IsS94.below (ww12h) hb); have b0 := z7 u hb; have c0 := zK (KeepBut.trans (ww12i) (KeepBut.of_below hb g none) (.inl rfl)); have d0 := zK (zp (ww12j) hb); have m0 := zK (hbox); have E0 := zK ((by rw [hg]; exact (keep_size (w := w) (g := g) (row := none) (ww12i)) : w.heap.size ≤ A)); have m2 := zK ((Nat.le_trans HW0.out (by rw [hg]; exact (keep_size (w := w) (g := g) (row := none) (ww12i)) : w.heap.size ≤ A) : w0.heap.size ≤ A)); have n2 := zHH hg u; have b4 := zGG hg u; have c4 := zK ((by rw [hg]; exact Nat.ne_of_lt (IsS94.lt (show IsS94 w0 _ g z S0 T0 from ww12h)) : g ≠ A)); have J2 := zK ((by rw [hg]; exact Nat.ne_of_gt (IsS94.lt (show IsS94 w0 _ g z S0 T0 from ww12h)) : A ≠ g)); revert a0 b0 c0 d0 m0 E0 m2 n2 b4 c4 J2; clear HI0 u HK HB; intro HI0 u HK HB q f0 p0 t0 x0 I l0; clear hb hbox hg; have i4 := x0.out; have j4 := t0.out; have l4 := l0.out; have m4 := I.out; obtain ⟨D1, E1, F1, G1, I1, J1, L1, M1⟩ := zc4 q) | ((with_reducible refine gc 60 rfl ?_); refine zF 13 Try.func60 #[.pointer (some ⟨g, 0, none⟩), .int .i64 (wrap64 (n0 + 1))] rfl zL ?_; (with_reducible refine (spec_l1Below.calls g z S0 T0 (wrap64 (n0 + 1)) J b1 d1 w0 _ ?side1 ?side2 A4.out).mono ?_); (case side1 => exact ww12c); (case side2 => exact ww12f); rintro e a1 ⟨rfl, hi, hb, hk⟩; refine ⟨_, rfl, ?_⟩; have a0 := zK (KeepBut.blk hk (g' := X) (o := .cells #[.int .i64 0, .int .i64 0, .int .i64 0, .int .i64 0] 33 (0, 0)) (zV u) i0.out (by simp)); have b0 := zK (KeepBut.blk hk (g' := A) (o := .cells #[.int .i64 n0, .int .i64 0, .int .i64 y, .int .i64 0] 33 (0, 0)) (zW q) l0.out (by simp)); have c0 := zK (KeepBut.trans (ww12d) hk (.inl rfl)); have d0 := zK (hb); have m0 := zK (hi); revert a0 b0 c0 d0 m0; clear u q HK HB HI0; intro u q HK HB HI0; obtain ⟨N1, O1, R1, S1, T1, U1, V1, X1⟩ := zc4 q))
 have a0 : Aside0 ((a1.setCell ⟨A, 1, none⟩ (.int .i64 J)).heap[X]? = some (.cells #[.int .i64 0, .int .i64 0, .int .i64 0, .int .i64 0] 33 (0, 0))) := ⟨zV u⟩
 have b0 : Aside0 ((a1.setCell ⟨A, 1, none⟩ (.int .i64 J)).heap[A]? = some (.cells #[.int .i64 n0, .int .i64 J, .int .i64 y, .int .i64 0] 33 (0, 0))) := ⟨zW q⟩
 have c0 : Aside0 (IsS94 w0 (a1.setCell ⟨A, 1, none⟩ (.int .i64 J)) g z b1 d1) := ⟨ww12c⟩
 have d0 : Aside0 (KeepBut w (a1.setCell ⟨A, 1, none⟩ (.int .i64 J)) g none) := ⟨ww12d⟩
 have m0 : Aside0 (Below w0.heap.size w0 (a1.setCell ⟨A, 1, none⟩ (.int .i64 J))) := ⟨ww12f⟩
 (try clear u)
 (try clear q)
 (try clear HI0)
 (try clear HK)
 (try clear HB)
 generalize (a1.setCell ⟨A, 1, none⟩ (.int .i64 J)) = d4 at a0 b0 c0 d0 m0 ⊢
 revert a0 b0 c0 d0 m0
 intro u q HI0 HK HB
 have a0 := zK (zd u.out)
 have b0 := zK (zd q.out)
 have c0 := zK (IsS94.drew HI0.out)
 have d0 := zK (keep_drew HK.out)
 have m0 := zK (ze HB.out)
 revert a0 b0 c0 d0 m0
 clear u q HI0 HK HB
 intro u q HI0 HK HB
 refine start_ (n := 7) (S := fun w' => w'.cell? ⟨A, 0, none⟩ = some (.int .i64 n0) ∧ w'.cell? ⟨A, 1, none⟩ = some (.int .i64 J) ∧ w'.cell? ⟨A, 2, none⟩ = some (.int .i64 y) ∧ w'.cell? ⟨A, 3, none⟩ = some (.int .i64 0)) (ds := [6]) (bl 7 0) (by kernel_rfl) rfl (by kernel_rfl) ⟨zy q 0, zy q 1, zy q 2, zy q 3⟩ (fun hHeld => ?_)
 generalize d4.drew = X4 at u q HI0 HK HB hHeld ⊢
 refine pure_ (i := 0) (N := some 15) (v := ?_) (a' := ?_) (bl 7 1) rfl rfl (by kernel_rfl) (fun _ _ _ h => h) (Or.inl ⟨by rfl, ?_⟩) ?_ ?_
 rotate_left
 · intro w'
   go_simp
   with_reducible rfl
 rotate_left
 · simp only [Act.put, zq1, zq2, zq3, i64_w, i32_w]
   rfl
 refine pure_ (i := 2) (N := some 17) (v := ?_) (a' := ?_) (bl 7 5) rfl rfl (by kernel_rfl) (fun _ _ _ h => h) (Or.inl ⟨by rfl, ?_⟩) ?_ ?_
 rotate_left
 · intro w'
   go_simp
   with_reducible rfl
 rotate_left
 · simp only [Act.put, zq1, zq2, zq3, i64_w, i32_w]
   rfl
 refine take_ (i := 1) (N := some 16) (v := ?_) (a' := ?_) (bl 7 7) rfl rfl (by kernel_rfl) (fun _ _ _ h => h) (Or.inl ⟨by rfl, ?_⟩) hHeld ?_ ?_
 rotate_left
 · rintro w' ⟨s0, s1, s2, s3⟩
   go_simp
   with_reducible rfl
 rotate_left
 · simp only [Act.put, zq1, zq2, zq3, i64_w, i32_w]
   rfl
 refine one_ (i := 3) (N := some 18) (bl 7 15) rfl rfl (by kernel_rfl) (by decide) (fun K hK => ?_)
 refine goes_ Try.func60 (by kernel_rfl) rfl #[.pointer (some ⟨g, 0, none⟩), .int .i64 12] (by rfl) rfl rfl zL ?_
 with_reducible refine (spec_l1Below.calls g z b1 d1 12 g0 i1 j1 w0 _ ?side1 ?side2 A5.out).mono ?_
 (case side1 => exact ww12c)
 (case side2 => exact ww12f)
 rintro e e4 ⟨rfl, hi, hb, hk⟩
 refine ⟨_, rfl, ?_⟩
 have a0 := zK (KeepBut.blk hk (g' := X) (o := .cells #[.int .i64 0, .int .i64 0, .int .i64 0, .int .i64 0] 33 (0, 0)) (zM u) i0.out (by simp))
 have b0 := zK (KeepBut.blk hk (g' := A) (o := .cells #[.int .i64 n0, .int .i64 J, .int .i64 y, .int .i64 0] 33 (0, 0)) (zM q) l0.out (by simp))
 have c0 := zK (KeepBut.trans (ww12d) hk (.inl rfl))
 have d0 := zK (hb)
 have m0 := zK (hi)
 revert a0 b0 c0 d0 m0
 clear u q HK HB HI0
 intro u q HK HB HI0
 (try clear hb)
 (try clear hb2)
 (try clear hk)
 (try clear hi)
 refine hK.out _ _ ⟨zy q 0, zy q 1, zy q 2, zy q 3⟩ (fun hHeld => ?_)
 clear hK K
 refine zU 18 ?_
 refine pure_ (i := 4) (N := some 19) (v := ?_) (a' := ?_) (bl 7 31) rfl rfl (by kernel_rfl) (fun _ _ _ h => h) (Or.inl ⟨by rfl, ?_⟩) ?_ ?_
 rotate_left
 · intro w'
   go_simp
   with_reducible rfl
 rotate_left
 · simp only [Act.put, zq1, zq2, zq3, i64_w, i32_w]
   rfl
 refine pure_ (i := 5) (N := some 20) (v := ?_) (a' := ?_) (bl 7 63) rfl rfl (by kernel_rfl) (fun _ _ _ h => h) (Or.inl ⟨by rfl, ?_⟩) ?_ ?_
 rotate_left
 · intro w'
   go_simp
   with_reducible rfl
 rotate_left
 · simp only [Act.put, zq1, zq2, zq3, i64_w, i32_w]
   rfl
 refine last_ (i := 6) (N := none) (bl 7 127) rfl rfl (by kernel_rfl) (by decide) (fun K hK => ?_)
 have T4 : e4.cell? ⟨A, 3, none⟩ = some (.int .i64 0) := zy q 3
 have hfs20 := zf q.out 3
 have hns20_0 := t0.out
 have hms20_0 := x0.out
 refine skip_ (w1 := ?_) (by rfl) rfl ?_ ?_
 rotate_left
 · go_simp
   rfl
 refine hK.out _ _ ?_
 clear hK K
 refine done_ (by kernel_rfl) ?_
 go_upto_if 22 with (first | ((with_reducible refine gc 76 rfl ?_); refine zF 22 Try.func76 #[.pointer (some ⟨g, 0, none⟩), .int .i64 30] rfl zL ?_; (with_reducible refine (spec_l1Once.calls g z i1 j1 30 l1 F0 G0 w0 _ ?side1 ?side2 A6.out).mono ?_); (case side1 => exact ww12c); (case side2 => exact ww12f); rintro e a5 ⟨rfl, hi, hb, hk⟩; refine ⟨_, rfl, ?_⟩; have a0 := zK (KeepBut.blk hk (g' := X) (o := .cells #[.int .i64 0, .int .i64 0, .int .i64 0, .int .i64 0] 33 (0, 0)) (zV u) i0.out (by simp)); have b0 := zK (KeepBut.blk hk (g' := A) (o := .cells #[.int .i64 n0, .int .i64 J, .int .i64 y, .int .i64 (wrap64 (y + g0))] 33 (0, 0)) (zW q) l0.out (by simp)); have c0 := zK (KeepBut.trans (ww12d) hk (.inl rfl)); have d0 := zK (hb); have m0 := zK (hi); revert a0 b0 c0 d0 m0; clear u q HK HB HI0; intro u q HK HB HI0))
 (try simp only [Act.put, zq1, zq2, zq3])
 go_cut [] (fun wc => ∃ (kq : Nat) (y0 : Int) (A0 : Int) (L : Int), Aside0 (spec_l15DrawSched.j0 kq z y0 A0 L J y (wrap64 (y + g0)) = some (r1, r2, r3, r4, r5, r6)) ∧ Aside0 (kq ≤ k) ∧ Aside0 (wc.heap[X]? = some (.cells #[.int .i64 0, .int .i64 0, .int .i64 0, .int .i64 0] 33 (0, 0))) ∧ Aside0 (wc.heap[A]? = some (.cells #[.int .i64 L, .int .i64 J, .int .i64 y, .int .i64 (wrap64 (y + g0))] 33 (0, 0))) ∧ Aside0 (IsS94 w0 wc g z y0 A0) ∧ Aside0 (KeepBut w wc g none) ∧ Aside0 (Below w0.heap.size w0 wc))
 case first =>
  have H := l2.out
  clear l2
  by_cases e1 : l1 = true
  rotate_left
  · replace e1 := Bool.eq_false_iff.mpr e1
    subst e1
    rw [if_neg (show ¬ (false = true) by decide)] at H
    have H' := zK H
    clear H
    go_wp2
    go_meet
    case rel => exact ⟨_, (F0), (G0), (n0), H', ⟨by first | omega | exact Nat.le_refl _⟩, ⟨zM u⟩, ⟨zM q⟩, ⟨ww12c⟩, ⟨ww12d⟩, ⟨ww12f⟩⟩
  subst e1
  rw [if_pos rfl] at H
  obtain ⟨m1, L0⟩ : ∃ y_ : List Int, y_ = (([16777216, 16777217, (-1)] : List Int)) := ⟨_, rfl⟩
  replace H : ((spec_l1PickInt.f z F0 G0 m1).bind fun O => (spec_l15DrawSched.j0 k z O.2.1 O.2.2 O.1 J y (wrap64 (y + g0)))) = some (r1, r2, r3, r4, r5, r6) := by first | (rw [L0]; with_reducible exact H) | (have U0 := (Option.bind_some _ _).symm.trans H; rw [L0]; with_reducible exact U0) | (have U0 := (Option.bind_some _ _).symm.trans H; with_reducible exact U0) | with_reducible exact H | (rw [L0]; exact H) | exact H
  have Ny374 := zK L0
  clear L0
  replace H := z6 H
  obtain ⟨⟨n1, o1, p1⟩, o2, H⟩ := H
  replace H : (spec_l15DrawSched.j0 k z o1 p1 n1 J y (wrap64 (y + g0))) = some (r1, r2, r3, r4, r5, r6) := H
  have f4 := zK o2
  clear o2
  have H' := zK H
  clear H
  go_wp2_with (first | ((with_reducible refine gd 24 rfl ?_); refine Kd.R_lit (Kd.int .i64) _ 3 ?hg (N := 24) ?hd (xs := ([16777216, 16777217, (-1)] : List Int)) (inner := [.int .i64 16777216, .int .i64 16777217, .int .i64 (-1)]) (ok := fun _ => True) (okp := fun _ => True) ?hr ?hp (fun _ hk => hk) trivial (Below.refl _ _) (Nat.le_refl _) (by simp) ?_; (case hd => rfl); (case hg => rfl); (case hr => first | (go_simp; done) | (go_simp; rfl)); (case hp => exact (Reps.one (show Kd.M (Kd.int .i64) _ _ _ 16777216 [.int .i64 16777216] from rfl) (Reps.one (show Kd.M (Kd.int .i64) _ _ _ 16777217 [.int .i64 16777217] from rfl) (Reps.one (show Kd.M (Kd.int .i64) _ _ _ (-1) [.int .i64 (-1)] from rfl) (Reps.none _ _))))); intro v375 b5 V0 hb hg_ hnew_; clear hg_ hnew_; (first | rw [← Ny374.out] at V0 | (simp only [Int.reduceToNat] at V0; rw [← Ny374.out] at V0)); have a0 := zK (Kd.R_lower V0 (keep_size (w := w) (g := g) (row := none) (ww12d))); have b0 := zK (IsS94.below (ww12c) hb); have c0 := z7 u hb; have d0 := z7 q hb; have m0 := zK (KeepBut.trans (ww12d) (KeepBut.of_below hb g none) (.inl rfl)); have E0 := zK (zp (ww12f) hb); revert a0 b0 c0 d0 m0 E0; clear HI0 u q HK HB; intro B0 HI0 u q HK HB; clear hb V0; obtain ⟨L2, M2, N2⟩ := Kd.R_slice B0.out; subst N2) | ((with_reducible refine gc 77 rfl ?_); refine zF 25 Try.func77 #[.pointer (some ⟨g, 0, none⟩), .slice L2 m1.length M2] rfl zL ?_; (with_reducible refine (spec_l1PickInt.calls g z F0 G0 _ _ m1 n1 o1 p1 w0 _ ?side1 ?side2 ?side3 ?side4 ?side5 f4.out).mono ?_); (case side1 => exact ww12c); (case side2 => exact ww12f); (case side3 => exact zC (Kd.R_reads' B0.out).2.2); (case side4 => exact (Kd.R_reads' B0.out).2.1); (case side5 => exact far_slice (IsS94.own_ne HI0.out B0.out (by decide))); rintro e x1 ⟨rfl, hi, hb, hk⟩; refine ⟨_, rfl, ?_⟩; have a0 := zK (KeepBut.blk hk (g' := X) (o := .cells #[.int .i64 0, .int .i64 0, .int .i64 0, .int .i64 0] 33 (0, 0)) (zM u) i0.out (by simp)); have b0 := zK (KeepBut.blk hk (g' := A) (o := .cells #[.int .i64 n0, .int .i64 J, .int .i64 y, .int .i64 (wrap64 (y + g0))] 33 (0, 0)) (zM q) l0.out (by simp)); have c0 := zK (Kd.R_mono (Kd.R_keep (IsS94.apart (show IsS94 w0 _ g z F0 G0 from ww12c) (zkR B0) (by decide)) hk (fun _ h => h.2)) (fun _ h => h.1)); have d0 := zK (KeepBut.trans (ww12d) hk (.inl rfl)); have m0 := zK (hb); have E0 := zK (hi); revert a0 b0 c0 d0 m0 E0; clear u q B0 HK HB HI0; intro u q B0 HK HB HI0; have n4 := x0.out; have o4 := t0.out; have p4 := l0.out; have q4 := I.out; have a2 : x1.cell? ⟨A, 0, none⟩ = some (.int .i64 n0) := zy q 0; have b2 : x1.cell? ⟨A, 1, none⟩ = some (.int .i64 J) := zy q 1; have d2 : x1.cell? ⟨A, 2, none⟩ = some (.int .i64 y) := zy q 2; have e2 : x1.cell? ⟨A, 3, none⟩ = some (.int .i64 (wrap64 (y + g0))) := zy q 3; have f2 := zf q.out 0; have g2 := zf q.out 1; have i2 := zf q.out 2; have j2 := zf q.out 3))
  go_meet
  case rel => exact ⟨_, (o1), (p1), (n1), H', ⟨by first | omega | exact Nat.le_refl _⟩, ⟨zV u⟩, ⟨zW q⟩, ⟨ww12c⟩, ⟨ww12d⟩, ⟨ww12f⟩⟩
 case rest =>
  clear l2
  try clear c1
  try clear c2
  try clear p2
  try clear c6
  try clear p6
  try clear c7
  try clear c5
  try clear d5
  try clear e1
  try clear e5
  try clear f5
  try clear D1 E1 F1 G1 I1 J1 L1 M1
  try clear N1 O1 R1 S1 T1 U1 V1 X1
  try clear a2 b2 d2 e2 f2 g2 i2 j2
  obtain ⟨kq, y0, A0, L, HA, g5, u, q, HI0, HK, HB⟩ := hcut
  cases kq with
  | zero => exact absurd HA.out (by simp [spec_l15DrawSched.j0])
  | succ i5 =>
   have H := HA.out
   clear HA
   simp only [spec_l15DrawSched.j0] at H
   replace H := z6 H
   obtain ⟨⟨q2, I0, J0⟩, t2, H⟩ := H
   replace H : (if q2 = true then ((spec_l1PickInt.f z I0 J0 (([1000000, 1000001, wrap64 (y - 1)] : List Int))).bind fun C0 => (some (L, J, y, C0.1, C0.2.1, C0.2.2))) else (some (L, J, y, (wrap64 (y + g0)), I0, J0))) = some (r1, r2, r3, r4, r5, r6) := H
   have I2 := zK t2
   clear t2
   by_cases y1 : q2 = true
   rotate_left
   · replace y1 := Bool.eq_false_iff.mpr y1
     subst y1
     rw [if_neg (show ¬ (false = true) by decide)] at H
     simp only [Option.some.injEq, Prod.mk.injEq] at H
     obtain ⟨rfl, rfl, rfl, rfl, rfl, rfl⟩ := H
     go_wp2_with (first | ((with_reducible refine gc 76 rfl ?_); refine zF 28 Try.func76 #[.pointer (some ⟨g, 0, none⟩), .int .i64 30] rfl zL ?_; (with_reducible refine (spec_l1Once.calls g z y0 A0 30 false I0 J0 w0 _ ?side1 ?side2 I2.out).mono ?_); (case side1 => exact ww12c); (case side2 => exact ww12f); rintro e A1 ⟨rfl, hi, hb, hk⟩; refine ⟨_, rfl, ?_⟩; have a0 := zK (KeepBut.blk hk (g' := X) (o := .cells #[.int .i64 0, .int .i64 0, .int .i64 0, .int .i64 0] 33 (0, 0)) (zM u) i0.out (by simp)); have b0 := zK (KeepBut.blk hk (g' := A) (o := .cells #[.int .i64 L, .int .i64 J, .int .i64 y, .int .i64 (wrap64 (y + g0))] 33 (0, 0)) (zM q) l0.out (by simp)); have c0 := zK (KeepBut.trans (ww12d) hk (.inl rfl)); have d0 := zK (hb); have m0 := zK (hi); revert a0 b0 c0 d0 m0; clear u q HK HB HI0; intro u q HK HB HI0; have s4 := x0.out; have t4 := t0.out; have x4 := l0.out; have y4 := I.out; have U2 : A1.cell? ⟨A, 0, none⟩ = some (.int .i64 L) := zy q 0; have V2 : A1.cell? ⟨A, 1, none⟩ = some (.int .i64 J) := zy q 1; have X2 : A1.cell? ⟨A, 2, none⟩ = some (.int .i64 y) := zy q 2; have a3 : A1.cell? ⟨A, 3, none⟩ = some (.int .i64 (wrap64 (y + g0))) := zy q 3; have b3 := zf q.out 0; have c3 := zf q.out 1; have d3 := zf q.out 2; have e3 := zf q.out 3; have B4 := i0.out; have C4 := D.out; obtain ⟨f3, g3, i3, j3, l3, m3, n3, o3⟩ := zc4 u))
     refine bodyPost_ret (results_cell_row rfl _ _ X 33 #[.int .i64 L, .int .i64 J, .int .i64 y, .int .i64 (wrap64 (y + g0))] (0, 0) _ rfl (zW u) Try.underlying33 rfl (by kernel_rfl)) rfl ?_
     exact ⟨zE, ww12c, ww12f, ww12d⟩
   subst y1
   rw [if_pos rfl] at H
   obtain ⟨q1, M0⟩ : ∃ y_ : List Int, y_ = (([1000000, 1000001, wrap64 (y - 1)] : List Int)) := ⟨_, rfl⟩
   replace H : ((spec_l1PickInt.f z I0 J0 q1).bind fun C0 => (some (L, J, y, C0.1, C0.2.1, C0.2.2))) = some (r1, r2, r3, r4, r5, r6) := by first | (rw [M0]; with_reducible exact H) | (have U0 := (Option.bind_some _ _).symm.trans H; rw [M0]; with_reducible exact U0) | (have U0 := (Option.bind_some _ _).symm.trans H; with_reducible exact U0) | with_reducible exact H | (rw [M0]; exact H) | exact H
   have Ny383 := zK M0
   clear M0
   replace H := z6 H
   obtain ⟨⟨t1, x2, y2⟩, B2, H⟩ := H
   replace H : (some (L, J, y, t1, x2, y2)) = some (r1, r2, r3, r4, r5, r6) := H
   have g4 := zK B2
   clear B2
   simp only [Option.some.injEq, Prod.mk.injEq] at H
   obtain ⟨rfl, rfl, rfl, rfl, rfl, rfl⟩ := H
   go_wp2_with (first | ((with_reducible refine gc 76 rfl ?_); refine zF 28 Try.func76 #[.pointer (some ⟨g, 0, none⟩), .int .i64 30] rfl zL ?_; (with_reducible refine (spec_l1Once.calls g z y0 A0 30 true I0 J0 w0 _ ?side1 ?side2 I2.out).mono ?_); (case side1 => exact ww12c); (case side2 => exact ww12f); rintro e B1 ⟨rfl, hi, hb, hk⟩; refine ⟨_, rfl, ?_⟩; have a0 := zK (KeepBut.blk hk (g' := X) (o := .cells #[.int .i64 0, .int .i64 0, .int .i64 0, .int .i64 0] 33 (0, 0)) (zM u) i0.out (by simp)); have b0 := zK (KeepBut.blk hk (g' := A) (o := .cells #[.int .i64 L, .int .i64 J, .int .i64 y, .int .i64 (wrap64 (y + g0))] 33 (0, 0)) (zM q) l0.out (by simp)); have c0 := zK (KeepBut.trans (ww12d) hk (.inl rfl)); have d0 := zK (hb); have m0 := zK (hi); revert a0 b0 c0 d0 m0; clear u q HK HB HI0; intro u q HK HB HI0; have D4 := x0.out; have E4 := t0.out; have F4 := l0.out; have G4 := I.out; have p3 : B1.cell? ⟨A, 0, none⟩ = some (.int .i64 L) := zy q 0; have q3 : B1.cell? ⟨A, 1, none⟩ = some (.int .i64 J) := zy q 1; have t3 : B1.cell? ⟨A, 2, none⟩ = some (.int .i64 y) := zy q 2; have x3 : B1.cell? ⟨A, 3, none⟩ = some (.int .i64 (wrap64 (y + g0))) := zy q 3; have y3 := zf q.out 0; have B3 := zf q.out 1; have C3 := zf q.out 2; have D3 := zf q.out 3) | ((with_reducible refine gd 33 rfl ?_); refine Kd.R_lit (Kd.int .i64) _ 3 ?hg (N := 33) ?hd (xs := ([1000000, 1000001, wrap64 (y - 1)] : List Int)) (inner := [.int .i64 1000000, .int .i64 1000001, .int .i64 (wrap64 (y - 1))]) (ok := fun _ => True) (okp := fun _ => True) ?hr ?hp (fun _ hk => hk) trivial (Below.refl _ _) (Nat.le_refl _) (by simp) ?_; (case hd => rfl); (case hg => rfl); (case hr => first | (go_simp; done) | (go_simp; rfl)); (case hp => exact (Reps.one (show Kd.M (Kd.int .i64) _ _ _ 1000000 [.int .i64 1000000] from rfl) (Reps.one (show Kd.M (Kd.int .i64) _ _ _ 1000001 [.int .i64 1000001] from rfl) (Reps.one (show Kd.M (Kd.int .i64) _ _ _ (wrap64 (y - 1)) [.int .i64 (wrap64 (y - 1))] from rfl) (Reps.none _ _))))); intro v384 j5 X0 hb hg_ hnew_; clear hg_ hnew_; (first | rw [← Ny383.out] at X0 | (simp only [Int.reduceToNat] at X0; rw [← Ny383.out] at X0)); have a0 := zK (Kd.R_lower X0 (keep_size (w := w) (g := g) (row := none) (ww12d))); have b0 := z7 u hb; have c0 := z7 q hb; have d0 := zK (IsS94.below (ww12c) hb); have m0 := zK (KeepBut.trans (ww12d) (KeepBut.of_below hb g none) (.inl rfl)); have E0 := zK (zp (ww12f) hb); revert a0 b0 c0 d0 m0 E0; clear u q HI0 HK HB; intro D0 u q HI0 HK HB; clear hb X0; obtain ⟨O2, R2, T2⟩ := Kd.R_slice D0.out; subst T2) | ((with_reducible refine gc 77 rfl ?_); refine zF 34 Try.func77 #[.pointer (some ⟨g, 0, none⟩), .slice O2 q1.length R2] rfl zL ?_; (with_reducible refine (spec_l1PickInt.calls g z I0 J0 _ _ q1 t1 x2 y2 w0 _ ?side1 ?side2 ?side3 ?side4 ?side5 g4.out).mono ?_); (case side1 => exact ww12c); (case side2 => exact ww12f); (case side3 => exact zC (Kd.R_reads' D0.out).2.2); (case side4 => exact (Kd.R_reads' D0.out).2.1); (case side5 => exact far_slice (IsS94.own_ne HI0.out D0.out (by decide))); rintro e C1 ⟨rfl, hi, hb, hk⟩; refine ⟨_, rfl, ?_⟩; have a0 := zK (KeepBut.blk hk (g' := X) (o := .cells #[.int .i64 0, .int .i64 0, .int .i64 0, .int .i64 0] 33 (0, 0)) (zM u) i0.out (by simp)); have b0 := zK (KeepBut.blk hk (g' := A) (o := .cells #[.int .i64 L, .int .i64 J, .int .i64 y, .int .i64 (wrap64 (y + g0))] 33 (0, 0)) (zM q) l0.out (by simp)); have c0 := zK (Kd.R_mono (Kd.R_keep (IsS94.apart (show IsS94 w0 _ g z I0 J0 from ww12c) (zkR D0) (by decide)) hk (fun _ h => h.2)) (fun _ h => h.1)); have d0 := zK (KeepBut.trans (ww12d) hk (.inl rfl)); have m0 := zK (hb); have E0 := zK (hi); revert a0 b0 c0 d0 m0 E0; clear u q D0 HK HB HI0; intro u q D0 HK HB HI0; have E3 : C1.cell? ⟨A, 0, none⟩ = some (.int .i64 L) := zy q 0; have F3 : C1.cell? ⟨A, 1, none⟩ = some (.int .i64 J) := zy q 1; have G3 : C1.cell? ⟨A, 2, none⟩ = some (.int .i64 y) := zy q 2; have I3 : C1.cell? ⟨A, 3, none⟩ = some (.int .i64 (wrap64 (y + g0))) := zy q 3; have J3 := zf q.out 0; have L3 := zf q.out 1; have M3 := zf q.out 2; have N3 := zf q.out 3; have I4 := i0.out; have J4 := D.out; obtain ⟨O3, R3, S3, T3, U3, V3, X3, a4⟩ := zc4 u))
   refine bodyPost_ret (results_cell_row rfl _ _ X 33 #[.int .i64 L, .int .i64 J, .int .i64 y, .int .i64 t1] (0, 0) _ rfl (zW u) Try.underlying33 rfl (by kernel_rfl)) rfl ?_
   exact ⟨zE, ww12c, ww12f, ww12d⟩
end Go.Proofs.Ytodfhokndnmdoaa.PFnFactor
