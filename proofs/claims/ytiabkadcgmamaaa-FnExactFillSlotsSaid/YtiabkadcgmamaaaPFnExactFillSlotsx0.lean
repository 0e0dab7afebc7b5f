-- Printed out of the translation by this session's own turned copy of a printer; Lean checks it.
import Derived.Test.YtiabkadcgmamaaaProg
import Derived.Below
import Derived.Deep.Draws
import Derived.Deep.AppendLies
import Derived.Maps.AppendAt
import Derived.OwnWalk
import Derived.Laws.BytesArg
import Derived.Laws.MakeOwn
import Derived.Laws.OwnMore
import Derived.Deep.OwnRows
import Derived.Tactics
import Derived.Lib.ConvBytes
import Derived.Laws.Slices
import Derived.WalkKit
import Derived.KernelRfl
import Derived.RowKit3
import Derived.Deep.LoopGhost
import Derived.Deep.QuietTactic
import Derived.BigQuiet
import Derived.WideLaws
import Derived.Deep.DeepCutAuto
import Derived.Deep.CutBlock
import Derived.Deep.RegionHeld3
import Derived.Laws.Rows
import Derived.Lib.AppendStr
import Derived.ArgAppend
import Derived.Laws.IdiomCopy
import Derived.OrdersHeld
import Derived.Laws.BitsLemmas
import Derived.RowKit
import Derived.Lib.SliceRun
import Derived.Test.YtiabkadcgmamaaaXFnExactFillSlotsWords
import Derived.Test.YtiabkadcgmamaaaXFnExactFillSlotsLast
import Derived.Test.YtiabkadcgmamaaaXFnExactFillSlotsTab
import Derived.Test.YtiabkadcgmamaaaXFnExactFillSlotsApart
import Derived.Test.YtiabkadcgmamaaaXFnExactFillSlotsFoot
import Derived.Test.YtiabkadcgmamaaaXFnExactFillSlotsKept
import Derived.Test.YtiabkadcgmamaaaXFnExactFillSlotsShare
import Derived.Test.YtiabkadcgmamaaaXFnExactFillSlotsN
import Derived.Test.YtiabkadcgmamaaaXFnExactFillSlotsRepsOne
import Derived.Test.YtiabkadcgmamaaaXFnExactFillSlotsMore
namespace Go.Proofs.Ytiabkadcgmamaaa.PFnExactFillSlots
open Go.RowKit Go.Proofs.YtiabkadcgmamaaaW.PrintWords Go.Proofs.YtiabkadcgmamaaaW.PrintLast Go.Proofs.YtiabkadcgmamaaaW.PrintMore
attribute [local go_sem] max2_int min2_int max_two min_two max_three min_three max_four min_four   -- for this text's walks alone
set_option linter.unusedVariables false
set_option linter.unusedSimpArgs false



def errW : Option Int → Value
 | none => .nilIface
 | some c => .iface 0 (.int .i64 c)
theorem errW_none : errW none = .nilIface := rfl
theorem errW_some (c : Int) : errW (some c) = .iface 0 (.int .i64 c) := rfl

theorem info29 : (Try.prog.info? 29).map (fun i => (i.zero, i.size, i.bytes)) = some (some (.agg #[(.int .i64 0), (.int .i64 0), (.int .i64 0), (.bool false)]), 4, 32) := by kernel_rfl
-- the values' own types
/-! #### struct type 29 -/
structure S29 where
 f0 : Int
 f1 : Int
 f2 : Int
 f3 : Bool
def z29 : S29 := ⟨(0 : Int), (0 : Int), (0 : Int), false⟩
def k29 : Kd S29 := Kd.iso (Kd.pair (Kd.int .i64) (Kd.pair (Kd.int .i64) (Kd.pair (Kd.int .i64) Kd.bool))) (fun x : S29 => (x.f0, x.f1, x.f2, x.f3))
theorem k29_open {w : World} {x : S29} {cs : List Value} (h : k29.K w x cs) : cs = [.int .i64 x.f0, .int .i64 x.f1, .int .i64 x.f2, .bool x.f3] := by
 obtain ⟨_, _, rfl, rfl, ⟨_, _, rfl, rfl, ⟨_, _, rfl, rfl, rfl⟩⟩⟩ := h
 exact rfl
theorem k29_openM {w : World} {base : Nat} {ok : Nat → Prop} {x : S29} {cs : List Value} (h : k29.M w base ok x cs) : cs = [.int .i64 x.f0, .int .i64 x.f1, .int .i64 x.f2, .bool x.f3] := by
 obtain ⟨_, _, rfl, rfl, ⟨_, _, rfl, rfl, ⟨_, _, rfl, rfl, rfl⟩⟩⟩ := h
 exact rfl
theorem k29_mk (w : World) (x : S29)  : k29.K w x [.int .i64 x.f0, .int .i64 x.f1, .int .i64 x.f2, .bool x.f3] := ⟨[.int .i64 x.f0], [.int .i64 x.f1, .int .i64 x.f2, .bool x.f3], rfl, rfl, ⟨[.int .i64 x.f1], [.int .i64 x.f2, .bool x.f3], rfl, rfl, ⟨[.int .i64 x.f2], [.bool x.f3], rfl, rfl, rfl⟩⟩⟩
theorem k29_mkM (w : World) (base : Nat) (ok : Nat → Prop) (x : S29)  : k29.M w base ok x [.int .i64 x.f0, .int .i64 x.f1, .int .i64 x.f2, .bool x.f3] := ⟨[.int .i64 x.f0], [.int .i64 x.f1, .int .i64 x.f2, .bool x.f3], rfl, rfl, ⟨[.int .i64 x.f1], [.int .i64 x.f2, .bool x.f3], rfl, rfl, ⟨[.int .i64 x.f2], [.bool x.f3], rfl, rfl, rfl⟩⟩⟩
def rd_T29 (xs : List S29) (i : Int) : S29 := xs.getD i.toNat z29
theorem at_T29 {w : World} {A : Option Addr} {n : Nat} {xs : List S29} (h : Kd.C k29 w A n xs) (i : Int) (l : 0 ≤ i) (h1 : i < n) : ∃ ad , A = some ad ∧ w.cell? (ad.add (i.toNat * 4)) = some (.int .i64 (rd_T29 xs i).f0) ∧ w.cell? ⟨(ad.add (i.toNat * 4)).block, (ad.add (i.toNat * 4)).off + 1, none⟩ = some (.int .i64 (rd_T29 xs i).f1) ∧ w.cell? ⟨(ad.add (i.toNat * 4)).block, (ad.add (i.toNat * 4)).off + 2, none⟩ = some (.int .i64 (rd_T29 xs i).f2) ∧ w.cell? ⟨(ad.add (i.toNat * 4)).block, (ad.add (i.toNat * 4)).off + 3, none⟩ = some (.bool (rd_T29 xs i).f3) := by
 obtain ⟨ad, c, e, _, hK, a⟩ := Kd.C_get h z29 i l h1
 have hc : ∀ j u, c[j]? = some u → w.cell? (ad.add (i.toNat * 4 + j)) = some u := a
 obtain rfl := k29_open hK
 exact ⟨ad, e, hc 0 _ rfl, by rw [← add_field _ _ 1 (by omega)]; exact hc 1 _ rfl, by rw [← add_field _ _ 2 (by omega)]; exact hc 2 _ rfl, by rw [← add_field _ _ 3 (by omega)]; exact hc 3 _ rfl⟩

abbrev Y : Bool := true
abbrev Z : Bool := false
theorem zq1 {α : Type} {l : List α} {i : Nat} {a : α} : l.toArray.setIfInBounds i a = (l.set i a).toArray := List.setIfInBounds_toArray ..
theorem zq2 {α : Type} {l : List α} {a b : α} : (a :: l).set 0 b = b :: l := List.set_cons_zero ..
theorem zq3 {α : Type} {l : List α} {n : Nat} {a b : α} : (a :: l).set (n + 1) b = a :: l.set n b := List.set_cons_succ ..
theorem zB {P : Prop} (h : P := by repeat (first | (with_reducible first | exact HB.out | apply below_alloc | apply pw_below_drewN | apply below_drew1 | refine below_set ?_ (Aside0.out (by assumption))) | exact HB.out)) : P := h
theorem zR {P : Prop} (h : P := by first | rfl | (simp; done) | (simp [*]; done)) : P := h
theorem zL {P : Prop} (h : P := by (try simp only [List.map_toArray, List.map_cons, List.map_nil]); first | done | rfl | (simp only [List.length_drop, List.length_take]; rfl)) : P := h
theorem zD {P : Prop} (h : P := by repeat (first | exact Drawn0.refl _ | apply Drawn0.step)) : P := h
theorem zK {p : Prop} (out : p) : Aside0 p := ⟨out⟩
theorem zw {B : Nat} {w W : World} (h : Below B w W) (n : Nat) : Below B w (W.drewN n) := pw_below_drewN h n
theorem zs {w W : World} {g j : Nat} {v : Value} (h : Below w.heap.size w W) (hg : w.heap.size ≤ g) : Below w.heap.size w (W.setCell ⟨g, j, none⟩ v) := below_set h hg
theorem za {w : World} {g : Nat} {o : Obj} (h : w.heap[g]? = some o) (o' : Obj) : (w.alloc o').heap[g]? = some o := blk_alloc h o'
theorem zn {w : World} {g : Nat} {o : Obj} (h : w.heap[g]? = some o) (n : Nat) : (w.drewN n).heap[g]? = some o := blk_drewN h n
theorem zd {w : World} {g : Nat} {o : Obj} (h : w.heap[g]? = some o) : w.drew.heap[g]? = some o := blk_drew h
theorem zb {w W : World} (h : Below w.heap.size w W) (o : Obj) : Below w.heap.size w (W.alloc o) := below_alloc h o
theorem ze {base : Nat} {w W : World} (h : Below base w W) : Below base w W.drew := below_drew1 h
theorem zz {w W : World} (h : Below w.heap.size w W) : w.heap.size ≤ W.heap.size := below_size h
section
variable {P : Program} {ops : Array Oper} {Q : Exit → Act → World → Prop} {md : Region.Mode} {S : World → Prop} {ds : List Nat} {T : Bool × List (List Nat × List Nat)} {B : List Nat} {oi : Oper} {v : Value} {fuel : Nat} {l : Array Bool} {a a' : Act} {w : World}
theorem zP (i N : Nat) (l' : Array Bool) (HT : Aside0 (rtab md ops = T)) (h : wpAnyLast P md ops Q S ds fuel l' a' w) (hi : ops[i]? = some oi := by exact rfl) (hN : oi.dst = some N := by exact rfl) (hT : anyT T l.toList l'.toList i = true := by kernel_rfl) (hQ : ∀ c a w, Q (.panic c) (a.put oi.dst v) w → Q (.panic c) a w := by exact fun _ _ _ h => h) (hw : Region.wanted oi (yielded ops a.tmps) = true := by rfl) (hr : ∀ w, (execOp a.eval oi).run P w = .ok (.value v) w := by (intro w'; go_simp; with_reducible rfl)) (ha : a.put (some N) v = a' := by (simp only [Act.put, zq1, zq2, zq3, i64_w, i32_w]; rfl)) : wpAnyLast P md ops Q S ds (fuel + 1) l a w := pure_ l' hi hN (any_of HT.out hT) hQ (Or.inl ⟨hw, hr⟩) ha h
theorem zO (i N : Nat) (l' : Array Bool) (HT : Aside0 (rtab md ops = T)) (h : wpAnyLast P md ops Q S ds fuel l' a' w) (hi : ops[i]? = some oi := by exact rfl) (hN : oi.dst = some N := by exact rfl) (hT : anyT T l.toList l'.toList i = true := by kernel_rfl) (hQ : ∀ c a w, Q (.panic c) (a.put oi.dst undef) w → Q (.panic c) a w := by exact fun _ _ _ h => h) (hw : Region.wanted oi (yielded ops a.tmps) = false := by rfl) (ha : a.put (some N) undef = a' := by (simp only [Act.put, zq1, zq2, zq3, i64_w, i32_w]; rfl)) : wpAnyLast P md ops Q S ds (fuel + 1) l a w := pure_ l' hi hN (any_of HT.out hT) hQ (Or.inr ⟨hw, rfl⟩) ha h
theorem zT (i N : Nat) (l' : Array Bool) (hi : ops[i]? = some oi) (hN : oi.dst = some N) (HT : Aside0 (rtab md ops = T)) (HW : Aside0 (waitsOk T.2 B = true)) (hS : S w) (hr : ∀ w, S w → (execOp a.eval oi).run P w = .ok (.value v) w) (h : wpAnyLast P md ops Q S ds fuel l' a' w) (hT : takeW T B ds l.toList l'.toList i = true := by kernel_rfl) (hQ : ∀ c a w, Q (.panic c) (a.put oi.dst v) w → Q (.panic c) a w := by exact fun _ _ _ h => h) (hw : Region.wanted oi (yielded ops a.tmps) = true := by rfl) (ha : a.put (some N) v = a' := by (simp only [Act.put, zq1, zq2, zq3, i64_w, i32_w]; rfl)) : wpAnyLast P md ops Q S ds (fuel + 1) l a w := take_ l' hi hN (take_ofW HT.out HW.out hT) hQ (Or.inl ⟨hw, hr⟩) hS ha h
theorem zU (N : Nat) (h : wpAnyLast P md ops Q S ds fuel l a' w) (ha : a.put (some N) v = a' := by (simp only [Act.put, zq1, zq2, zq3, i64_w, i32_w]; rfl)) : wpAnyLast P md ops Q S ds fuel l (a.put (some N) v) w := norm_ ha h
end
theorem zG {W : World} {g g' : Nat} {o : Obj} (hg : g' = W.heap.size) (h : W.heap[g]? = some o) : g' ≠ g := by rw [hg]; exact Nat.ne_of_gt (blk_lt h)
theorem zH {W : World} {g g' : Nat} {o : Obj} (hg : g' = W.heap.size) (h : W.heap[g]? = some o) : g ≠ g' := by rw [hg]; exact Nat.ne_of_lt (blk_lt h)
theorem zI {w W : World} {g : Nat} (hg : g = W.heap.size) (h : Below w.heap.size w W) : w.heap.size ≤ g := by rw [hg]; exact below_size h
theorem zC {α : Type} {k : Kd α} {w W : World} {A : Option Addr} {n : Nat} {l : List α} (h : Kd.C k w A n l) (e : Kd.C k w A n l → Kd.C k W A n l := by (intro hh; repeat (first | exact hh | (with_reducible refine Kd.C_alloc ?_ _) | (with_reducible refine Kd.C_drewN ?_ _) | (with_reducible refine Kd.C_drew ?_)))) : Kd.C k W A n l := e h
theorem zX {w W : World} {p : Addr} {v : Value} (HB : Aside0 (Below w.heap.size w W)) (h : w.cell? p = some v) : W.cell? p = some v := (HB.out.cell (World.block_lt_of_cell? w _ h)).trans h
theorem zy {w : World} {g : Nat} {t : TypeId} {cs : Array Value} (h : Aside0 (w.heap[g]? = some (.cells cs t (0, 0)))) (i : Nat) {v : Value} (e : cs[i]? = some v := by exact rfl) : w.cell? ⟨g, i, none⟩ = some v := (blk_cell h.out i).trans e
section
variable {P : Program} {ops : Array Oper} {Q : Exit → Act → World → Prop} {rest : List Oper} {o : Oper} {a : Act}
theorem zJ {W : World} (N : Nat) (cs : Array Value) (t : TypeId) (h : ∀ g, g = W.heap.size → ∀ w1, w1.heap[g]? = some (.cells cs t (0, 0)) → Below W.heap.size W w1 → wpList P ops Q rest (a.put o.dst (.pointer (some ⟨g, 0, none⟩))) w1) (hd : o.dst = some N := by exact rfl) (hg : o.guard = none := by exact rfl)
    (hr : (execOp a.eval o).run P W = .ok (.value (.pointer (some ⟨W.heap.size, 0, none⟩))) (W.alloc (.cells cs t (0, 0))) := by first | (go_simp; done) | (go_simp; rfl)) : wpList P ops Q (o :: rest) a W := box_event hg hd hr h
end
def bl (n m : Nat) : Array Bool := ((List.range n).map fun i => m.testBit i).toArray
theorem zkR {α : Type} {k : Kd α} {t base : Nat} {ok : Nat → Prop} {v : Value} {w W : World} {l : List α} (h : Aside0 (Kd.R k t w base ok v l)) (e : Kd.R k t w base ok v l → Kd.R k t W base ok v l := by (intro hh; (with_reducible repeat (first | apply Kd.R_alloc | apply Kd.R_drewN | apply Kd.R_drew)); exact hh)) : Kd.R k t W base ok v l := e h.out
theorem zc4 {w : World} {g : Nat} {t : TypeId} {a0 a1 a2 a3 : Value} (h : Aside0 (w.heap[g]? = some (.cells #[a0, a1, a2, a3] t (0, 0)))) : w.cell? ⟨g, 0, none⟩ = some a0 ∧ w.cell? ⟨g, 1, none⟩ = some a1 ∧ w.cell? ⟨g, 2, none⟩ = some a2 ∧ w.cell? ⟨g, 3, none⟩ = some a3 ∧ w.frozen? ⟨g, 0, none⟩ = false ∧ w.frozen? ⟨g, 1, none⟩ = false ∧ w.frozen? ⟨g, 2, none⟩ = false ∧ w.frozen? ⟨g, 3, none⟩ = false := ⟨(blk_cell h.out 0).trans rfl, (blk_cell h.out 1).trans rfl, (blk_cell h.out 2).trans rfl, (blk_cell h.out 3).trans rfl, blk_frozen h.out 0, blk_frozen h.out 1, blk_frozen h.out 2, blk_frozen h.out 3⟩
theorem zE {P : Prop} (h : P := by first | rfl | (simp [errW_none, errW_some] <;> rfl) | (simp [*, errW_none, errW_some] <;> rfl)) : P := h
section
variable {P : Program} {ops : Array Oper} {Q : Exit → Act → World → Prop}
theorem zF {rest : List Oper} {oi : Oper} {a : Act} {w : World} (N : Nat) {f : FuncId} {fn : Func} {xs : Array Operand} {ts : Array TypeId} (hf : P.funcs[f]? = some fn) (args : Array Value) (hop : oi.op = .call { callee := .value (.func f), args := xs, argTypes := ts }) (hargs : xs.map a.eval = args)
    (h : Calls P f args w fun e w' => ∃ v, e = .returned v ∧ wpList P ops Q rest (a.put (some N) v) w') (hd : oi.dst = some N := by exact rfl) (hg : oi.guard = none := by exact rfl) (hname : (fn.name == "runtime.NumGoroutine") = false := by kernel_rfl) (hb : fn.body.isSome = true := by exact rfl) : wpList P ops Q (oi :: rest) a w := goesL_ (some N) hd hg hf hname hb args hop hargs h
end
section
variable {P : Program} {ops : Array Oper} {Q : Exit → Act → World → Prop} {rest : List Oper} {o : Oper} {a : Act} {W : World}
theorem gd (N : Tmp) (_h : o.dst = some N) (h : wpList P ops Q (o :: rest) a W) : wpList P ops Q (o :: rest) a W := h
theorem gc (f : FuncId) {xs : Array Operand} {ts : Array TypeId} (_ho : o.op = .call { callee := .value (.func f), args := xs, argTypes := ts }) (h : wpList P ops Q (o :: rest) a W) : wpList P ops Q (o :: rest) a W := h
end
theorem z7 {w w1 w2 : World} {g : Nat} {o : Obj} (h : Aside0 (w.heap[g]? = some o)) (hb : Below w1.heap.size w1 w2) (e : w.heap[g]? = some o → w1.heap[g]? = some o := by (intro hh; (with_reducible repeat (first | refine zn ?_ _ | refine zd ?_ | refine za ?_ _)); exact hh)) : Aside0 (w2.heap[g]? = some o) := zK (blk_below (e h.out) hb)
theorem z8 {w W w2 : World} (k : Below W.heap.size W w2) (h : Below w.heap.size w W := by repeat (first | (with_reducible first | exact HB.out | apply below_alloc | apply pw_below_drewN | apply below_drew1 | refine below_set ?_ (Aside0.out (by assumption))) | exact HB.out)) : Aside0 (Below w.heap.size w w2) := zK (below_step h k)
theorem z9 {w W : World} {g : Nat} (hg : g = W.heap.size) (h : Below w.heap.size w W := by repeat (first | (with_reducible first | exact HB.out | apply below_alloc | apply pw_below_drewN | apply below_drew1 | refine below_set ?_ (Aside0.out (by assumption))) | exact HB.out)) : Aside0 (w.heap.size ≤ g) := zK (zI hg h)
theorem zHH {w W : World} {g g' : Nat} {o : Obj} (hg : g' = W.heap.size) (h : Aside0 (w.heap[g]? = some o)) (e : w.heap[g]? = some o → W.heap[g]? = some o := by (intro hh; (with_reducible repeat (first | refine zn ?_ _ | refine zd ?_ | refine za ?_ _)); exact hh)) : Aside0 (g ≠ g') := zK (zH hg (e h.out))
theorem zGG {w W : World} {g g' : Nat} {o : Obj} (hg : g' = W.heap.size) (h : Aside0 (w.heap[g]? = some o)) (e : w.heap[g]? = some o → W.heap[g]? = some o := by (intro hh; (with_reducible repeat (first | refine zn ?_ _ | refine zd ?_ | refine za ?_ _)); exact hh)) : Aside0 (g' ≠ g) := zK (zG hg (e h.out))
theorem zN (p : Prop) : ¬ p ∨ p := (Classical.em p).symm
theorem z1 {p : Prop} [Decidable p] (h : p) : decide p = true := decide_eq_true h
theorem z2 {p : Prop} [Decidable p] (h : ¬ p) : decide p = false := decide_eq_false h
theorem z3 {p : Prop} [Decidable p] (h : decide p = true := by first | (with_reducible assumption) | assumption) : p := of_decide_eq_true h
theorem z4 {α : Type} {d : Kd α} {w w1 : World} {xs : List α} {A : Option Addr} {n : Nat} (h : d.C w A n xs) (hb : Below w.heap.size w w1) : d.C w1 A n xs := Kd.C_below h hb
theorem z5 {α : Type} {a b : α} (h : some a = some b) : a = b := Option.some.inj h
theorem z6 {α β : Type} {o : Option α} {f : α → Option β} {b : β} (h : o.bind f = some b) : ∃ a, o = some a ∧ f a = some b := Option.bind_eq_some_iff.mp h
theorem zlR {α : Type} {k : Kd α} {t base : Nat} {ok : Nat → Prop} {v : Value} {w W : World} {l : List α} (h : Kd.R k t w base ok v l) (e : Kd.R k t w base ok v l → Kd.R k t W base ok v l := by (intro hh; repeat (first | (with_reducible exact hh) | (with_reducible first | apply Kd.R_alloc | apply Kd.R_drewN | apply Kd.R_drew) | ((with_reducible refine Kd.R_far ?_ (fun _ hk => ?_) _); rotate_left; first | exact hk.2 | exact hk.1.2 | exact hk.1.1.2) | exact hh))) : Kd.R k t W base ok v l := e h
end Go.Proofs.Ytiabkadcgmamaaa.PFnExactFillSlots
