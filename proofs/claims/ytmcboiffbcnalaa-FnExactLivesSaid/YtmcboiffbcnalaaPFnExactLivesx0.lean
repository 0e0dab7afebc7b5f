-- Printed out of the translation by this session's own turned copy of a printer; Lean checks it.
import Derived.Test.YtmcboiffbcnalaaProg
import Derived.Below
import Derived.Deep.Draws
import Derived.Deep.AppendLies
import Derived.Maps.AppendAt
import Derived.OwnWalk
import Derived.Laws.BytesArg
import Derived.Laws.MakeOwn
import Derived.Laws.OwnMore
import Derived.Deep.OwnRows
import Derived.Tactics
import Derived.Lib.ConvBytes
import Derived.Laws.Slices
import Derived.WalkKit
import Derived.KernelRfl
import Derived.RowKit3
import Derived.Deep.LoopGhost
import Derived.Deep.QuietTactic
import Derived.BigQuiet
import Derived.WideLaws
import Derived.Deep.DeepCutAuto
import Derived.Deep.CutBlock
import Derived.Deep.RegionHeld3
import Derived.Laws.Rows
import Derived.Lib.AppendStr
import Derived.ArgAppend
import Derived.Laws.IdiomCopy
import Derived.OrdersHeld
import Derived.Laws.BitsLemmas
import Derived.RowKit
import Derived.Lib.SliceRun
import Derived.Test.YtmcboiffbcnalaaXFnExactLivesWords
import Derived.Test.YtmcboiffbcnalaaXFnExactLivesLast
import Derived.Test.YtmcboiffbcnalaaXFnExactLivesTab
import Derived.Test.YtmcboiffbcnalaaXFnExactLivesApart
import Derived.Test.YtmcboiffbcnalaaXFnExactLivesFoot
import Derived.Test.YtmcboiffbcnalaaXFnExactLivesKept
import Derived.Test.YtmcboiffbcnalaaXFnExactLivesShare
import Derived.Test.YtmcboiffbcnalaaXFnExactLivesN
import Derived.Test.YtmcboiffbcnalaaXFnExactLivesRepsOne
import Derived.Test.YtmcboiffbcnalaaXFnExactLivesGuard
import Derived.Test.YtmcboiffbcnalaaXFnExactLivesNEv
import Derived.Test.YtmcboiffbcnalaaXFnExactLivesMore
namespace Go.Proofs.Ytmcboiffbcnalaa.PFnExactLives
open Go.RowKit Go.Proofs.YtmcboiffbcnalaaW.PrintWords Go.Proofs.YtmcboiffbcnalaaW.PrintLast Go.Proofs.YtmcboiffbcnalaaW.PrintMore
attribute [local go_sem] max2_int min2_int max_two min_two max_three min_three max_four min_four   -- for this text's walks alone
set_option linter.unusedVariables false
set_option linter.unusedSimpArgs false



def errW : Option Int → Value
 | none => .nilIface
 | some c => .iface 0 (.int .i64 c)
theorem errW_none : errW none = .nilIface := rfl
theorem errW_some (c : Int) : errW (some c) = .iface 0 (.int .i64 c) := rfl

theorem info3 : (Try.prog.info? 3).map (fun i => (i.zero, i.size, i.bytes)) = some (some (.int .i64 0), 1, 8) := by kernel_rfl
theorem info4 : (Try.prog.info? 4).map (fun i => (i.zero, i.size, i.bytes)) = some (some (.bool false), 1, 1) := by kernel_rfl
theorem info52 : (Try.prog.info? 52).map (fun i => (i.zero, i.size, i.bytes)) = some (some (.agg #[(.int .i64 0), (.int .i64 0), (.int .i64 0), (.int .i64 0)]), 4, 32) := by kernel_rfl
theorem info71 : (Try.prog.info? 71).map (fun i => (i.zero, i.size, i.bytes)) = some (some (.agg #[(.int .i64 0), (.slice none 0 0)]), 2, 32) := by kernel_rfl
theorem info76 : (Try.prog.info? 76).map (fun i => (i.zero, i.size, i.bytes)) = some (some (.agg #[(.int .i64 0), (.int .i64 0), (.slice none 0 0)]), 3, 40) := by kernel_rfl
theorem info79 : (Try.prog.info? 79).map (fun i => (i.zero, i.size, i.bytes)) = some (some (.agg #[(.slice none 0 0), (.slice none 0 0), (.int .i64 0), (.int .i64 0), (.slice none 0 0), (.bool false), (.slice none 0 0)]), 7, 120) := by kernel_rfl
theorem info122 : (Try.prog.info? 122).map (fun i => (i.zero, i.size, i.bytes)) = some (some (.agg #[(.int .i64 0), (.int .i64 0), (.int .i64 0)]), 3, 24) := by kernel_rfl
-- the values' own types
/-! #### struct type 92 -/
structure S92 where
 f0 : Int
 f1 : (List Int)
def z92 : S92 := ⟨(0 : Int), ([] : List Int)⟩
def k92 : Kd S92 := Kd.iso (Kd.pair (Kd.int .i64) (Kd.slice 3 (Kd.int .i64))) (fun x : S92 => (x.f0, x.f1))
theorem k92_open {w : World} {x : S92} {cs : List Value} (h : k92.K w x cs) : ∃ l q, cs = [.int .i64 x.f0, .slice l x.f1.length q] ∧ x.f1.length ≤ q ∧ (Kd.int .i64).C w l x.f1.length x.f1 := by
 obtain ⟨_, _, rfl, rfl, ⟨l, q, rfl, u, g1⟩⟩ := h
 exact ⟨l, q, rfl, u, g1⟩
def rd_T92 (xs : List S92) (i : Int) : S92 := xs.getD i.toNat z92
theorem at_T92 {w : World} {A : Option Addr} {n : Nat} {xs : List S92} (h : Kd.C k92 w A n xs) (i : Int) (z : 0 ≤ i) (h1 : i < n) : ∃ ad l q, A = some ad ∧ w.cell? (ad.add (i.toNat * 2)) = some (.int .i64 (rd_T92 xs i).f0) ∧ w.cell? ⟨(ad.add (i.toNat * 2)).block, (ad.add (i.toNat * 2)).off + 1, none⟩ = some (.slice l (rd_T92 xs i).f1.length q) ∧ (rd_T92 xs i).f1.length ≤ q ∧ (Kd.int .i64).C w l (rd_T92 xs i).f1.length (rd_T92 xs i).f1 := by
 obtain ⟨ad, c, e, _, hK, y⟩ := Kd.C_get h z92 i z h1
 have hc : ∀ j u, c[j]? = some u → w.cell? (ad.add (i.toNat * 2 + j)) = some u := y
 obtain ⟨l, q, rfl, B, g1⟩ := k92_open hK
 exact ⟨ad, l, q, e, hc 0 _ rfl, by rw [← add_field _ _ 1 (by omega)]; exact hc 1 _ rfl, B, g1⟩

/-! #### struct type 95 -/
structure S95 where
 f0 : Int
 f1 : Int
 f2 : (List Int)
def z95 : S95 := ⟨(0 : Int), (0 : Int), ([] : List Int)⟩
def k95 : Kd S95 := Kd.iso (Kd.pair (Kd.int .i64) (Kd.pair (Kd.int .i64) (Kd.slice 3 (Kd.int .i64)))) (fun x : S95 => (x.f0, x.f1, x.f2))
theorem k95_open {w : World} {x : S95} {cs : List Value} (h : k95.K w x cs) : ∃ l q, cs = [.int .i64 x.f0, .int .i64 x.f1, .slice l x.f2.length q] ∧ x.f2.length ≤ q ∧ (Kd.int .i64).C w l x.f2.length x.f2 := by
 obtain ⟨_, _, rfl, rfl, ⟨_, _, rfl, rfl, ⟨l, q, rfl, u, g2⟩⟩⟩ := h
 exact ⟨l, q, rfl, u, g2⟩
def rd_T95 (xs : List S95) (i : Int) : S95 := xs.getD i.toNat z95
theorem at_T95 {w : World} {A : Option Addr} {n : Nat} {xs : List S95} (h : Kd.C k95 w A n xs) (i : Int) (z : 0 ≤ i) (h1 : i < n) : ∃ ad l q, A = some ad ∧ w.cell? (ad.add (i.toNat * 3)) = some (.int .i64 (rd_T95 xs i).f0) ∧ w.cell? ⟨(ad.add (i.toNat * 3)).block, (ad.add (i.toNat * 3)).off + 1, none⟩ = some (.int .i64 (rd_T95 xs i).f1) ∧ w.cell? ⟨(ad.add (i.toNat * 3)).block, (ad.add (i.toNat * 3)).off + 2, none⟩ = some (.slice l (rd_T95 xs i).f2.length q) ∧ (rd_T95 xs i).f2.length ≤ q ∧ (Kd.int .i64).C w l (rd_T95 xs i).f2.length (rd_T95 xs i).f2 := by
 obtain ⟨ad, c, e, _, hK, y⟩ := Kd.C_get h z95 i z h1
 have hc : ∀ j u, c[j]? = some u → w.cell? (ad.add (i.toNat * 3 + j)) = some u := y
 obtain ⟨l, q, rfl, B, g2⟩ := k95_open hK
 exact ⟨ad, l, q, e, hc 0 _ rfl, by rw [← add_field _ _ 1 (by omega)]; exact hc 1 _ rfl, by rw [← add_field _ _ 2 (by omega)]; exact hc 2 _ rfl, B, g2⟩

/-! #### struct type 124 -/
structure S124 where
 f0 : Int
 f1 : Int
 f2 : Int
def z124 : S124 := ⟨(0 : Int), (0 : Int), (0 : Int)⟩
def k124 : Kd S124 := Kd.iso (Kd.pair (Kd.int .i64) (Kd.pair (Kd.int .i64) (Kd.int .i64))) (fun x : S124 => (x.f0, x.f1, x.f2))
theorem k124_open {w : World} {x : S124} {cs : List Value} (h : k124.K w x cs) : cs = [.int .i64 x.f0, .int .i64 x.f1, .int .i64 x.f2] := by
 obtain ⟨_, _, rfl, rfl, ⟨_, _, rfl, rfl, rfl⟩⟩ := h
 exact rfl
def rd_T124 (xs : List S124) (i : Int) : S124 := xs.getD i.toNat z124
theorem at_T124 {w : World} {A : Option Addr} {n : Nat} {xs : List S124} (h : Kd.C k124 w A n xs) (i : Int) (q : 0 ≤ i) (h1 : i < n) : ∃ ad , A = some ad ∧ w.cell? (ad.add (i.toNat * 3)) = some (.int .i64 (rd_T124 xs i).f0) ∧ w.cell? ⟨(ad.add (i.toNat * 3)).block, (ad.add (i.toNat * 3)).off + 1, none⟩ = some (.int .i64 (rd_T124 xs i).f1) ∧ w.cell? ⟨(ad.add (i.toNat * 3)).block, (ad.add (i.toNat * 3)).off + 2, none⟩ = some (.int .i64 (rd_T124 xs i).f2) := by
 obtain ⟨ad, c, e, _, hK, l⟩ := Kd.C_get h z124 i q h1
 have hc : ∀ j u, c[j]? = some u → w.cell? (ad.add (i.toNat * 3 + j)) = some u := l
 obtain rfl := k124_open hK
 exact ⟨ad, e, hc 0 _ rfl, by rw [← add_field _ _ 1 (by omega)]; exact hc 1 _ rfl, by rw [← add_field _ _ 2 (by omega)]; exact hc 2 _ rfl⟩

/-! #### struct type 98 -/
structure S98 where
 f0 : (List Int)
 f1 : (List S95)
 f2 : S95
 f3 : Bool
 f4 : (List S124)
def z98 : S98 := ⟨([] : List Int), ([] : List S95), z95, false, ([] : List S124)⟩
def k98 : Kd S98 := Kd.iso (Kd.pair (Kd.slice 3 (Kd.int .i64)) (Kd.pair (Kd.slice 95 k95) (Kd.pair k95 (Kd.pair Kd.bool (Kd.slice 124 k124))))) (fun x : S98 => (x.f0, x.f1, x.f2, x.f3, x.f4))
theorem k98_open {w : World} {x : S98} {cs : List Value} (h : k98.K w x cs) : ∃ l q u y z A B E, cs = [.slice l x.f0.length q, .slice u x.f1.length y, .int .i64 x.f2.f0, .int .i64 x.f2.f1, .slice z x.f2.f2.length A, .bool x.f3, .slice B x.f4.length E] ∧ x.f0.length ≤ q ∧ (Kd.int .i64).C w l x.f0.length x.f0 ∧ x.f1.length ≤ y ∧ k95.C w u x.f1.length x.f1 ∧ x.f2.f2.length ≤ A ∧ (Kd.int .i64).C w z x.f2.f2.length x.f2.f2 ∧ x.f4.length ≤ E ∧ k124.C w B x.f4.length x.f4 := by
 obtain ⟨_, _, rfl, ⟨l, q, rfl, I, g0⟩, ⟨_, _, rfl, ⟨u, y, rfl, J, g1⟩, ⟨_, _, rfl, L, ⟨_, _, rfl, rfl, ⟨B, E, rfl, M, g6⟩⟩⟩⟩⟩ := h
 obtain ⟨z, A, rfl, O, g4⟩ := k95_open L
 exact ⟨l, q, u, y, z, A, B, E, rfl, I, g0, J, g1, O, g4, M, g6⟩
def rd_T98 (xs : List S98) (i : Int) : S98 := xs.getD i.toNat z98
theorem at_T98 {w : World} {A : Option Addr} {n : Nat} {xs : List S98} (h : Kd.C k98 w A n xs) (i : Int) (M : 0 ≤ i) (h1 : i < n) : ∃ ad l q y z B E I J, A = some ad ∧ w.cell? (ad.add (i.toNat * 7)) = some (.slice l (rd_T98 xs i).f0.length q) ∧ w.cell? ⟨(ad.add (i.toNat * 7)).block, (ad.add (i.toNat * 7)).off + 1, none⟩ = some (.slice y (rd_T98 xs i).f1.length z) ∧ w.cell? ⟨(ad.add (i.toNat * 7)).block, (ad.add (i.toNat * 7)).off + 2, none⟩ = some (.int .i64 (rd_T98 xs i).f2.f0) ∧ w.cell? ⟨(ad.add (i.toNat * 7)).block, (ad.add (i.toNat * 7)).off + 3, none⟩ = some (.int .i64 (rd_T98 xs i).f2.f1) ∧ w.cell? ⟨(ad.add (i.toNat * 7)).block, (ad.add (i.toNat * 7)).off + 4, none⟩ = some (.slice B (rd_T98 xs i).f2.f2.length E) ∧ w.cell? ⟨(ad.add (i.toNat * 7)).block, (ad.add (i.toNat * 7)).off + 5, none⟩ = some (.bool (rd_T98 xs i).f3) ∧ w.cell? ⟨(ad.add (i.toNat * 7)).block, (ad.add (i.toNat * 7)).off + 6, none⟩ = some (.slice I (rd_T98 xs i).f4.length J) ∧ (rd_T98 xs i).f0.length ≤ q ∧ (Kd.int .i64).C w l (rd_T98 xs i).f0.length (rd_T98 xs i).f0 ∧ (rd_T98 xs i).f1.length ≤ z ∧ k95.C w y (rd_T98 xs i).f1.length (rd_T98 xs i).f1 ∧ (rd_T98 xs i).f2.f2.length ≤ E ∧ (Kd.int .i64).C w B (rd_T98 xs i).f2.f2.length (rd_T98 xs i).f2.f2 ∧ (rd_T98 xs i).f4.length ≤ J ∧ k124.C w I (rd_T98 xs i).f4.length (rd_T98 xs i).f4 := by
 obtain ⟨ad, c, e, _, hK, L⟩ := Kd.C_get h z98 i M h1
 have hc : ∀ j u, c[j]? = some u → w.cell? (ad.add (i.toNat * 7 + j)) = some u := L
 obtain ⟨l, q, y, z, B, E, I, J, rfl, O, g0, T, g1, U, g4, X, g6⟩ := k98_open hK
 exact ⟨ad, l, q, y, z, B, E, I, J, e, hc 0 _ rfl, by rw [← add_field _ _ 1 (by omega)]; exact hc 1 _ rfl, by rw [← add_field _ _ 2 (by omega)]; exact hc 2 _ rfl, by rw [← add_field _ _ 3 (by omega)]; exact hc 3 _ rfl, by rw [← add_field _ _ 4 (by omega)]; exact hc 4 _ rfl, by rw [← add_field _ _ 5 (by omega)]; exact hc 5 _ rfl, by rw [← add_field _ _ 6 (by omega)]; exact hc 6 _ rfl, O, g0, T, g1, U, g4, X, g6⟩

/-! #### struct type 122 -/
structure S122 where
 f0 : Int
 f1 : Int
 f2 : Int
def z122 : S122 := ⟨(0 : Int), (0 : Int), (0 : Int)⟩
def k122 : Kd S122 := Kd.iso (Kd.pair (Kd.int .i64) (Kd.pair (Kd.int .i64) (Kd.int .i64))) (fun x : S122 => (x.f0, x.f1, x.f2))
theorem k122_open {w : World} {x : S122} {cs : List Value} (h : k122.K w x cs) : cs = [.int .i64 x.f0, .int .i64 x.f1, .int .i64 x.f2] := by
 obtain ⟨_, _, rfl, rfl, ⟨_, _, rfl, rfl, rfl⟩⟩ := h
 exact rfl
theorem k122_openM {w : World} {base : Nat} {ok : Nat → Prop} {x : S122} {cs : List Value} (h : k122.M w base ok x cs) : cs = [.int .i64 x.f0, .int .i64 x.f1, .int .i64 x.f2] := by
 obtain ⟨_, _, rfl, rfl, ⟨_, _, rfl, rfl, rfl⟩⟩ := h
 exact rfl
theorem k122_mkM (w : World) (base : Nat) (ok : Nat → Prop) (x : S122)  : k122.M w base ok x [.int .i64 x.f0, .int .i64 x.f1, .int .i64 x.f2] := ⟨[.int .i64 x.f0], [.int .i64 x.f1, .int .i64 x.f2], rfl, rfl, ⟨[.int .i64 x.f1], [.int .i64 x.f2], rfl, rfl, rfl⟩⟩
def rd_T122 (xs : List S122) (i : Int) : S122 := xs.getD i.toNat z122
theorem at_T122 {w : World} {A : Option Addr} {n : Nat} {xs : List S122} (h : Kd.C k122 w A n xs) (i : Int) (q : 0 ≤ i) (h1 : i < n) : ∃ ad , A = some ad ∧ w.cell? (ad.add (i.toNat * 3)) = some (.int .i64 (rd_T122 xs i).f0) ∧ w.cell? ⟨(ad.add (i.toNat * 3)).block, (ad.add (i.toNat * 3)).off + 1, none⟩ = some (.int .i64 (rd_T122 xs i).f1) ∧ w.cell? ⟨(ad.add (i.toNat * 3)).block, (ad.add (i.toNat * 3)).off + 2, none⟩ = some (.int .i64 (rd_T122 xs i).f2) := by
 obtain ⟨ad, c, e, _, hK, l⟩ := Kd.C_get h z122 i q h1
 have hc : ∀ j u, c[j]? = some u → w.cell? (ad.add (i.toNat * 3 + j)) = some u := l
 obtain rfl := k122_open hK
 exact ⟨ad, e, hc 0 _ rfl, by rw [← add_field _ _ 1 (by omega)]; exact hc 1 _ rfl, by rw [← add_field _ _ 2 (by omega)]; exact hc 2 _ rfl⟩

/-! #### struct type 76 -/
structure S76 where
 f0 : Int
 f1 : Int
 f2 : (List Int)
def z76 : S76 := ⟨(0 : Int), (0 : Int), ([] : List Int)⟩
def k76 : Kd S76 := Kd.iso (Kd.pair (Kd.int .i64) (Kd.pair (Kd.int .i64) (Kd.slice 3 (Kd.int .i64)))) (fun x : S76 => (x.f0, x.f1, x.f2))
theorem k76_heap : Kd.Heap k76 := Kd.heap_iso _ (Kd.heap_pair (Kd.heap_int .i64) (Kd.heap_pair (Kd.heap_int .i64) (Kd.heap_slice 3 (Kd.heap_int .i64))))
theorem k76_open {w : World} {x : S76} {cs : List Value} (h : k76.K w x cs) : ∃ l q, cs = [.int .i64 x.f0, .int .i64 x.f1, .slice l x.f2.length q] ∧ x.f2.length ≤ q ∧ (Kd.int .i64).C w l x.f2.length x.f2 := by
 obtain ⟨_, _, rfl, rfl, ⟨_, _, rfl, rfl, ⟨l, q, rfl, u, g2⟩⟩⟩ := h
 exact ⟨l, q, rfl, u, g2⟩
theorem k76_openM {w : World} {base : Nat} {ok : Nat → Prop} {x : S76} {cs : List Value} (h : k76.M w base ok x cs) : ∃ v2, cs = [.int .i64 x.f0, .int .i64 x.f1, v2] ∧ (Kd.int .i64).R 3 w base ok v2 x.f2 := by
 obtain ⟨_, _, rfl, rfl, ⟨_, _, rfl, rfl, ⟨v2, rfl, g2⟩⟩⟩ := h
 exact ⟨v2, rfl, g2⟩
theorem k76_mk (w : World) (x : S76) {l : Option Addr} {q : Nat} (u : x.f2.length ≤ q) (g2 : (Kd.int .i64).C w l x.f2.length x.f2) : k76.K w x [.int .i64 x.f0, .int .i64 x.f1, .slice l x.f2.length q] := ⟨[.int .i64 x.f0], [.int .i64 x.f1, .slice l x.f2.length q], rfl, rfl, ⟨[.int .i64 x.f1], [.slice l x.f2.length q], rfl, rfl, ⟨l, q, rfl, u, g2⟩⟩⟩
theorem k76_mkM (w : World) (base : Nat) (ok : Nat → Prop) (x : S76) {v2 : Value} (g2 : (Kd.int .i64).R 3 w base ok v2 x.f2) : k76.M w base ok x [.int .i64 x.f0, .int .i64 x.f1, v2] := ⟨[.int .i64 x.f0], [.int .i64 x.f1, v2], rfl, rfl, ⟨[.int .i64 x.f1], [v2], rfl, rfl, ⟨v2, rfl, g2⟩⟩⟩
theorem k76_openF {W : World} {ok : Nat → Prop} {x : S76} {cs : List Value} (h : Kd.FK k76 W ok x cs) : ∃ q u, cs = [.int .i64 x.f0, .int .i64 x.f1, .slice q x.f2.length u] ∧ x.f2.length ≤ u ∧ Kd.F (Kd.int .i64) W ok q x.f2.length x.f2 := by
 obtain ⟨q, u, rfl, A, _⟩ := k76_open (Kd.FK_now h)
 exact ⟨q, u, rfl, A, (fun W' hW => by obtain ⟨y, z, he, B, g2_⟩ := k76_open (h W' hW); injection (Option.some.inj (show some (Value.slice q x.f2.length u) = some (Value.slice y x.f2.length z) from congrArg (fun l => l[2]?) he)) with ha_ _ _; rw [ha_]; exact g2_)⟩
theorem k76_mkF (W : World) (ok : Nat → Prop) (x : S76) {l : Option Addr} {q : Nat} (u : x.f2.length ≤ q) (g2 : Kd.F (Kd.int .i64) W ok l x.f2.length x.f2) : Kd.FK k76 W ok x [.int .i64 x.f0, .int .i64 x.f1, .slice l x.f2.length q] := fun W2 hW => k76_mk W2 x u (g2 W2 hW)
def rd_T76 (xs : List S76) (i : Int) : S76 := xs.getD i.toNat z76
theorem at_T76 {w : World} {A : Option Addr} {n : Nat} {xs : List S76} (h : Kd.C k76 w A n xs) (i : Int) (z : 0 ≤ i) (h1 : i < n) : ∃ ad l q, A = some ad ∧ w.cell? (ad.add (i.toNat * 3)) = some (.int .i64 (rd_T76 xs i).f0) ∧ w.cell? ⟨(ad.add (i.toNat * 3)).block, (ad.add (i.toNat * 3)).off + 1, none⟩ = some (.int .i64 (rd_T76 xs i).f1) ∧ w.cell? ⟨(ad.add (i.toNat * 3)).block, (ad.add (i.toNat * 3)).off + 2, none⟩ = some (.slice l (rd_T76 xs i).f2.length q) ∧ (rd_T76 xs i).f2.length ≤ q ∧ (Kd.int .i64).C w l (rd_T76 xs i).f2.length (rd_T76 xs i).f2 := by
 obtain ⟨ad, c, e, _, hK, y⟩ := Kd.C_get h z76 i z h1
 have hc : ∀ j u, c[j]? = some u → w.cell? (ad.add (i.toNat * 3 + j)) = some u := y
 obtain ⟨l, q, rfl, B, g2⟩ := k76_open hK
 exact ⟨ad, l, q, e, hc 0 _ rfl, by rw [← add_field _ _ 1 (by omega)]; exact hc 1 _ rfl, by rw [← add_field _ _ 2 (by omega)]; exact hc 2 _ rfl, B, g2⟩

/-! #### struct type 71 -/
structure S71 where
 f0 : Int
 f1 : (List Int)
def z71 : S71 := ⟨(0 : Int), ([] : List Int)⟩
def k71 : Kd S71 := Kd.iso (Kd.pair (Kd.int .i64) (Kd.slice 3 (Kd.int .i64))) (fun x : S71 => (x.f0, x.f1))
theorem k71_open {w : World} {x : S71} {cs : List Value} (h : k71.K w x cs) : ∃ l q, cs = [.int .i64 x.f0, .slice l x.f1.length q] ∧ x.f1.length ≤ q ∧ (Kd.int .i64).C w l x.f1.length x.f1 := by
 obtain ⟨_, _, rfl, rfl, ⟨l, q, rfl, u, g1⟩⟩ := h
 exact ⟨l, q, rfl, u, g1⟩
theorem k71_openM {w : World} {base : Nat} {ok : Nat → Prop} {x : S71} {cs : List Value} (h : k71.M w base ok x cs) : ∃ v1, cs = [.int .i64 x.f0, v1] ∧ (Kd.int .i64).R 3 w base ok v1 x.f1 := by
 obtain ⟨_, _, rfl, rfl, ⟨v1, rfl, g1⟩⟩ := h
 exact ⟨v1, rfl, g1⟩
theorem k71_mkM (w : World) (base : Nat) (ok : Nat → Prop) (x : S71) {v1 : Value} (g1 : (Kd.int .i64).R 3 w base ok v1 x.f1) : k71.M w base ok x [.int .i64 x.f0, v1] := ⟨[.int .i64 x.f0], [v1], rfl, rfl, ⟨v1, rfl, g1⟩⟩
def rd_T71 (xs : List S71) (i : Int) : S71 := xs.getD i.toNat z71
theorem at_T71 {w : World} {A : Option Addr} {n : Nat} {xs : List S71} (h : Kd.C k71 w A n xs) (i : Int) (z : 0 ≤ i) (h1 : i < n) : ∃ ad l q, A = some ad ∧ w.cell? (ad.add (i.toNat * 2)) = some (.int .i64 (rd_T71 xs i).f0) ∧ w.cell? ⟨(ad.add (i.toNat * 2)).block, (ad.add (i.toNat * 2)).off + 1, none⟩ = some (.slice l (rd_T71 xs i).f1.length q) ∧ (rd_T71 xs i).f1.length ≤ q ∧ (Kd.int .i64).C w l (rd_T71 xs i).f1.length (rd_T71 xs i).f1 := by
 obtain ⟨ad, c, e, _, hK, y⟩ := Kd.C_get h z71 i z h1
 have hc : ∀ j u, c[j]? = some u → w.cell? (ad.add (i.toNat * 2 + j)) = some u := y
 obtain ⟨l, q, rfl, B, g1⟩ := k71_open hK
 exact ⟨ad, l, q, e, hc 0 _ rfl, by rw [← add_field _ _ 1 (by omega)]; exact hc 1 _ rfl, B, g1⟩

/-! #### struct type 79 -/
structure S79 where
 f0 : (List Int)
 f1 : (List S76)
 f2 : S76
 f3 : Bool
 f4 : (List S122)
def z79 : S79 := ⟨([] : List Int), ([] : List S76), z76, false, ([] : List S122)⟩
def k79 : Kd S79 := Kd.iso (Kd.pair (Kd.slice 3 (Kd.int .i64)) (Kd.pair (Kd.slice 76 k76) (Kd.pair k76 (Kd.pair Kd.bool (Kd.slice 122 k122))))) (fun x : S79 => (x.f0, x.f1, x.f2, x.f3, x.f4))
theorem k79_open {w : World} {x : S79} {cs : List Value} (h : k79.K w x cs) : ∃ l q u y z A B E, cs = [.slice l x.f0.length q, .slice u x.f1.length y, .int .i64 x.f2.f0, .int .i64 x.f2.f1, .slice z x.f2.f2.length A, .bool x.f3, .slice B x.f4.length E] ∧ x.f0.length ≤ q ∧ (Kd.int .i64).C w l x.f0.length x.f0 ∧ x.f1.length ≤ y ∧ k76.C w u x.f1.length x.f1 ∧ x.f2.f2.length ≤ A ∧ (Kd.int .i64).C w z x.f2.f2.length x.f2.f2 ∧ x.f4.length ≤ E ∧ k122.C w B x.f4.length x.f4 := by
 obtain ⟨_, _, rfl, ⟨l, q, rfl, I, g0⟩, ⟨_, _, rfl, ⟨u, y, rfl, J, g1⟩, ⟨_, _, rfl, L, ⟨_, _, rfl, rfl, ⟨B, E, rfl, M, g6⟩⟩⟩⟩⟩ := h
 obtain ⟨z, A, rfl, O, g4⟩ := k76_open L
 exact ⟨l, q, u, y, z, A, B, E, rfl, I, g0, J, g1, O, g4, M, g6⟩
theorem k79_openM {w : World} {base : Nat} {ok : Nat → Prop} {x : S79} {cs : List Value} (h : k79.M w base ok x cs) : ∃ v0 v1 v4 v6, cs = [v0, v1, .int .i64 x.f2.f0, .int .i64 x.f2.f1, v4, .bool x.f3, v6] ∧ (Kd.int .i64).R 3 w base ok v0 x.f0 ∧ k76.R 76 w base ok v1 x.f1 ∧ (Kd.int .i64).R 3 w base ok v4 x.f2.f2 ∧ k122.R 122 w base ok v6 x.f4 := by
 obtain ⟨_, _, rfl, ⟨v0, rfl, g0⟩, ⟨_, _, rfl, ⟨v1, rfl, g1⟩, ⟨_, _, rfl, l, ⟨_, _, rfl, rfl, ⟨v6, rfl, g6⟩⟩⟩⟩⟩ := h
 obtain ⟨v4, rfl, g4⟩ := k76_openM l
 exact ⟨v0, v1, v4, v6, rfl, g0, g1, g4, g6⟩
theorem k79_mkM (w : World) (base : Nat) (ok : Nat → Prop) (x : S79) {v0 : Value} (g0 : (Kd.int .i64).R 3 w base ok v0 x.f0) {v1 : Value} (g1 : k76.R 76 w base ok v1 x.f1) {v4 : Value} (g4 : (Kd.int .i64).R 3 w base ok v4 x.f2.f2) {v6 : Value} (g6 : k122.R 122 w base ok v6 x.f4) : k79.M w base ok x [v0, v1, .int .i64 x.f2.f0, .int .i64 x.f2.f1, v4, .bool x.f3, v6] := ⟨[v0], [v1, .int .i64 x.f2.f0, .int .i64 x.f2.f1, v4, .bool x.f3, v6], rfl, ⟨v0, rfl, g0⟩, ⟨[v1], [.int .i64 x.f2.f0, .int .i64 x.f2.f1, v4, .bool x.f3, v6], rfl, ⟨v1, rfl, g1⟩, ⟨[.int .i64 x.f2.f0, .int .i64 x.f2.f1, v4], [.bool x.f3, v6], rfl, (k76_mkM w base ok x.f2 g4), ⟨[.bool x.f3], [v6], rfl, rfl, ⟨v6, rfl, g6⟩⟩⟩⟩⟩
def rd_T79 (xs : List S79) (i : Int) : S79 := xs.getD i.toNat z79
theorem at_T79 {w : World} {A : Option Addr} {n : Nat} {xs : List S79} (h : Kd.C k79 w A n xs) (i : Int) (M : 0 ≤ i) (h1 : i < n) : ∃ ad l q y z B E I J, A = some ad ∧ w.cell? (ad.add (i.toNat * 7)) = some (.slice l (rd_T79 xs i).f0.length q) ∧ w.cell? ⟨(ad.add (i.toNat * 7)).block, (ad.add (i.toNat * 7)).off + 1, none⟩ = some (.slice y (rd_T79 xs i).f1.length z) ∧ w.cell? ⟨(ad.add (i.toNat * 7)).block, (ad.add (i.toNat * 7)).off + 2, none⟩ = some (.int .i64 (rd_T79 xs i).f2.f0) ∧ w.cell? ⟨(ad.add (i.toNat * 7)).block, (ad.add (i.toNat * 7)).off + 3, none⟩ = some (.int .i64 (rd_T79 xs i).f2.f1) ∧ w.cell? ⟨(ad.add (i.toNat * 7)).block, (ad.add (i.toNat * 7)).off + 4, none⟩ = some (.slice B (rd_T79 xs i).f2.f2.length E) ∧ w.cell? ⟨(ad.add (i.toNat * 7)).block, (ad.add (i.toNat * 7)).off + 5, none⟩ = some (.bool (rd_T79 xs i).f3) ∧ w.cell? ⟨(ad.add (i.toNat * 7)).block, (ad.add (i.toNat * 7)).off + 6, none⟩ = some (.slice I (rd_T79 xs i).f4.length J) ∧ (rd_T79 xs i).f0.length ≤ q ∧ (Kd.int .i64).C w l (rd_T79 xs i).f0.length (rd_T79 xs i).f0 ∧ (rd_T79 xs i).f1.length ≤ z ∧ k76.C w y (rd_T79 xs i).f1.length (rd_T79 xs i).f1 ∧ (rd_T79 xs i).f2.f2.length ≤ E ∧ (Kd.int .i64).C w B (rd_T79 xs i).f2.f2.length (rd_T79 xs i).f2.f2 ∧ (rd_T79 xs i).f4.length ≤ J ∧ k122.C w I (rd_T79 xs i).f4.length (rd_T79 xs i).f4 := by
 obtain ⟨ad, c, e, _, hK, L⟩ := Kd.C_get h z79 i M h1
 have hc : ∀ j u, c[j]? = some u → w.cell? (ad.add (i.toNat * 7 + j)) = some u := L
 obtain ⟨l, q, y, z, B, E, I, J, rfl, O, g0, T, g1, U, g4, X, g6⟩ := k79_open hK
 exact ⟨ad, l, q, y, z, B, E, I, J, e, hc 0 _ rfl, by rw [← add_field _ _ 1 (by omega)]; exact hc 1 _ rfl, by rw [← add_field _ _ 2 (by omega)]; exact hc 2 _ rfl, by rw [← add_field _ _ 3 (by omega)]; exact hc 3 _ rfl, by rw [← add_field _ _ 4 (by omega)]; exact hc 4 _ rfl, by rw [← add_field _ _ 5 (by omega)]; exact hc 5 _ rfl, by rw [← add_field _ _ 6 (by omega)]; exact hc 6 _ rfl, O, g0, T, g1, U, g4, X, g6⟩

/-! #### struct type 52 -/
structure S52 where
 f0 : Int
 f1 : Int
 f2 : Int
 f3 : Int
def z52 : S52 := ⟨(0 : Int), (0 : Int), (0 : Int), (0 : Int)⟩
def k52 : Kd S52 := Kd.iso (Kd.pair (Kd.int .i64) (Kd.pair (Kd.int .i64) (Kd.pair (Kd.int .i64) (Kd.int .i64)))) (fun x : S52 => (x.f0, x.f1, x.f2, x.f3))
theorem k52_open {w : World} {x : S52} {cs : List Value} (h : k52.K w x cs) : cs = [.int .i64 x.f0, .int .i64 x.f1, .int .i64 x.f2, .int .i64 x.f3] := by
 obtain ⟨_, _, rfl, rfl, ⟨_, _, rfl, rfl, ⟨_, _, rfl, rfl, rfl⟩⟩⟩ := h
 exact rfl
theorem k52_openM {w : World} {base : Nat} {ok : Nat → Prop} {x : S52} {cs : List Value} (h : k52.M w base ok x cs) : cs = [.int .i64 x.f0, .int .i64 x.f1, .int .i64 x.f2, .int .i64 x.f3] := by
 obtain ⟨_, _, rfl, rfl, ⟨_, _, rfl, rfl, ⟨_, _, rfl, rfl, rfl⟩⟩⟩ := h
 exact rfl
theorem k52_mkM (w : World) (base : Nat) (ok : Nat → Prop) (x : S52)  : k52.M w base ok x [.int .i64 x.f0, .int .i64 x.f1, .int .i64 x.f2, .int .i64 x.f3] := ⟨[.int .i64 x.f0], [.int .i64 x.f1, .int .i64 x.f2, .int .i64 x.f3], rfl, rfl, ⟨[.int .i64 x.f1], [.int .i64 x.f2, .int .i64 x.f3], rfl, rfl, ⟨[.int .i64 x.f2], [.int .i64 x.f3], rfl, rfl, rfl⟩⟩⟩
def rd_T52 (xs : List S52) (i : Int) : S52 := xs.getD i.toNat z52
theorem at_T52 {w : World} {A : Option Addr} {n : Nat} {xs : List S52} (h : Kd.C k52 w A n xs) (i : Int) (q : 0 ≤ i) (h1 : i < n) : ∃ ad , A = some ad ∧ w.cell? (ad.add (i.toNat * 4)) = some (.int .i64 (rd_T52 xs i).f0) ∧ w.cell? ⟨(ad.add (i.toNat * 4)).block, (ad.add (i.toNat * 4)).off + 1, none⟩ = some (.int .i64 (rd_T52 xs i).f1) ∧ w.cell? ⟨(ad.add (i.toNat * 4)).block, (ad.add (i.toNat * 4)).off + 2, none⟩ = some (.int .i64 (rd_T52 xs i).f2) ∧ w.cell? ⟨(ad.add (i.toNat * 4)).block, (ad.add (i.toNat * 4)).off + 3, none⟩ = some (.int .i64 (rd_T52 xs i).f3) := by
 obtain ⟨ad, c, e, _, hK, l⟩ := Kd.C_get h z52 i q h1
 have hc : ∀ j u, c[j]? = some u → w.cell? (ad.add (i.toNat * 4 + j)) = some u := l
 obtain rfl := k52_open hK
 exact ⟨ad, e, hc 0 _ rfl, by rw [← add_field _ _ 1 (by omega)]; exact hc 1 _ rfl, by rw [← add_field _ _ 2 (by omega)]; exact hc 2 _ rfl, by rw [← add_field _ _ 3 (by omega)]; exact hc 3 _ rfl⟩

/-! #### struct type 26 -/
structure S26 where
 f0 : (List Int)
 f1 : (List Int)
 f2 : (List S92)
 f3 : (List S98)
 f4 : (List Int)
def k26 : Kd S26 := Kd.iso (Kd.pair (Kd.slice 3 (Kd.int .i64)) (Kd.pair (Kd.slice 3 (Kd.int .i64)) (Kd.pair (Kd.slice 92 k92) (Kd.pair (Kd.slice 98 k98) (Kd.slice 3 (Kd.int .i64)))))) (fun x : S26 => (x.f0, x.f1, x.f2, x.f3, x.f4))
theorem k26_open {w : World} {x : S26} {cs : List Value} (h : k26.K w x cs) : ∃ l q u y z A B E I J, cs = [.slice l x.f0.length q, .slice u x.f1.length y, .slice z x.f2.length A, .slice B x.f3.length E, .slice I x.f4.length J] ∧ x.f0.length ≤ q ∧ (Kd.int .i64).C w l x.f0.length x.f0 ∧ x.f1.length ≤ y ∧ (Kd.int .i64).C w u x.f1.length x.f1 ∧ x.f2.length ≤ A ∧ k92.C w z x.f2.length x.f2 ∧ x.f3.length ≤ E ∧ k98.C w B x.f3.length x.f3 ∧ x.f4.length ≤ J ∧ (Kd.int .i64).C w I x.f4.length x.f4 := by
 obtain ⟨_, _, rfl, ⟨l, q, rfl, L, g0⟩, ⟨_, _, rfl, ⟨u, y, rfl, M, g1⟩, ⟨_, _, rfl, ⟨z, A, rfl, O, g2⟩, ⟨_, _, rfl, ⟨B, E, rfl, T, g3⟩, ⟨I, J, rfl, U, g4⟩⟩⟩⟩⟩ := h
 exact ⟨l, q, u, y, z, A, B, E, I, J, rfl, L, g0, M, g1, O, g2, T, g3, U, g4⟩
abbrev Y : Bool := true
abbrev Z : Bool := false
theorem zq1 {α : Type} {l : List α} {i : Nat} {a : α} : l.toArray.setIfInBounds i a = (l.set i a).toArray := List.setIfInBounds_toArray ..
theorem zq2 {α : Type} {l : List α} {a b : α} : (a :: l).set 0 b = b :: l := List.set_cons_zero ..
theorem zq3 {α : Type} {l : List α} {n : Nat} {a b : α} : (a :: l).set (n + 1) b = a :: l.set n b := List.set_cons_succ ..
theorem zB {P : Prop} (h : P := by repeat (first | (with_reducible first | exact HB.out | apply below_alloc | apply pw_below_drewN | apply below_drew1 | refine below_set ?_ (Aside0.out (by assumption))) | exact HB.out)) : P := h
theorem zR {P : Prop} (h : P := by first | rfl | (simp; done) | (simp [*]; done)) : P := h
theorem zL {P : Prop} (h : P := by (try simp only [List.map_toArray, List.map_cons, List.map_nil]); first | done | rfl | (simp only [List.length_drop, List.length_take]; rfl)) : P := h
theorem zD {P : Prop} (h : P := by repeat (first | exact Drawn0.refl _ | apply Drawn0.step)) : P := h
theorem zK {p : Prop} (out : p) : Aside0 p := ⟨out⟩
theorem zw {B : Nat} {w W : World} (h : Below B w W) (n : Nat) : Below B w (W.drewN n) := pw_below_drewN h n
theorem zs {w W : World} {g j : Nat} {v : Value} (h : Below w.heap.size w W) (hg : w.heap.size ≤ g) : Below w.heap.size w (W.setCell ⟨g, j, none⟩ v) := below_set h hg
theorem za {w : World} {g : Nat} {o : Obj} (h : w.heap[g]? = some o) (o' : Obj) : (w.alloc o').heap[g]? = some o := blk_alloc h o'
theorem zn {w : World} {g : Nat} {o : Obj} (h : w.heap[g]? = some o) (n : Nat) : (w.drewN n).heap[g]? = some o := blk_drewN h n
theorem zd {w : World} {g : Nat} {o : Obj} (h : w.heap[g]? = some o) : w.drew.heap[g]? = some o := blk_drew h
theorem zb {w W : World} (h : Below w.heap.size w W) (o : Obj) : Below w.heap.size w (W.alloc o) := below_alloc h o
theorem ze {base : Nat} {w W : World} (h : Below base w W) : Below base w W.drew := below_drew1 h
theorem zg {w w1 : World} {g : Nat} {o : Obj} (h : w.heap[g]? = some o) (hb : Below w.heap.size w w1) : w1.heap[g]? = some o := blk_below h hb
theorem zf {w : World} {g : Nat} {t : TypeId} {cs : Array Value} (h : w.heap[g]? = some (.cells cs t (0, 0))) (i : Nat) : w.frozen? ⟨g, i, none⟩ = false := blk_frozen h i
theorem zc {w : World} {g : Nat} {t : TypeId} {cs : Array Value} (h : w.heap[g]? = some (.cells cs t (0, 0))) (i : Nat) : w.cell? ⟨g, i, none⟩ = cs[i]? := blk_cell h i
theorem zz {w W : World} (h : Below w.heap.size w W) : w.heap.size ≤ W.heap.size := below_size h
section
variable {P : Program} {ops : Array Oper} {Q : Exit → Act → World → Prop} {md : Region.Mode} {S : World → Prop} {ds : List Nat} {T : Bool × List (List Nat × List Nat)} {B : List Nat} {oi : Oper} {v : Value} {fuel : Nat} {l : Array Bool} {a a' : Act} {w : World}
theorem zP (i N : Nat) (l' : Array Bool) (HT : Aside0 (rtab md ops = T)) (h : wpAnyLast P md ops Q S ds fuel l' a' w) (hi : ops[i]? = some oi := by exact rfl) (hN : oi.dst = some N := by exact rfl) (hT : anyT T l.toList l'.toList i = true := by kernel_rfl) (hQ : ∀ c a w, Q (.panic c) (a.put oi.dst v) w → Q (.panic c) a w := by exact fun _ _ _ h => h) (hw : Region.wanted oi (yielded ops a.tmps) = true := by rfl) (hr : ∀ w, (execOp a.eval oi).run P w = .ok (.value v) w := by (intro w'; go_simp; with_reducible rfl)) (ha : a.put (some N) v = a' := by (simp only [Act.put, zq1, zq2, zq3, i64_w, i32_w]; rfl)) : wpAnyLast P md ops Q S ds (fuel + 1) l a w := pure_ l' hi hN (any_of HT.out hT) hQ (Or.inl ⟨hw, hr⟩) ha h
theorem zO (i N : Nat) (l' : Array Bool) (HT : Aside0 (rtab md ops = T)) (h : wpAnyLast P md ops Q S ds fuel l' a' w) (hi : ops[i]? = some oi := by exact rfl) (hN : oi.dst = some N := by exact rfl) (hT : anyT T l.toList l'.toList i = true := by kernel_rfl) (hQ : ∀ c a w, Q (.panic c) (a.put oi.dst undef) w → Q (.panic c) a w := by exact fun _ _ _ h => h) (hw : Region.wanted oi (yielded ops a.tmps) = false := by rfl) (ha : a.put (some N) undef = a' := by (simp only [Act.put, zq1, zq2, zq3, i64_w, i32_w]; rfl)) : wpAnyLast P md ops Q S ds (fuel + 1) l a w := pure_ l' hi hN (any_of HT.out hT) hQ (Or.inr ⟨hw, rfl⟩) ha h
theorem zT (i N : Nat) (l' : Array Bool) (hi : ops[i]? = some oi) (hN : oi.dst = some N) (HT : Aside0 (rtab md ops = T)) (HW : Aside0 (waitsOk T.2 B = true)) (hS : S w) (hr : ∀ w, S w → (execOp a.eval oi).run P w = .ok (.value v) w) (h : wpAnyLast P md ops Q S ds fuel l' a' w) (hT : takeW T B ds l.toList l'.toList i = true := by kernel_rfl) (hQ : ∀ c a w, Q (.panic c) (a.put oi.dst v) w → Q (.panic c) a w := by exact fun _ _ _ h => h) (hw : Region.wanted oi (yielded ops a.tmps) = true := by rfl) (ha : a.put (some N) v = a' := by (simp only [Act.put, zq1, zq2, zq3, i64_w, i32_w]; rfl)) : wpAnyLast P md ops Q S ds (fuel + 1) l a w := take_ l' hi hN (take_ofW HT.out HW.out hT) hQ (Or.inl ⟨hw, hr⟩) hS ha h
theorem zU (N : Nat) (h : wpAnyLast P md ops Q S ds fuel l a' w) (ha : a.put (some N) v = a' := by (simp only [Act.put, zq1, zq2, zq3, i64_w, i32_w]; rfl)) : wpAnyLast P md ops Q S ds fuel l (a.put (some N) v) w := norm_ ha h
end
theorem zM {w W : World} {g : Nat} {o : Obj} (h : Aside0 (w.heap[g]? = some o)) (e : w.heap[g]? = some o → W.heap[g]? = some o := by (intro hh; (with_reducible repeat (first | refine zn ?_ _ | refine zd ?_ | refine za ?_ _)); exact hh)) : W.heap[g]? = some o := e h.out
theorem zG {W : World} {g g' : Nat} {o : Obj} (hg : g' = W.heap.size) (h : W.heap[g]? = some o) : g' ≠ g := by rw [hg]; exact Nat.ne_of_gt (blk_lt h)
theorem zH {W : World} {g g' : Nat} {o : Obj} (hg : g' = W.heap.size) (h : W.heap[g]? = some o) : g ≠ g' := by rw [hg]; exact Nat.ne_of_lt (blk_lt h)
theorem zI {w W : World} {g : Nat} (hg : g = W.heap.size) (h : Below w.heap.size w W) : w.heap.size ≤ g := by rw [hg]; exact below_size h
theorem zC {α : Type} {k : Kd α} {w W : World} {A : Option Addr} {n : Nat} {l : List α} (h : Kd.C k w A n l) (e : Kd.C k w A n l → Kd.C k W A n l := by (intro hh; repeat (first | exact hh | (with_reducible refine Kd.C_alloc ?_ _) | (with_reducible refine Kd.C_drewN ?_ _) | (with_reducible refine Kd.C_drew ?_)))) : Kd.C k W A n l := e h
theorem zX {w W : World} {p : Addr} {v : Value} (HB : Aside0 (Below w.heap.size w W)) (h : w.cell? p = some v) : W.cell? p = some v := (HB.out.cell (World.block_lt_of_cell? w _ h)).trans h
theorem zy {w : World} {g : Nat} {t : TypeId} {cs : Array Value} (h : Aside0 (w.heap[g]? = some (.cells cs t (0, 0)))) (i : Nat) {v : Value} (e : cs[i]? = some v := by exact rfl) : w.cell? ⟨g, i, none⟩ = some v := (blk_cell h.out i).trans e
section
variable {P : Program} {ops : Array Oper} {Q : Exit → Act → World → Prop} {rest : List Oper} {o : Oper} {a : Act}
theorem zJ {W : World} (N : Nat) (cs : Array Value) (t : TypeId) (h : ∀ g, g = W.heap.size → ∀ w1, w1.heap[g]? = some (.cells cs t (0, 0)) → Below W.heap.size W w1 → wpList P ops Q rest (a.put o.dst (.pointer (some ⟨g, 0, none⟩))) w1) (hd : o.dst = some N := by exact rfl) (hg : o.guard = none := by exact rfl)
    (hr : (execOp a.eval o).run P W = .ok (.value (.pointer (some ⟨W.heap.size, 0, none⟩))) (W.alloc (.cells cs t (0, 0))) := by first | (go_simp; done) | (go_simp; rfl)) : wpList P ops Q (o :: rest) a W := box_event hg hd hr h
end
def bl (n m : Nat) : Array Bool := ((List.range n).map fun i => m.testBit i).toArray
theorem zkR {α : Type} {k : Kd α} {t base : Nat} {ok : Nat → Prop} {v : Value} {w W : World} {l : List α} (h : Aside0 (Kd.R k t w base ok v l)) (e : Kd.R k t w base ok v l → Kd.R k t W base ok v l := by (intro hh; (with_reducible repeat (first | apply Kd.R_alloc | apply Kd.R_drewN | apply Kd.R_drew)); exact hh)) : Kd.R k t W base ok v l := e h.out
theorem zkN {α : Type} {k : Kd α} {t base : Nat} {ok : Nat → Prop} {v : Value} {w W : World} {l : List α} (h : Aside0 (Kd.N k t w base ok v l)) (e : Kd.N k t w base ok v l → Kd.N k t W base ok v l := by (intro hh; (with_reducible repeat (first | apply Kd.N_alloc | apply Kd.N_drewN | apply Kd.N_drew)); exact hh)) : Kd.N k t W base ok v l := e h.out
theorem zkV {α : Type} {k : Kd α} {t base : Nat} {ok : Nat → Prop} {v : Value} {w W : World} {l : List α} (h : Aside0 (Kd.V k t w base ok v l)) (e : Kd.V k t w base ok v l → Kd.V k t W base ok v l := by (intro hh; (with_reducible repeat (first | apply Kd.V_alloc | apply Kd.V_drewN | apply Kd.V_drew)); exact hh)) : Kd.V k t W base ok v l := e h.out
theorem zkS {α : Type} {k : Kd α} {t base : Nat} {ok : Nat → Prop} {v : Value} {w W : World} {l : List α} (h : Aside0 (Kd.S k t w base ok v l)) (e : Kd.S k t w base ok v l → Kd.S k t W base ok v l := by (intro hh; (with_reducible repeat (first | apply Kd.S_alloc | apply Kd.S_drewN | apply Kd.S_drew)); exact hh)) : Kd.S k t W base ok v l := e h.out
theorem zc2 {w : World} {g : Nat} {t : TypeId} {a0 a1 : Value} (h : Aside0 (w.heap[g]? = some (.cells #[a0, a1] t (0, 0)))) : w.cell? ⟨g, 0, none⟩ = some a0 ∧ w.cell? ⟨g, 1, none⟩ = some a1 ∧ w.frozen? ⟨g, 0, none⟩ = false ∧ w.frozen? ⟨g, 1, none⟩ = false := ⟨(blk_cell h.out 0).trans rfl, (blk_cell h.out 1).trans rfl, blk_frozen h.out 0, blk_frozen h.out 1⟩
theorem zc3 {w : World} {g : Nat} {t : TypeId} {a0 a1 a2 : Value} (h : Aside0 (w.heap[g]? = some (.cells #[a0, a1, a2] t (0, 0)))) : w.cell? ⟨g, 0, none⟩ = some a0 ∧ w.cell? ⟨g, 1, none⟩ = some a1 ∧ w.cell? ⟨g, 2, none⟩ = some a2 ∧ w.frozen? ⟨g, 0, none⟩ = false ∧ w.frozen? ⟨g, 1, none⟩ = false ∧ w.frozen? ⟨g, 2, none⟩ = false := ⟨(blk_cell h.out 0).trans rfl, (blk_cell h.out 1).trans rfl, (blk_cell h.out 2).trans rfl, blk_frozen h.out 0, blk_frozen h.out 1, blk_frozen h.out 2⟩
theorem zc4 {w : World} {g : Nat} {t : TypeId} {a0 a1 a2 a3 : Value} (h : Aside0 (w.heap[g]? = some (.cells #[a0, a1, a2, a3] t (0, 0)))) : w.cell? ⟨g, 0, none⟩ = some a0 ∧ w.cell? ⟨g, 1, none⟩ = some a1 ∧ w.cell? ⟨g, 2, none⟩ = some a2 ∧ w.cell? ⟨g, 3, none⟩ = some a3 ∧ w.frozen? ⟨g, 0, none⟩ = false ∧ w.frozen? ⟨g, 1, none⟩ = false ∧ w.frozen? ⟨g, 2, none⟩ = false ∧ w.frozen? ⟨g, 3, none⟩ = false := ⟨(blk_cell h.out 0).trans rfl, (blk_cell h.out 1).trans rfl, (blk_cell h.out 2).trans rfl, (blk_cell h.out 3).trans rfl, blk_frozen h.out 0, blk_frozen h.out 1, blk_frozen h.out 2, blk_frozen h.out 3⟩
theorem zc5 {w : World} {g : Nat} {t : TypeId} {a0 a1 a2 a3 a4 : Value} (h : Aside0 (w.heap[g]? = some (.cells #[a0, a1, a2, a3, a4] t (0, 0)))) : w.cell? ⟨g, 0, none⟩ = some a0 ∧ w.cell? ⟨g, 1, none⟩ = some a1 ∧ w.cell? ⟨g, 2, none⟩ = some a2 ∧ w.cell? ⟨g, 3, none⟩ = some a3 ∧ w.cell? ⟨g, 4, none⟩ = some a4 ∧ w.frozen? ⟨g, 0, none⟩ = false ∧ w.frozen? ⟨g, 1, none⟩ = false ∧ w.frozen? ⟨g, 2, none⟩ = false ∧ w.frozen? ⟨g, 3, none⟩ = false ∧ w.frozen? ⟨g, 4, none⟩ = false := ⟨(blk_cell h.out 0).trans rfl, (blk_cell h.out 1).trans rfl, (blk_cell h.out 2).trans rfl, (blk_cell h.out 3).trans rfl, (blk_cell h.out 4).trans rfl, blk_frozen h.out 0, blk_frozen h.out 1, blk_frozen h.out 2, blk_frozen h.out 3, blk_frozen h.out 4⟩
theorem zc7 {w : World} {g : Nat} {t : TypeId} {a0 a1 a2 a3 a4 a5 a6 : Value} (h : Aside0 (w.heap[g]? = some (.cells #[a0, a1, a2, a3, a4, a5, a6] t (0, 0)))) : w.cell? ⟨g, 0, none⟩ = some a0 ∧ w.cell? ⟨g, 1, none⟩ = some a1 ∧ w.cell? ⟨g, 2, none⟩ = some a2 ∧ w.cell? ⟨g, 3, none⟩ = some a3 ∧ w.cell? ⟨g, 4, none⟩ = some a4 ∧ w.cell? ⟨g, 5, none⟩ = some a5 ∧ w.cell? ⟨g, 6, none⟩ = some a6 ∧ w.frozen? ⟨g, 0, none⟩ = false ∧ w.frozen? ⟨g, 1, none⟩ = false ∧ w.frozen? ⟨g, 2, none⟩ = false ∧ w.frozen? ⟨g, 3, none⟩ = false ∧ w.frozen? ⟨g, 4, none⟩ = false ∧ w.frozen? ⟨g, 5, none⟩ = false ∧ w.frozen? ⟨g, 6, none⟩ = false := ⟨(blk_cell h.out 0).trans rfl, (blk_cell h.out 1).trans rfl, (blk_cell h.out 2).trans rfl, (blk_cell h.out 3).trans rfl, (blk_cell h.out 4).trans rfl, (blk_cell h.out 5).trans rfl, (blk_cell h.out 6).trans rfl, blk_frozen h.out 0, blk_frozen h.out 1, blk_frozen h.out 2, blk_frozen h.out 3, blk_frozen h.out 4, blk_frozen h.out 5, blk_frozen h.out 6⟩
theorem zE {P : Prop} (h : P := by first | rfl | (simp [errW_none, errW_some] <;> rfl) | (simp [*, errW_none, errW_some] <;> rfl)) : P := h
section
variable {P : Program} {ops : Array Oper} {Q : Exit → Act → World → Prop}
theorem zF {rest : List Oper} {oi : Oper} {a : Act} {w : World} (N : Nat) {f : FuncId} {fn : Func} {xs : Array Operand} {ts : Array TypeId} (hf : P.funcs[f]? = some fn) (args : Array Value) (hop : oi.op = .call { callee := .value (.func f), args := xs, argTypes := ts }) (hargs : xs.map a.eval = args)
    (h : Calls P f args w fun e w' => ∃ v, e = .returned v ∧ wpList P ops Q rest (a.put (some N) v) w') (hd : oi.dst = some N := by exact rfl) (hg : oi.guard = none := by exact rfl) (hname : (fn.name == "runtime.NumGoroutine") = false := by kernel_rfl) (hb : fn.body.isSome = true := by exact rfl) : wpList P ops Q (oi :: rest) a w := goesL_ (some N) hd hg hf hname hb args hop hargs h
end
section
variable {P : Program} {ops : Array Oper} {Q : Exit → Act → World → Prop} {rest : List Oper} {o : Oper} {a : Act} {W : World}
theorem gd (N : Tmp) (_h : o.dst = some N) (h : wpList P ops Q (o :: rest) a W) : wpList P ops Q (o :: rest) a W := h
theorem gc (f : FuncId) {xs : Array Operand} {ts : Array TypeId} (_ho : o.op = .call { callee := .value (.func f), args := xs, argTypes := ts }) (h : wpList P ops Q (o :: rest) a W) : wpList P ops Q (o :: rest) a W := h
end
theorem z7 {w w1 w2 : World} {g : Nat} {o : Obj} (h : Aside0 (w.heap[g]? = some o)) (hb : Below w1.heap.size w1 w2) (e : w.heap[g]? = some o → w1.heap[g]? = some o := by (intro hh; (with_reducible repeat (first | refine zn ?_ _ | refine zd ?_ | refine za ?_ _)); exact hh)) : Aside0 (w2.heap[g]? = some o) := zK (blk_below (e h.out) hb)
theorem z8 {w W w2 : World} (k : Below W.heap.size W w2) (h : Below w.heap.size w W := by repeat (first | (with_reducible first | exact HB.out | apply below_alloc | apply pw_below_drewN | apply below_drew1 | refine below_set ?_ (Aside0.out (by assumption))) | exact HB.out)) : Aside0 (Below w.heap.size w w2) := zK (below_step h k)
theorem z9 {w W : World} {g : Nat} (hg : g = W.heap.size) (h : Below w.heap.size w W := by repeat (first | (with_reducible first | exact HB.out | apply below_alloc | apply pw_below_drewN | apply below_drew1 | refine below_set ?_ (Aside0.out (by assumption))) | exact HB.out)) : Aside0 (w.heap.size ≤ g) := zK (zI hg h)
theorem zHH {w W : World} {g g' : Nat} {o : Obj} (hg : g' = W.heap.size) (h : Aside0 (w.heap[g]? = some o)) (e : w.heap[g]? = some o → W.heap[g]? = some o := by (intro hh; (with_reducible repeat (first | refine zn ?_ _ | refine zd ?_ | refine za ?_ _)); exact hh)) : Aside0 (g ≠ g') := zK (zH hg (e h.out))
theorem zGG {w W : World} {g g' : Nat} {o : Obj} (hg : g' = W.heap.size) (h : Aside0 (w.heap[g]? = some o)) (e : w.heap[g]? = some o → W.heap[g]? = some o := by (intro hh; (with_reducible repeat (first | refine zn ?_ _ | refine zd ?_ | refine za ?_ _)); exact hh)) : Aside0 (g' ≠ g) := zK (zG hg (e h.out))
theorem zS {α : Type} {d : Kd α} {w W : World} {xs : List α} {A : Option Addr} {n : Nat} (h : Aside0 (d.C w A n xs)) (b : Below w.heap.size w W := by repeat (first | (with_reducible first | exact HB.out | apply below_alloc | apply pw_below_drewN | apply below_drew1 | refine below_set ?_ (Aside0.out (by assumption))) | exact HB.out)) : d.C W A n xs := Kd.C_below h.out b
theorem zN (p : Prop) : ¬ p ∨ p := (Classical.em p).symm
theorem z1 {p : Prop} [Decidable p] (h : p) : decide p = true := decide_eq_true h
theorem z2 {p : Prop} [Decidable p] (h : ¬ p) : decide p = false := decide_eq_false h
theorem z3 {p : Prop} [Decidable p] (h : decide p = true := by first | (with_reducible assumption) | assumption) : p := of_decide_eq_true h
theorem z4 {α : Type} {d : Kd α} {w w1 : World} {xs : List α} {A : Option Addr} {n : Nat} (h : d.C w A n xs) (hb : Below w.heap.size w w1) : d.C w1 A n xs := Kd.C_below h hb
theorem z5 {α : Type} {a b : α} (h : some a = some b) : a = b := Option.some.inj h
theorem z6 {α β : Type} {o : Option α} {f : α → Option β} {b : β} (h : o.bind f = some b) : ∃ a, o = some a ∧ f a = some b := Option.bind_eq_some_iff.mp h
theorem zV {w W : World} {g : Nat} {t : TypeId} {cs : Array Value} (h : Aside0 (w.heap[g]? = some (.cells cs t (0, 0)))) (e : w.heap[g]? = some (.cells cs t (0, 0)) → W.heap[g]? = some (.cells cs t (0, 0)) := by (intro hh; repeat (first | (with_reducible exact hh) | (with_reducible first | refine zn ?_ _ | refine zd ?_ | refine za ?_ _) | ((with_reducible refine blk_far ?_ ?_ _); rotate_left; exact Aside0.out (by assumption)) | exact hh))) : W.heap[g]? = some (.cells cs t (0, 0)) := e h.out
def Puts (w W : World) (g : Nat) (t : TypeId) (cs cs1 : Array Value) : Prop := w.heap[g]? = some (.cells cs t (0, 0)) → W.heap[g]? = some (.cells cs1 t (0, 0))
theorem Puts.r {w : World} {g : Nat} {t : TypeId} {cs : Array Value} : Puts w w g t cs cs := fun h => h
theorem Puts.a {w W : World} {g : Nat} {t : TypeId} {cs cs1 : Array Value} {o : Obj} (h : Puts w W g t cs cs1) : Puts w (W.alloc o) g t cs cs1 := fun k => blk_alloc (h k) o
theorem Puts.n {w W : World} {g : Nat} {t : TypeId} {cs cs1 : Array Value} {n : Nat} (h : Puts w W g t cs cs1) : Puts w (W.drewN n) g t cs cs1 := fun k => blk_drewN (h k) n
theorem Puts.d {w W : World} {g : Nat} {t : TypeId} {cs cs1 : Array Value} (h : Puts w W g t cs cs1) : Puts w W.drew g t cs cs1 := fun k => blk_drew (h k)
theorem Puts.p {w W : World} {g i : Nat} {t : TypeId} {cs cs1 : Array Value} {u : Value} (h : Puts w W g t cs cs1) : Puts w (W.setCell ⟨g, i, none⟩ u) g t cs (cs1.setIfInBounds i u) := fun k => blk_put (h k) i u rfl
theorem Puts.f {w W : World} {g : Nat} {p : Addr} {t : TypeId} {cs cs1 : Array Value} {u : Value} (hp : g ≠ p.block) (h : Puts w W g t cs cs1) : Puts w (W.setCell p u) g t cs cs1 := fun k => blk_far (h k) hp u
theorem zW {w W : World} {g : Nat} {t : TypeId} {cs cs1 cs' : Array Value} (h : Aside0 (w.heap[g]? = some (.cells cs t (0, 0)))) (e : Puts w W g t cs cs1 := by repeat (first | (with_reducible first | exact Puts.r | apply Puts.a | apply Puts.n | apply Puts.d | apply Puts.p) | ((with_reducible apply Puts.f); exact Aside0.out (by assumption)))) (hc : cs1 = cs' := by rfl) : W.heap[g]? = some (.cells cs' t (0, 0)) := hc ▸ e h.out
theorem zlR {α : Type} {k : Kd α} {t base : Nat} {ok : Nat → Prop} {v : Value} {w W : World} {l : List α} (h : Kd.R k t w base ok v l) (e : Kd.R k t w base ok v l → Kd.R k t W base ok v l := by (intro hh; repeat (first | (with_reducible exact hh) | (with_reducible first | apply Kd.R_alloc | apply Kd.R_drewN | apply Kd.R_drew) | ((with_reducible refine Kd.R_far ?_ (fun _ hk => ?_) _); rotate_left; first | exact hk.2 | exact hk.1.2 | exact hk.1.1.2) | exact hh))) : Kd.R k t W base ok v l := e h
theorem zlN {α : Type} {k : Kd α} {t base : Nat} {ok : Nat → Prop} {v : Value} {w W : World} {l : List α} (h : Kd.N k t w base ok v l) (e : Kd.N k t w base ok v l → Kd.N k t W base ok v l := by (intro hh; repeat (first | (with_reducible exact hh) | (with_reducible first | apply Kd.N_alloc | apply Kd.N_drewN | apply Kd.N_drew) | ((with_reducible refine Kd.N_far ?_ (fun _ hk => ?_) _); rotate_left; first | exact hk.2 | exact hk.1.2 | exact hk.1.1.2) | exact hh))) : Kd.N k t W base ok v l := e h
theorem zlV {α : Type} {k : Kd α} {t base : Nat} {ok : Nat → Prop} {v : Value} {w W : World} {l : List α} (h : Kd.V k t w base ok v l) (e : Kd.V k t w base ok v l → Kd.V k t W base ok v l := by (intro hh; repeat (first | (with_reducible exact hh) | (with_reducible first | apply Kd.V_alloc | apply Kd.V_drewN | apply Kd.V_drew) | ((with_reducible refine Kd.V_far ?_ (fun _ hk => ?_) _); rotate_left; first | exact hk.2 | exact hk.1.2 | exact hk.1.1.2) | exact hh))) : Kd.V k t W base ok v l := e h
theorem zlS {α : Type} {k : Kd α} {t base : Nat} {ok : Nat → Prop} {v : Value} {w W : World} {l : List α} (h : Kd.S k t w base ok v l) (e : Kd.S k t w base ok v l → Kd.S k t W base ok v l := by (intro hh; repeat (first | (with_reducible exact hh) | (with_reducible first | apply Kd.S_alloc | apply Kd.S_drewN | apply Kd.S_drew) | ((with_reducible refine Kd.S_far ?_ (fun _ hk => ?_) _); rotate_left; first | exact hk.2 | exact hk.1.2 | exact hk.1.1.2) | exact hh))) : Kd.S k t W base ok v l := e h
end Go.Proofs.Ytmcboiffbcnalaa.PFnExactLives
