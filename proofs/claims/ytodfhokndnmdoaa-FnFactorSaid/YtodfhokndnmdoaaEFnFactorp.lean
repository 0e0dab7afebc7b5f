/- The movers by hand: what moverOf hands back (an interface value), which function it leads to, and what that reckons. -/
import Derived.Test.YtodfhokndnmdoaaPFnFactorx9
import Derived.Test.YtodfhokndnmdoaaXFnFactorKept
namespace Go.Proofs.Ytodfhokndnmdoaa.StepP
open Go.Extern.Stop Go.Stop Go.Extern Go.RowKit Go.Proofs.Ytodfhokndnmdoaa.PFnFactor Go.Proofs.YtodfhokndnmdoaaW.PrintWords Go.Proofs.YtodfhokndnmdoaaW.PrintLast Go.Proofs.YtodfhokndnmdoaaW.PrintMore
set_option linter.unusedVariables false
attribute [local go_sem] max2_int min2_int max_two min_two max_three min_three max_four min_four
set_option maxHeartbeats 8000000
set_option maxRecDepth 100000
theorem inv88 (x a b c d e : Value) (w : World) : (invoke (.fn (.method "loop.example/g00033/impl.move") #[]) #[.iface 88 x, a, b, c, d, e]).run Try.prog w = .ok (.enter 95 #[x, a, b, c, d, e]) w := by kernel_rfl
theorem inv90 (x a b c d e : Value) (w : World) : (invoke (.fn (.method "loop.example/g00033/impl.move") #[]) #[.iface 90 x, a, b, c, d, e]).run Try.prog w = .ok (.enter 96 #[x, a, b, c, d, e]) w := by kernel_rfl
theorem inv92 (x a b c d e : Value) (w : World) : (invoke (.fn (.method "loop.example/g00033/impl.move") #[]) #[.iface 92 x, a, b, c, d, e]).run Try.prog w = .ok (.enter 97 #[x, a, b, c, d, e]) w := by kernel_rfl
def plainF (u g p f s : Int) : Option (Int × Int × Int) := (impl_Near.f (wrap64 (u * g)) 65536).bind fun t => some (wrap64 (p - t), f, s)
theorem plain (u g p f s r1 r2 r3 : Int) (w : World) (h : plainF u g p f s = some (r1, r2, r3)) :
    Calls Try.prog 97 #[.agg #[], .int .i64 u, .int .i64 g, .int .i64 p, .int .i64 f, .int .i64 s] w fun e w' => e = .returned (.tuple #[.int .i64 r1, .int .i64 r2, .int .i64 r3]) ∧ Below w.heap.size w w' := by
  unfold plainF at h
  obtain ⟨t, h1, h⟩ := Option.bind_eq_some_iff.mp h
  simp only [Option.some.injEq, Prod.mk.injEq] at h
  obtain ⟨rfl, rfl, rfl⟩ := h
  have H1 := Aside0.mk h1
  clear h1
  go_enter Try.func97, Try.ntmps97
  go_wp2_with (first
    | ((with_reducible refine gate_dst (N := 6) rfl ?_); refine box_event ?hg (N := 6) ?hd (cs := #[]) (t := 92) ?hr ?_; (case hd => rfl); (case hg => rfl); (case hr => first | (go_simp; done) | (go_simp; rfl)); intro gb hgb w1 hbox hb; have HB := Aside0.mk hb; clear hbox hb hgb)
    | (go_at_call 48; (with_reducible refine (impl_Near.calls (wrap64 (u * g)) 65536 t _ H1.out).mono ?_); rintro e w' ⟨rfl, ⟨nd, rfl⟩⟩))
  go_ret3
  exact ⟨rfl, by repeat (first | exact HB.out | apply pw_below_drewN)⟩
/-- What moverOf hands back. -/
def moverT (kind : Int) : TypeId := if kind = 2 then 88 else if kind = 3 then 90 else 92
def moverX (kind keep keep2 low : Int) : Value := if kind = 2 then .agg #[.int .i64 keep] else if kind = 3 then .agg #[.int .i64 keep, .int .i64 keep2, .int .i64 low] else .agg #[]
def moverN (kind : Int) : Nat := if kind = 2 then 95 else if kind = 3 then 96 else 97
def moverF (k : Nat) (kind keep keep2 low u g p f s : Int) : Option (Int × Int × Int) := if kind = 2 then impl_heavyMover_move.f keep u g p f s else if kind = 3 then impl_evenMover_move.f k keep keep2 low u g p f s else plainF u g p f s
theorem inv (kind keep keep2 low : Int) (a b c d e : Value) (w : World) : (invoke (.fn (.method "loop.example/g00033/impl.move") #[]) #[.iface (moverT kind) (moverX kind keep keep2 low), a, b, c, d, e]).run Try.prog w = .ok (.enter (moverN kind) #[moverX kind keep keep2 low, a, b, c, d, e]) w := by
  unfold moverT moverX moverN
  by_cases c2 : kind = 2
  · simp only [if_pos c2]; exact inv88 _ _ _ _ _ _ w
  · by_cases c3 : kind = 3
    · simp only [if_neg c2, if_pos c3]; exact inv90 _ _ _ _ _ _ w
    · simp only [if_neg c2, if_neg c3]; exact inv92 _ _ _ _ _ _ w
theorem nil88 (x : Value) (w : World) : (nilAhead 217 88 (.agg #[x]) "loop.example/g00033/impl.move").run Try.prog w = .ok (some false) w := by kernel_rfl
theorem nil90 (x y z : Value) (w : World) : (nilAhead 217 90 (.agg #[x, y, z]) "loop.example/g00033/impl.move").run Try.prog w = .ok (some false) w := by kernel_rfl
theorem nil92 (w : World) : (nilAhead 217 92 (.agg #[]) "loop.example/g00033/impl.move").run Try.prog w = .ok (some false) w := by kernel_rfl
theorem nilA (kind keep keep2 low : Int) (w : World) : (nilAhead 217 (moverT kind) (moverX kind keep keep2 low) "loop.example/g00033/impl.move").run Try.prog w = .ok (some false) w := by
  unfold moverT moverX
  by_cases c2 : kind = 2
  · simp only [if_pos c2]; exact nil88 _ w
  · by_cases c3 : kind = 3
    · simp only [if_neg c2, if_pos c3]; exact nil90 _ _ _ w
    · simp only [if_neg c2, if_neg c3]; exact nil92 w
theorem moved (k : Nat) (kind keep keep2 low u g p f s r1 r2 r3 : Int) (w : World) (h : moverF k kind keep keep2 low u g p f s = some (r1, r2, r3)) :
    Calls Try.prog (moverN kind) #[moverX kind keep keep2 low, .int .i64 u, .int .i64 g, .int .i64 p, .int .i64 f, .int .i64 s] w fun e w' => e = .returned (.tuple #[.int .i64 r1, .int .i64 r2, .int .i64 r3]) ∧ Below w.heap.size w w' := by
  unfold moverF at h
  unfold moverX moverN
  by_cases c2 : kind = 2
  · simp only [if_pos c2] at h ⊢; exact impl_heavyMover_move.calls keep u g p f s r1 r2 r3 w h
  · by_cases c3 : kind = 3
    · simp only [if_neg c2, if_pos c3] at h ⊢; exact impl_evenMover_move.calls k keep keep2 low u g p f s r1 r2 r3 w h
    · simp only [if_neg c2, if_neg c3] at h ⊢; exact plain u g p f s r1 r2 r3 w h
theorem moverOf (a0 a1 a2 a3 a4 a5 a6 a7 a8 a9 a10 : Int) (w : World) :
    Calls Try.prog 51 #[.agg #[.int .i64 a0, .int .i64 a1, .int .i64 a2, .int .i64 a3, .int .i64 a4, .int .i64 a5, .int .i64 a6, .int .i64 a7, .int .i64 a8, .int .i64 a9, .int .i64 a10]] w fun e w' => e = .returned (.iface (moverT a0) (moverX a0 a5 a6 a7)) ∧ Below w.heap.size w w' := by
  have hu35 := Try.underlying35
  unfold moverT moverX
  by_cases c2 : a0 = 2
  · have d2 : (a0 == 2) = true := by simp [c2]
    simp only [if_pos c2]
    go_enter Try.func51, Try.ntmps51
    go_wp2_with (first | ((with_reducible refine gate_dst (N := 1) rfl ?_); refine box_event ?hg (N := 1) ?hd (cs := #[.int .i64 a0, .int .i64 a1, .int .i64 a2, .int .i64 a3, .int .i64 a4, .int .i64 a5, .int .i64 a6, .int .i64 a7, .int .i64 a8, .int .i64 a9, .int .i64 a10]) (t := 35) ?hr ?_; (case hd => rfl); (case hg => rfl); (case hr => first | (go_simp; done) | (go_simp; rfl)); intro gb hgb w1 hbox hb; have HB := Aside0.mk hb; have X0 := ((blk_cell hbox 0).trans rfl : w1.cell? ⟨gb, 0, none⟩ = some (.int .i64 a0)); have X5 := ((blk_cell hbox 5).trans rfl : w1.cell? ⟨gb, 5, none⟩ = some (.int .i64 a5)); have X6 := ((blk_cell hbox 6).trans rfl : w1.cell? ⟨gb, 6, none⟩ = some (.int .i64 a6)); have X7 := ((blk_cell hbox 7).trans rfl : w1.cell? ⟨gb, 7, none⟩ = some (.int .i64 a7)); clear hbox hb hgb))
    go_ret
    exact ⟨rfl, by repeat (first | exact HB.out | apply pw_below_drewN)⟩
  · have d2 : (a0 == 2) = false := by simp [c2]
    by_cases c3 : a0 = 3
    · have d3 : (a0 == 3) = true := by simp [c3]
      simp only [if_neg c2, if_pos c3]
      go_enter Try.func51, Try.ntmps51
      go_wp2_with (first | ((with_reducible refine gate_dst (N := 1) rfl ?_); refine box_event ?hg (N := 1) ?hd (cs := #[.int .i64 a0, .int .i64 a1, .int .i64 a2, .int .i64 a3, .int .i64 a4, .int .i64 a5, .int .i64 a6, .int .i64 a7, .int .i64 a8, .int .i64 a9, .int .i64 a10]) (t := 35) ?hr ?_; (case hd => rfl); (case hg => rfl); (case hr => first | (go_simp; done) | (go_simp; rfl)); intro gb hgb w1 hbox hb; have HB := Aside0.mk hb; have X0 := ((blk_cell hbox 0).trans rfl : w1.cell? ⟨gb, 0, none⟩ = some (.int .i64 a0)); have X5 := ((blk_cell hbox 5).trans rfl : w1.cell? ⟨gb, 5, none⟩ = some (.int .i64 a5)); have X6 := ((blk_cell hbox 6).trans rfl : w1.cell? ⟨gb, 6, none⟩ = some (.int .i64 a6)); have X7 := ((blk_cell hbox 7).trans rfl : w1.cell? ⟨gb, 7, none⟩ = some (.int .i64 a7)); clear hbox hb hgb))
      go_ret
      exact ⟨rfl, by repeat (first | exact HB.out | apply pw_below_drewN)⟩
    · have d3 : (a0 == 3) = false := by simp [c3]
      simp only [if_neg c2, if_neg c3]
      go_enter Try.func51, Try.ntmps51
      go_wp2_with (first | ((with_reducible refine gate_dst (N := 1) rfl ?_); refine box_event ?hg (N := 1) ?hd (cs := #[.int .i64 a0, .int .i64 a1, .int .i64 a2, .int .i64 a3, .int .i64 a4, .int .i64 a5, .int .i64 a6, .int .i64 a7, .int .i64 a8, .int .i64 a9, .int .i64 a10]) (t := 35) ?hr ?_; (case hd => rfl); (case hg => rfl); (case hr => first | (go_simp; done) | (go_simp; rfl)); intro gb hgb w1 hbox hb; have HB := Aside0.mk hb; have X0 := ((blk_cell hbox 0).trans rfl : w1.cell? ⟨gb, 0, none⟩ = some (.int .i64 a0)); have X5 := ((blk_cell hbox 5).trans rfl : w1.cell? ⟨gb, 5, none⟩ = some (.int .i64 a5)); have X6 := ((blk_cell hbox 6).trans rfl : w1.cell? ⟨gb, 6, none⟩ = some (.int .i64 a6)); have X7 := ((blk_cell hbox 7).trans rfl : w1.cell? ⟨gb, 7, none⟩ = some (.int .i64 a7)); clear hbox hb hgb))
      go_ret
      exact ⟨rfl, by repeat (first | exact HB.out | apply pw_below_drewN)⟩
end Go.Proofs.Ytodfhokndnmdoaa.StepP
