/- Clip by hand: its variables in memory, its closure; what the closures of Clip and StepOpt reckon. -/
import Derived.Test.YtodfhokndnmdoaaEFnFactorg
import Derived.Test.YtodfhokndnmdoaaPFnFactorx6
import Derived.Test.YtodfhokndnmdoaaXFnFactorKept
namespace Go.Proofs.Ytodfhokndnmdoaa.StepH
open Go.RowKit Go.Proofs.Ytodfhokndnmdoaa.PFnFactor Go.Proofs.YtodfhokndnmdoaaW.PrintWords Go.Proofs.YtodfhokndnmdoaaW.PrintLast Go.Proofs.YtodfhokndnmdoaaW.PrintMore
set_option linter.unusedVariables false
attribute [local go_sem] max2_int min2_int max_two min_two max_three min_three max_four min_four
set_option maxHeartbeats 8000000
set_option maxRecDepth 100000
theorem near47 (x fac t : Int) (gb : Nat) (W : World) (hc : W.cell? ⟨gb, 4, none⟩ = some (.int .i64 fac)) (h : impl_Near.f x fac = some t) :
    Calls Try.prog 47 #[.int .i64 x, .pointer (some ⟨gb, 0, none⟩)] W fun e w' => e = .returned (.int .i64 t) ∧ Drawn0 W w' := by
  have H := Aside0.mk h
  clear h
  have hu30 := Try.underlying30
  go_enter Try.func47, Try.ntmps47
  go_wp2_with (first | (go_at_call 48; (with_reducible refine (impl_Near.calls x fac t _ H.out).mono ?_); rintro e w' ⟨rfl, ⟨nd, rfl⟩⟩))
  go_ret
  exact ⟨rfl, by repeat (first | exact Drawn0.refl _ | apply Drawn0.step)⟩
theorem near74 (x most n t : Int) (ga gb : Nat) (W : World) (hc : W.cell? ⟨ga, 0, none⟩ = some (.int .i64 most)) (hd : W.cell? ⟨gb, 0, none⟩ = some (.int .i64 n)) (h : impl_Near.f (wrap64 (x * most)) n = some t) :
    Calls Try.prog 74 #[.int .i64 x, .pointer (some ⟨ga, 0, none⟩), .pointer (some ⟨gb, 0, none⟩)] W fun e w' => e = .returned (.int .i64 t) ∧ Drawn0 W w' := by
  have H := Aside0.mk h
  clear h
  go_enter Try.func74, Try.ntmps74
  go_wp2_with (first | (go_at_call 48; (with_reducible refine (impl_Near.calls (wrap64 (x * most)) n t _ H.out).mono ?_); rintro e w' ⟨rfl, ⟨nd, rfl⟩⟩))
  go_ret
  exact ⟨rfl, by repeat (first | exact Drawn0.refl _ | apply Drawn0.step)⟩
theorem hcell {w W : World} (hW : Below w.heap.size w W) {p : Addr} {v : Value} (h : w.cell? p = some v) : W.cell? p = some v := (hW.cell (World.block_lt_of_cell? w _ h)).trans h
def clipF (k : Nat) (l : List Int) (most : Int) : Option (List Int) :=
  (impl_gradOk.f k l).bind fun b => if b = true then ((impl_within.f most 0 1073741824).bind fun q => if q = true then ((impl_Norm.f k l).bind fun n => if n ≤ most then slices_Clone_int_int.f l else Mapped.mapped.f k l (fun x => impl_Near.f (wrap64 (x * most)) n)) else some []) else some []
theorem clip (k : Nat) (A : Option Addr) (c : Nat) (l : List Int) (most : Int) (r : List Int) (w : World) (hr : Kd.C (Kd.int .i64) w A l.length l) (hc : l.length ≤ c) (h : clipF k l most = some r) :
    Calls Try.prog 49 #[.slice A l.length c, .int .i64 most] w fun e w' => ∃ v : Value, e = .returned v ∧ Kd.R (Kd.int .i64) 3 w' w.heap.size (fun _ => True) v r ∧ Below w.heap.size w w' := by
  have HR := Aside0.mk hr
  have HC := Aside0.mk hc
  clear hr hc
  unfold clipF at h
  obtain ⟨b, h1, h⟩ := Option.bind_eq_some_iff.mp h
  have H1 := Aside0.mk h1
  clear h1
  cases b with
  | false =>
    rw [if_neg (by decide)] at h
    obtain rfl := Option.some.inj h
    clear h
    go_enter Try.func49, Try.ntmps49
    go_wp2_with (first | ((with_reducible refine gate_dst (N := 3) rfl ?_); refine box_event ?hg (N := 3) ?hd (cs := #[.int .i64 most]) (t := 3) ?hr ?_; (case hd => rfl); (case hg => rfl); (case hr => first | (go_simp; done) | (go_simp; rfl)); intro ga hga w1 hbox hb; have Xa := ((blk_cell hbox 0).trans rfl : w1.cell? ⟨ga, 0, none⟩ = some (.int .i64 most)); have BKa := Aside0.mk hbox; have HB := Aside0.mk hb; have CL := Aside0.mk (Kd.C_below HR.out hb); clear hbox hb hga) | (go_at_call 45; (with_reducible refine (impl_gradOk.calls k _ _ l false _ ?s1 ?s2 H1.out).mono ?_); (case s1 => first | exact CL.out | exact Kd.C_drewN CL.out _ | exact Kd.C_drewN (Kd.C_drewN CL.out _) _); (case s2 => exact HC.out); rintro e w' ⟨rfl, ⟨n1, rfl⟩⟩))
    go_ret
    exact ⟨_, rfl, Kd.R_nil _ _ _ _ _, by repeat (first | exact HB.out | apply pw_below_drewN)⟩
  | true =>
    rw [if_pos rfl] at h
    obtain ⟨q, h2, h⟩ := Option.bind_eq_some_iff.mp h
    have H2 := Aside0.mk h2
    clear h2
    cases q with
    | false =>
      rw [if_neg (by decide)] at h
      obtain rfl := Option.some.inj h
      clear h
      go_enter Try.func49, Try.ntmps49
      go_wp2_with (first | ((with_reducible refine gate_dst (N := 3) rfl ?_); refine box_event ?hg (N := 3) ?hd (cs := #[.int .i64 most]) (t := 3) ?hr ?_; (case hd => rfl); (case hg => rfl); (case hr => first | (go_simp; done) | (go_simp; rfl)); intro ga hga w1 hbox hb; have Xa := ((blk_cell hbox 0).trans rfl : w1.cell? ⟨ga, 0, none⟩ = some (.int .i64 most)); have BKa := Aside0.mk hbox; have HB := Aside0.mk hb; have CL := Aside0.mk (Kd.C_below HR.out hb); clear hbox hb hga) | (go_at_call 45; (with_reducible refine (impl_gradOk.calls k _ _ l true _ ?s1 ?s2 H1.out).mono ?_); (case s1 => first | exact CL.out | exact Kd.C_drewN CL.out _ | exact Kd.C_drewN (Kd.C_drewN CL.out _) _); (case s2 => exact HC.out); rintro e w' ⟨rfl, ⟨n1, rfl⟩⟩) | (go_at_call 62; (with_reducible refine (impl_within.calls most 0 1073741824 false _ H2.out).mono ?_); rintro e w' ⟨rfl, ⟨n2, rfl⟩⟩))
      go_ret
      exact ⟨_, rfl, Kd.R_nil _ _ _ _ _, by repeat (first | exact HB.out | apply pw_below_drewN)⟩
    | true =>
      rw [if_pos rfl] at h
      obtain ⟨n, h3, h⟩ := Option.bind_eq_some_iff.mp h
      have H3 := Aside0.mk h3
      clear h3
      by_cases d : n ≤ most
      · rw [if_pos d] at h
        have db := decide_eq_true d
        have H4 := Aside0.mk h
        clear h d
        go_enter Try.func49, Try.ntmps49
        go_wp2_with (first | ((with_reducible refine gate_dst (N := 3) rfl ?_); refine box_event ?hg (N := 3) ?hd (cs := #[.int .i64 most]) (t := 3) ?hr ?_; (case hd => rfl); (case hg => rfl); (case hr => first | (go_simp; done) | (go_simp; rfl)); intro ga hga w1 hbox hb; have Xa := ((blk_cell hbox 0).trans rfl : w1.cell? ⟨ga, 0, none⟩ = some (.int .i64 most)); have BKa := Aside0.mk hbox; have HB := Aside0.mk hb; have CL := Aside0.mk (Kd.C_below HR.out hb); clear hbox hb hga) | ((with_reducible refine gate_dst (N := 5) rfl ?_); refine box_event ?hg (N := 5) ?hd (cs := #[.int .i64 0]) (t := 3) ?hr ?_; (case hd => rfl); (case hg => rfl); (case hr => first | (go_simp; done) | (go_simp; rfl)); intro gb hgb w5 hbox hb; have BK5 := Aside0.mk hbox; have Xb := ((blk_cell hbox 0).trans rfl : w5.cell? ⟨gb, 0, none⟩ = some (.int .i64 0)); have Fb := blk_frozen hbox 0; have NE := Aside0.mk (show ga ≠ gb from by rw [hgb]; exact Nat.ne_of_lt (blk_lt (by (with_reducible repeat (first | refine blk_drewN ?_ _ | refine blk_drew ?_ | refine blk_alloc ?_ _)); exact BKa.out))); have GEb := Aside0.mk (show w.heap.size ≤ gb from by rw [hgb]; exact below_size (by repeat (first | exact HB.out | apply pw_below_drewN))); have BKa5 := Aside0.mk (blk_below (by (with_reducible repeat (first | refine blk_drewN ?_ _ | refine blk_drew ?_)); exact BKa.out) hb); have HB5 := Aside0.mk (below_step (by repeat (first | exact HB.out | apply pw_below_drewN)) hb); clear hbox hb hgb Xa) | ((with_reducible refine gate_store (t := 3) (p := 5) rfl ?_); refine store_event (t := 3) (p := 5) (v := ?vo) (w1 := (w5.setCell ⟨gb, 0, none⟩ (.int .i64 n))) ?hg ?ho ?hn ?hr ?_; (case ho => rfl); (case hg => rfl); (case hn => rfl); (case hr => first | (go_simp; done) | (go_simp; rfl)); intro w6 hw; have BKb6 := Aside0.mk (show w6.heap[gb]? = some (.cells #[.int .i64 n] 3 (0, 0)) from by rw [hw]; exact blk_put BK5.out 0 _ rfl); have BKa6 := Aside0.mk (show w6.heap[ga]? = some (.cells #[.int .i64 most] 3 (0, 0)) from by rw [hw]; exact (Below.heap_setCell w5 _ _ ga NE.out).trans BKa5.out); have HB6 := Aside0.mk (show Below w.heap.size w w6 from by rw [hw]; exact below_set HB5.out GEb.out); have Xn := ((blk_cell BKb6.out 0).trans rfl : w6.cell? ⟨gb, 0, none⟩ = some (.int .i64 n)); have Xm := ((blk_cell BKa6.out 0).trans rfl : w6.cell? ⟨ga, 0, none⟩ = some (.int .i64 most)); have CL6 := Aside0.mk (Kd.C_below HR.out HB6.out); clear hw Xb Fb) | (go_at_call 45; (with_reducible refine (impl_gradOk.calls k _ _ l true _ ?s1 ?s2 H1.out).mono ?_); (case s1 => first | exact CL.out | exact Kd.C_drewN CL.out _ | exact Kd.C_drewN (Kd.C_drewN CL.out _) _); (case s2 => exact HC.out); rintro e w' ⟨rfl, ⟨n1, rfl⟩⟩) | (go_at_call 62; (with_reducible refine (impl_within.calls most 0 1073741824 true _ H2.out).mono ?_); rintro e w' ⟨rfl, ⟨n2, rfl⟩⟩) | (go_at_call 73; (with_reducible refine (impl_Norm.calls k _ _ l n _ ?s1 ?s2 H3.out).mono ?_); (case s1 => first | exact CL.out | exact Kd.C_drewN CL.out _ | exact Kd.C_drewN (Kd.C_drewN CL.out _) _); (case s2 => exact HC.out); rintro e w' ⟨rfl, ⟨n3, rfl⟩⟩) | (go_at_call 70; (with_reducible refine (slices_Clone_int_int.calls _ _ l r _ ?s1 ?s2 H4.out).mono ?_); (case s1 => first | exact CL6.out | exact Kd.C_drewN CL6.out _ | exact Kd.C_drewN (Kd.C_drewN CL6.out _) _); (case s2 => exact HC.out); rintro e w7 ⟨v7, rfl, ho, hb⟩))
        go_ret
        exact ⟨_, rfl, Kd.R_lower ho (below_size (by repeat (first | exact HB6.out | apply pw_below_drewN))), below_step (by repeat (first | exact HB6.out | apply pw_below_drewN)) hb⟩
      · rw [if_neg d] at h
        have db := decide_eq_false d
        have H4 := Aside0.mk h
        clear h d
        go_enter Try.func49, Try.ntmps49
        go_wp2_with (first | ((with_reducible refine gate_dst (N := 3) rfl ?_); refine box_event ?hg (N := 3) ?hd (cs := #[.int .i64 most]) (t := 3) ?hr ?_; (case hd => rfl); (case hg => rfl); (case hr => first | (go_simp; done) | (go_simp; rfl)); intro ga hga w1 hbox hb; have Xa := ((blk_cell hbox 0).trans rfl : w1.cell? ⟨ga, 0, none⟩ = some (.int .i64 most)); have BKa := Aside0.mk hbox; have HB := Aside0.mk hb; have CL := Aside0.mk (Kd.C_below HR.out hb); clear hbox hb hga) | ((with_reducible refine gate_dst (N := 5) rfl ?_); refine box_event ?hg (N := 5) ?hd (cs := #[.int .i64 0]) (t := 3) ?hr ?_; (case hd => rfl); (case hg => rfl); (case hr => first | (go_simp; done) | (go_simp; rfl)); intro gb hgb w5 hbox hb; have BK5 := Aside0.mk hbox; have Xb := ((blk_cell hbox 0).trans rfl : w5.cell? ⟨gb, 0, none⟩ = some (.int .i64 0)); have Fb := blk_frozen hbox 0; have NE := Aside0.mk (show ga ≠ gb from by rw [hgb]; exact Nat.ne_of_lt (blk_lt (by (with_reducible repeat (first | refine blk_drewN ?_ _ | refine blk_drew ?_ | refine blk_alloc ?_ _)); exact BKa.out))); have GEb := Aside0.mk (show w.heap.size ≤ gb from by rw [hgb]; exact below_size (by repeat (first | exact HB.out | apply pw_below_drewN))); have BKa5 := Aside0.mk (blk_below (by (with_reducible repeat (first | refine blk_drewN ?_ _ | refine blk_drew ?_)); exact BKa.out) hb); have HB5 := Aside0.mk (below_step (by repeat (first | exact HB.out | apply pw_below_drewN)) hb); clear hbox hb hgb Xa) | ((with_reducible refine gate_store (t := 3) (p := 5) rfl ?_); refine store_event (t := 3) (p := 5) (v := ?vo) (w1 := (w5.setCell ⟨gb, 0, none⟩ (.int .i64 n))) ?hg ?ho ?hn ?hr ?_; (case ho => rfl); (case hg => rfl); (case hn => rfl); (case hr => first | (go_simp; done) | (go_simp; rfl)); intro w6 hw; have BKb6 := Aside0.mk (show w6.heap[gb]? = some (.cells #[.int .i64 n] 3 (0, 0)) from by rw [hw]; exact blk_put BK5.out 0 _ rfl); have BKa6 := Aside0.mk (show w6.heap[ga]? = some (.cells #[.int .i64 most] 3 (0, 0)) from by rw [hw]; exact (Below.heap_setCell w5 _ _ ga NE.out).trans BKa5.out); have HB6 := Aside0.mk (show Below w.heap.size w w6 from by rw [hw]; exact below_set HB5.out GEb.out); have Xn := ((blk_cell BKb6.out 0).trans rfl : w6.cell? ⟨gb, 0, none⟩ = some (.int .i64 n)); have Xm := ((blk_cell BKa6.out 0).trans rfl : w6.cell? ⟨ga, 0, none⟩ = some (.int .i64 most)); have CL6 := Aside0.mk (Kd.C_below HR.out HB6.out); clear hw Xb Fb) | (go_at_call 45; (with_reducible refine (impl_gradOk.calls k _ _ l true _ ?s1 ?s2 H1.out).mono ?_); (case s1 => first | exact CL.out | exact Kd.C_drewN CL.out _ | exact Kd.C_drewN (Kd.C_drewN CL.out _) _); (case s2 => exact HC.out); rintro e w' ⟨rfl, ⟨n1, rfl⟩⟩) | (go_at_call 62; (with_reducible refine (impl_within.calls most 0 1073741824 true _ H2.out).mono ?_); rintro e w' ⟨rfl, ⟨n2, rfl⟩⟩) | (go_at_call 73; (with_reducible refine (impl_Norm.calls k _ _ l n _ ?s1 ?s2 H3.out).mono ?_); (case s1 => first | exact CL.out | exact Kd.C_drewN CL.out _ | exact Kd.C_drewN (Kd.C_drewN CL.out _) _); (case s2 => exact HC.out); rintro e w' ⟨rfl, ⟨n3, rfl⟩⟩) | (go_at_call 46; (with_reducible refine (Mapped.mapped.calls74 k _ _ l (fun x => impl_Near.f (wrap64 (x * most)) n) ga gb r _ ?s0 ?s1 ?s2 H4.out).mono ?_); (case s0 => intro W x t hW hx; exact near74 x most n t ga gb W (hcell hW (by first | exact Xm | exact Xm)) (hcell hW (by first | exact Xn | exact Xn)) hx); (case s1 => first | exact CL6.out | exact Kd.C_drewN CL6.out _ | exact Kd.C_drewN (Kd.C_drewN CL6.out _) _); (case s2 => exact HC.out); rintro e w7 ⟨v7, rfl, ho, hb⟩))
        go_ret
        exact ⟨_, rfl, Kd.R_lower ho (below_size (by repeat (first | exact HB6.out | apply pw_below_drewN))), below_step (by repeat (first | exact HB6.out | apply pw_below_drewN)) hb⟩
end Go.Proofs.Ytodfhokndnmdoaa.StepH
