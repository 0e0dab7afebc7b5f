-- Printed out of the translation by this session's own turned copy of a printer; Lean checks it.
import Derived.Test.YtkfagiojcjnfkaaPFnExactNestOkx0
import Derived.Test.YtkfagiojcjnfkaaPFnExactNestOkx2
import Derived.Test.YtkfagiojcjnfkaaPFnExactNestOkx5
namespace Go.Proofs.Ytkfagiojcjnfkaa.PFnExactNestOk
open Go.RowKit Go.Proofs.YtkfagiojcjnfkaaW.PrintWords Go.Proofs.YtkfagiojcjnfkaaW.PrintLast Go.Proofs.YtkfagiojcjnfkaaW.PrintMore
attribute [local go_sem] max2_int min2_int max_two min_two max_three min_three max_four min_four   -- for this text's walks alone
set_option linter.unusedVariables false
set_option linter.unusedSimpArgs false

/-! ### spec_NestOk: function 32 -/
mutual
def spec_NestOk.j0 : Nat → Bool → List Int → List Int → List (S125) → List (S132) → List Int → Option (Bool)
  | 0, _, _, _, _, _, _ => none
  | k + 1, x49, x149000, x149001, x149002, x149003, x149004 => if x49 = true then (some false) else (spec_NestOk.l0 k 0 x149000 x149001 x149002 x149003 x149004)
def spec_NestOk.l0 : Nat → Int → List Int → List Int → List (S125) → List (S132) → List Int → Option (Bool)
  | 0, _, _, _, _, _, _ => none
  | k + 1, x3, x149000, x149001, x149002, x149003, x149004 => if x3 < (x149000.length : Int) then (if 0 ≤ x3 then (if (rd x149000 x3) < 0 then (some false) else (if (rd x149000 x3) > 4096 then (some false) else (spec_NestOk.l0 k (wrap64 (x3 + 1)) x149000 x149001 x149002 x149003 x149004))) else (none)) else (spec_NestOk.l1 k (([] : List Int)) 0 x149000 x149001 x149002 x149003 x149004)
def spec_NestOk.l1 : Nat → List Int → Int → List Int → List Int → List (S125) → List (S132) → List Int → Option (Bool)
  | 0, _, _, _, _, _, _, _ => none
  | k + 1, x4, x5, x149000, x149001, x149002, x149003, x149004 => if x5 < (x149001.length : Int) then (if 0 ≤ x5 then ((spec_l7Has.f k x4 (rd x149001 x5)).bind fun t157 => (if t157 = true then (some false) else (if x4.length < 17592186044416 then (spec_NestOk.l1 k (x4 ++ [rd x149001 x5]) (wrap64 (x5 + 1)) x149000 x149001 x149002 x149003 x149004) else (none)))) else (none)) else (spec_NestOk.l2 k x4 0 x149000 x149001 x149002 x149003 x149004)
def spec_NestOk.l2 : Nat → List Int → Int → List Int → List Int → List (S125) → List (S132) → List Int → Option (Bool)
  | 0, _, _, _, _, _, _, _ => none
  | k + 1, x4, x6, x149000, x149001, x149002, x149003, x149004 => if x6 < (x149002.length : Int) then (if 0 ≤ x6 then (if ((rd_T125 x149002 x6).f0) < 0 then (spec_NestOk.j4 k x4 x6 ((rd_T125 x149002 x6).f0) true x149000 x149001 x149002 x149003 x149004) else (if ((rd_T125 x149002 x6).f0) ≥ (x149000.length : Int) then (spec_NestOk.j4 k x4 x6 ((rd_T125 x149002 x6).f0) true x149000 x149001 x149002 x149003 x149004) else ((spec_l7Has.f k x4 ((rd_T125 x149002 x6).f0)).bind fun t163 => (if t163 = true then (spec_NestOk.j4 k x4 x6 ((rd_T125 x149002 x6).f0) true x149000 x149001 x149002 x149003 x149004) else (if 0 ≤ ((rd_T125 x149002 x6).f0) then (if ((rd_T125 x149002 x6).f0) < (x149000.length : Int) then (if (((rd_T125 x149002 x6).f1).length : Int) = (rd x149000 ((rd_T125 x149002 x6).f0)) then (if (((rd_T125 x149002 x6).f1).length : Int) > 0 then ((spec_l5RowOk.f k ((rd_T125 x149002 x6).f1)).bind fun t168 => (spec_NestOk.j4 k x4 x6 ((rd_T125 x149002 x6).f0) (!t168) x149000 x149001 x149002 x149003 x149004)) else (spec_NestOk.j4 k x4 x6 ((rd_T125 x149002 x6).f0) false x149000 x149001 x149002 x149003 x149004)) else (spec_NestOk.j4 k x4 x6 ((rd_T125 x149002 x6).f0) true x149000 x149001 x149002 x149003 x149004)) else (none)) else (none)))))) else (none)) else (spec_NestOk.l3 k x4 0 0 x149000 x149001 x149002 x149003 x149004)
def spec_NestOk.j4 : Nat → List Int → Int → Int → Bool → List Int → List Int → List (S125) → List (S132) → List Int → Option (Bool)
  | 0, _, _, _, _, _, _, _, _, _ => none
  | k + 1, x4, x6, x7, x155, x149000, x149001, x149002, x149003, x149004 => if x155 = true then (some false) else (if x4.length < 17592186044416 then (spec_NestOk.l2 k (x4 ++ [x7]) (wrap64 (x6 + 1)) x149000 x149001 x149002 x149003 x149004) else (none))
def spec_NestOk.l3 : Nat → List Int → Int → Int → List Int → List Int → List (S125) → List (S132) → List Int → Option (Bool)
  | 0, _, _, _, _, _, _, _, _ => none
  | k + 1, x4, x8, x9, x149000, x149001, x149002, x149003, x149004 => if x9 < (x149003.length : Int) then (if 0 ≤ x9 then ((spec_l11Kernel.f k ((rd_T132 x149003 x9).f0) ((rd_T132 x149003 x9).f1) ((rd_T132 x149003 x9).f2.f0) ((rd_T132 x149003 x9).f2.f1) ((rd_T132 x149003 x9).f2.f2) ((rd_T132 x149003 x9).f3) ((rd_T132 x149003 x9).f4) x149000).bind fun t173 => (if t173 = true then ((spec_l7Has.f k x4 ((rd_T132 x149003 x9).f2.f0)).bind fun t175 => (if t175 = true then (some false) else ((spec_l11Product.f k ((rd_T132 x149003 x9).f0)).bind fun t177 => (spec_NestOk.l3 k x4 (wrap64 (x8 + t177)) (wrap64 (x9 + 1)) x149000 x149001 x149002 x149003 x149004)))) else (some false))) else (none)) else (some (decide (x8 ≤ 1000000)))
end
def spec_NestOk.f (k : Nat) (l0_0 : List Int) (l0_1 : List Int) (l0_2 : List (S125)) (l0_3 : List (S132)) (l0_4 : List Int) : Option (Bool) := if (l0_0.length : Int) > 200 then (spec_NestOk.j0 k true l0_0 l0_1 l0_2 l0_3 l0_4) else (if (l0_1.length : Int) > 40 then (spec_NestOk.j0 k true l0_0 l0_1 l0_2 l0_3 l0_4) else (if (l0_4.length : Int) > 40 then (spec_NestOk.j0 k true l0_0 l0_1 l0_2 l0_3 l0_4) else (if (l0_3.length : Int) > 400 then (spec_NestOk.j0 k true l0_0 l0_1 l0_2 l0_3 l0_4) else ((spec_l4Within.f k l0_1 (l0_0.length : Int)).bind fun t149 => (if t149 = true then ((spec_l4Within.f k l0_4 (l0_0.length : Int)).bind fun t150 => (spec_NestOk.j0 k (!t150) l0_0 l0_1 l0_2 l0_3 l0_4)) else (spec_NestOk.j0 k true l0_0 l0_1 l0_2 l0_3 l0_4))))))
theorem spec_NestOk.mono_l : ∀ k, (∀ y0 y1 y2 y3 y4 y5, LeO (spec_NestOk.j0 k y0 y1 y2 y3 y4 y5) (spec_NestOk.j0 (k + 1) y0 y1 y2 y3 y4 y5)) ∧ (∀ y0 y1 y2 y3 y4 y5, LeO (spec_NestOk.l0 k y0 y1 y2 y3 y4 y5) (spec_NestOk.l0 (k + 1) y0 y1 y2 y3 y4 y5)) ∧ (∀ y0 y1 y2 y3 y4 y5 y6, LeO (spec_NestOk.l1 k y0 y1 y2 y3 y4 y5 y6) (spec_NestOk.l1 (k + 1) y0 y1 y2 y3 y4 y5 y6)) ∧ (∀ y0 y1 y2 y3 y4 y5 y6, LeO (spec_NestOk.l2 k y0 y1 y2 y3 y4 y5 y6) (spec_NestOk.l2 (k + 1) y0 y1 y2 y3 y4 y5 y6)) ∧ (∀ y0 y1 y2 y3 y4 y5 y6 y7 y8, LeO (spec_NestOk.j4 k y0 y1 y2 y3 y4 y5 y6 y7 y8) (spec_NestOk.j4 (k + 1) y0 y1 y2 y3 y4 y5 y6 y7 y8)) ∧ (∀ y0 y1 y2 y3 y4 y5 y6 y7, LeO (spec_NestOk.l3 k y0 y1 y2 y3 y4 y5 y6 y7) (spec_NestOk.l3 (k + 1) y0 y1 y2 y3 y4 y5 y6 y7))
  | 0 => ⟨fun _ _ _ _ _ _ r h => by simp [spec_NestOk.j0] at h, fun _ _ _ _ _ _ r h => by simp [spec_NestOk.l0] at h, fun _ _ _ _ _ _ _ r h => by simp [spec_NestOk.l1] at h, fun _ _ _ _ _ _ _ r h => by simp [spec_NestOk.l2] at h, fun _ _ _ _ _ _ _ _ _ r h => by simp [spec_NestOk.j4] at h, fun _ _ _ _ _ _ _ _ r h => by simp [spec_NestOk.l3] at h⟩
  | k + 1 => by
    obtain ⟨ih0, ih1, ih2, ih3, ih4, ih5⟩ := spec_NestOk.mono_l k
    refine ⟨?_, ?_, ?_, ?_, ?_, ?_⟩
    all_goals (intros; first | unfold spec_NestOk.j0 | unfold spec_NestOk.l0 | unfold spec_NestOk.l1 | unfold spec_NestOk.l2 | unfold spec_NestOk.j4 | unfold spec_NestOk.l3)
    all_goals repeat' first
      | (with_reducible exact ih0 _ _ _ _ _ _)
      | (with_reducible exact ih1 _ _ _ _ _ _)
      | (with_reducible exact ih2 _ _ _ _ _ _ _)
      | (with_reducible exact ih3 _ _ _ _ _ _ _)
      | (with_reducible exact ih4 _ _ _ _ _ _ _ _ _)
      | (with_reducible exact ih5 _ _ _ _ _ _ _ _)
      | (with_reducible exact spec_l11Kernel.mono _ _ _ _ _ _ _ _ _)
      | (with_reducible exact spec_l11Product.mono _ _)
      | (with_reducible exact spec_l4Within.mono _ _ _)
      | (with_reducible exact spec_l5RowOk.mono _ _)
      | (with_reducible exact spec_l7Has.mono _ _ _)
      | (with_reducible exact LeO.refl _)
      | (with_reducible exact LeO.none _)
      | (with_reducible refine LeO.ite ?_ ?_)
      | (with_reducible refine LeO.bind ?_ (fun _ => ?_))
      | exact ih0 _ _ _ _ _ _
      | exact ih1 _ _ _ _ _ _
      | exact ih2 _ _ _ _ _ _ _
      | exact ih3 _ _ _ _ _ _ _
      | exact ih4 _ _ _ _ _ _ _ _ _
      | exact ih5 _ _ _ _ _ _ _ _
      | exact spec_l11Kernel.mono _ _ _ _ _ _ _ _ _
      | exact spec_l11Product.mono _ _
      | exact spec_l4Within.mono _ _ _
      | exact spec_l5RowOk.mono _ _
      | exact spec_l7Has.mono _ _ _
      | exact LeO.none _
      | refine LeO.ite ?_ ?_
      | refine LeO.bind ?_ (fun _ => ?_)
theorem spec_NestOk.mono : ∀ a0 a1 a2 a3 a4 k, LeO (spec_NestOk.f k a0 a1 a2 a3 a4) (spec_NestOk.f (k + 1) a0 a1 a2 a3 a4) := by
  intro a0 a1 a2 a3 a4 k
  obtain ⟨ih0, ih1, ih2, ih3, ih4, ih5⟩ := spec_NestOk.mono_l k
  unfold spec_NestOk.f
  repeat' first
      | (with_reducible exact ih0 _ _ _ _ _ _)
      | (with_reducible exact ih1 _ _ _ _ _ _)
      | (with_reducible exact ih2 _ _ _ _ _ _ _)
      | (with_reducible exact ih3 _ _ _ _ _ _ _)
      | (with_reducible exact ih4 _ _ _ _ _ _ _ _ _)
      | (with_reducible exact ih5 _ _ _ _ _ _ _ _)
      | (with_reducible exact spec_l11Kernel.mono _ _ _ _ _ _ _ _ _)
      | (with_reducible exact spec_l11Product.mono _ _)
      | (with_reducible exact spec_l4Within.mono _ _ _)
      | (with_reducible exact spec_l5RowOk.mono _ _)
      | (with_reducible exact spec_l7Has.mono _ _ _)
      | (with_reducible exact LeO.refl _)
      | (with_reducible exact LeO.none _)
      | (with_reducible refine LeO.ite ?_ ?_)
      | (with_reducible refine LeO.bind ?_ (fun _ => ?_))
      | exact ih0 _ _ _ _ _ _
      | exact ih1 _ _ _ _ _ _
      | exact ih2 _ _ _ _ _ _ _
      | exact ih3 _ _ _ _ _ _ _
      | exact ih4 _ _ _ _ _ _ _ _ _
      | exact ih5 _ _ _ _ _ _ _ _
      | exact spec_l11Kernel.mono _ _ _ _ _ _ _ _ _
      | exact spec_l11Product.mono _ _
      | exact spec_l4Within.mono _ _ _
      | exact spec_l5RowOk.mono _ _
      | exact spec_l7Has.mono _ _ _
      | exact LeO.none _
      | refine LeO.ite ?_ ?_
      | refine LeO.bind ?_ (fun _ => ?_)
def spec_NestOk.T19 : Bool × List (List Nat × List Nat) := (true, [([], []), ([0], [0]), ([1], [1]), ([2], [2]), ([2], [2]), ([4, 2], [2, 4]), ([5, 2], [2, 5]), ([3, 6, 2], [2, 3, 6]), ([2, 7], [2, 7]), ([8, 2], [8]), ([9], [9]), ([9], [9]), ([10, 11, 9, 9], [9, 10, 11]), ([9, 12], [9, 12]), ([13, 12], [13]), ([14], [14]), ([15, 14], [14, 15]), ([14], [14]), ([16, 17, 14], [14, 16, 17]), ([18, 14], [14, 18]), ([19, 14], [14, 19]), ([20, 14], [14, 20]), ([14], [14]), ([22, 14], [14, 22]), ([14], [14]), ([23, 24, 14], [14, 23, 24]), ([25, 14], [14, 25]), ([21, 26, 14], [14, 21, 26]), ([14, 27], [14, 27]), ([28, 14], [28]), ([29], [29]), ([30, 29], [29, 30]), ([29], [29]), ([31, 32, 29], [29, 31, 32]), ([33, 29], [29, 33]), ([34, 29], [29, 34]), ([35, 29], [29, 35]), ([36, 29], [29, 36]), ([37, 29, 29], [29, 37]), ([38], [38]), ([39, 38], [38, 39]), ([38], [38]), ([40, 41, 38], [38, 40, 41]), ([42, 38], [38, 42]), ([43, 38], [38, 43]), ([44, 38, 38], [38, 44]), ([45, 38], [38, 45]), ([38, 46, 29], [29, 38, 46]), ([29, 47], [29, 47])])
def spec_NestOk.B19 : List Nat := [0, 1, 3, 7, 7, 23, 55, 127, 255, 511, 1023, 1023, 4095, 8191, 16383, 32767, 65535, 32767, 262143, 524287, 1048575, 2097151, 32767, 4227071, 32767, 29392895, 62947327, 134217727, 268435455, 536870911, 1073741823, 2147483647, 1073741823, 8589934591, 17179869183, 34359738367, 68719476735, 137438953471, 274877906943, 549755813887, 1099511627775, 549755813887, 4398046511103, 8796093022207, 17592186044415, 35184372088831, 70368744177663, 140737488355327, 281474976710655]
theorem spec_NestOk.tab19 : rtab .any (opsOf Try.f32 19) = spec_NestOk.T19 := by kernel_rfl
theorem spec_NestOk.bits19 : waitsOk spec_NestOk.T19.2 spec_NestOk.B19 = true := by kernel_rfl
def spec_NestOk.T26 : Bool × List (List Nat × List Nat) := (true, [([], []), ([0], [0]), ([], []), ([1, 2], [1, 2]), ([3], [3]), ([], []), ([5], [5]), ([4, 6], [4, 6]), ([7], [7]), ([8, 7], [8]), ([9], [9]), ([9], [9]), ([11, 9], [9, 11]), ([9], [9]), ([12, 13, 9], [9, 12, 13]), ([14, 9], [9, 14]), ([15, 9], [9, 15]), ([16, 9], [9, 16]), ([10, 17, 9, 9], [9, 10, 17]), ([9, 18], [9, 18])])
def spec_NestOk.B26 : List Nat := [0, 1, 0, 7, 15, 0, 32, 127, 255, 511, 1023, 1023, 3071, 1023, 15359, 31743, 64511, 130047, 262143, 524287]
theorem spec_NestOk.tab26 : rtab .any (opsOf Try.f32 26) = spec_NestOk.T26 := by kernel_rfl
theorem spec_NestOk.bits26 : waitsOk spec_NestOk.T26.2 spec_NestOk.B26 = true := by kernel_rfl
set_option maxHeartbeats 8000000 in
set_option maxRecDepth 100000 in
theorem spec_NestOk.calls (k : Nat) (A0_0 : Option Addr) (c0_0 : Nat) (l0_0 : List Int) (A0_1 : Option Addr) (c0_1 : Nat) (l0_1 : List Int) (A0_2 : Option Addr) (c0_2 : Nat) (l0_2 : List (S125)) (A0_3 : Option Addr) (c0_3 : Nat) (l0_3 : List (S132)) (A0_4 : Option Addr) (c0_4 : Nat) (l0_4 : List Int) (r : Bool) (w : World) (hr0_0 : Kd.C (Kd.int .i64) w A0_0 l0_0.length l0_0) (hc0_0 : l0_0.length ≤ c0_0) (hr0_1 : Kd.C (Kd.int .i64) w A0_1 l0_1.length l0_1) (hc0_1 : l0_1.length ≤ c0_1) (hr0_2 : Kd.C k125 w A0_2 l0_2.length l0_2) (hc0_2 : l0_2.length ≤ c0_2) (hr0_3 : Kd.C k132 w A0_3 l0_3.length l0_3) (hc0_3 : l0_3.length ≤ c0_3) (hr0_4 : Kd.C (Kd.int .i64) w A0_4 l0_4.length l0_4) (hc0_4 : l0_4.length ≤ c0_4) (h : spec_NestOk.f k l0_0 l0_1 l0_2 l0_3 l0_4 = some r) :
    Calls Try.prog 32 #[.agg #[.slice A0_0 l0_0.length c0_0, .slice A0_1 l0_1.length c0_1, .slice A0_2 l0_2.length c0_2, .slice A0_3 l0_3.length c0_3, .slice A0_4 l0_4.length c0_4]] w fun e w' => e = .returned (.bool r) ∧ Below w.heap.size w w' := by
  have hu70 := Try.underlying70
  have hu132 := Try.underlying132
  have HR0_0 := zK hr0_0
  have HC0_0 := zK hc0_0
  clear hr0_0 hc0_0
  have HR0_1 := zK hr0_1
  have HC0_1 := zK hc0_1
  clear hr0_1 hc0_1
  have HR0_2 := zK hr0_2
  have HC0_2 := zK hc0_2
  clear hr0_2 hc0_2
  have HR0_3 := zK hr0_3
  have HC0_3 := zK hc0_3
  clear hr0_3 hc0_3
  have HR0_4 := zK hr0_4
  have HC0_4 := zK hc0_4
  clear hr0_4 hc0_4
  have HB := zK (Below.refl w.heap.size w)
  have H : (if (l0_0.length : Int) > 200 then (spec_NestOk.j0 k true l0_0 l0_1 l0_2 l0_3 l0_4) else (if (l0_1.length : Int) > 40 then (spec_NestOk.j0 k true l0_0 l0_1 l0_2 l0_3 l0_4) else (if (l0_4.length : Int) > 40 then (spec_NestOk.j0 k true l0_0 l0_1 l0_2 l0_3 l0_4) else (if (l0_3.length : Int) > 400 then (spec_NestOk.j0 k true l0_0 l0_1 l0_2 l0_3 l0_4) else ((spec_l4Within.f k l0_1 (l0_0.length : Int)).bind fun t149 => (if t149 = true then ((spec_l4Within.f k l0_4 (l0_0.length : Int)).bind fun t150 => (spec_NestOk.j0 k (!t150) l0_0 l0_1 l0_2 l0_3 l0_4)) else (spec_NestOk.j0 k true l0_0 l0_1 l0_2 l0_3 l0_4))))))) = some r := h
  clear h
  have HC2 := zK H
  clear H
  go_enter Try.func32, Try.ntmps32
  go_upto_region 1 with (first | ((with_reducible refine gate_dst (N := 1) rfl ?_); (try (refine gate_guard (by rfl) ?_; dsimp only)); refine zJ 1 #[.slice A0_0 l0_0.length c0_0, .slice A0_1 l0_1.length c0_1, .slice A0_2 l0_2.length c0_2, .slice A0_3 l0_3.length c0_3, .slice A0_4 l0_4.length c0_4] 70 ?_; intro gb148 hg w3 hbox hb; have n0_ := zK (zp zB hb); have n1_ := zK (hbox); have n2_ := zK (zI hg zB); have n3_ := zK (zI hg zB); clear HB; have HB := n0_; have BK148 := n1_; have GW148 := n2_; have GE148 := n3_; clear n0_ n1_ n2_ n3_; clear hb hbox hg))
  (try simp only [Act.put, zq1, zq2, zq3])
  go_cut [49] (fun v49 wc => ∃ (kq : Nat) (x49_1 : Bool), v49 = .bool x49_1 ∧ Aside0 (spec_NestOk.j0 kq x49_1 l0_0 l0_1 l0_2 l0_3 l0_4 = some r) ∧ Aside0 (kq ≤ k) ∧ Aside0 (wc.heap[gb148]? = some (.cells #[(.slice A0_0 l0_0.length c0_0), (.slice A0_1 l0_1.length c0_1), (.slice A0_2 l0_2.length c0_2), (.slice A0_3 l0_3.length c0_3), (.slice A0_4 l0_4.length c0_4)] 70 (0, 0))) ∧ Aside0 (Below w.heap.size w wc))
  case first =>
   have H := HC2.out
   clear HC2
   by_cases c4 : (l0_0.length : Int) > 200
   · rw [if_pos c4] at H
     have c4b0 : decide (200 < (l0_0.length : Int)) = true := decide_eq_true c4
     have c4b1 : decide (200 < l0_0.length) = true := decide_eq_true (by omega)
     clear c4
     (first | rw [c4b0] | (simp only [i64_w, i32_w]; rw [c4b0]) | skip)
     have H' := zK H
     clear H
     obtain ⟨hcz5_0, hcz5_1, hcz5_2, hcz5_3, hcz5_4, hfz5_0, hfz5_1, hfz5_2, hfz5_3, hfz5_4⟩ := zc5 BK148
     go_wp2
     go_meet
     case rel => exact ⟨_, (true), zR, H', ⟨by first | omega | exact Nat.le_refl _⟩, ⟨zM BK148⟩, ⟨zB⟩⟩
   rw [if_neg c4] at H
   have c4b0 : decide (200 < (l0_0.length : Int)) = false := decide_eq_false c4
   have c4b1 : decide (200 < l0_0.length) = false := decide_eq_false (by omega)
   clear c4
   (first | rw [c4b0] | (simp only [i64_w, i32_w]; rw [c4b0]) | skip)
   by_cases c6 : (l0_1.length : Int) > 40
   · rw [if_pos c6] at H
     have c6b0 : decide (40 < (l0_1.length : Int)) = true := decide_eq_true c6
     have c6b1 : decide (40 < l0_1.length) = true := decide_eq_true (by omega)
     clear c6
     have H' := zK H
     clear H
     obtain ⟨hcz7_0, hcz7_1, hcz7_2, hcz7_3, hcz7_4, hfz7_0, hfz7_1, hfz7_2, hfz7_3, hfz7_4⟩ := zc5 BK148
     go_wp2
     go_meet
     case rel => exact ⟨_, (true), zR, H', ⟨by first | omega | exact Nat.le_refl _⟩, ⟨zM BK148⟩, ⟨zB⟩⟩
   rw [if_neg c6] at H
   have c6b0 : decide (40 < (l0_1.length : Int)) = false := decide_eq_false c6
   have c6b1 : decide (40 < l0_1.length) = false := decide_eq_false (by omega)
   clear c6
   by_cases c8 : (l0_4.length : Int) > 40
   · rw [if_pos c8] at H
     have c8b0 : decide (40 < (l0_4.length : Int)) = true := decide_eq_true c8
     have c8b1 : decide (40 < l0_4.length) = true := decide_eq_true (by omega)
     clear c8
     have H' := zK H
     clear H
     obtain ⟨hcz9_0, hcz9_1, hcz9_2, hcz9_3, hcz9_4, hfz9_0, hfz9_1, hfz9_2, hfz9_3, hfz9_4⟩ := zc5 BK148
     go_wp2
     go_meet
     case rel => exact ⟨_, (true), zR, H', ⟨by first | omega | exact Nat.le_refl _⟩, ⟨zM BK148⟩, ⟨zB⟩⟩
   rw [if_neg c8] at H
   have c8b0 : decide (40 < (l0_4.length : Int)) = false := decide_eq_false c8
   have c8b1 : decide (40 < l0_4.length) = false := decide_eq_false (by omega)
   clear c8
   by_cases c10 : (l0_3.length : Int) > 400
   · rw [if_pos c10] at H
     have c10b0 : decide (400 < (l0_3.length : Int)) = true := decide_eq_true c10
     have c10b1 : decide (400 < l0_3.length) = true := decide_eq_true (by omega)
     clear c10
     have H' := zK H
     clear H
     obtain ⟨hcz11_0, hcz11_1, hcz11_2, hcz11_3, hcz11_4, hfz11_0, hfz11_1, hfz11_2, hfz11_3, hfz11_4⟩ := zc5 BK148
     go_wp2
     go_meet
     case rel => exact ⟨_, (true), zR, H', ⟨by first | omega | exact Nat.le_refl _⟩, ⟨zM BK148⟩, ⟨zB⟩⟩
   rw [if_neg c10] at H
   have c10b0 : decide (400 < (l0_3.length : Int)) = false := decide_eq_false c10
   have c10b1 : decide (400 < l0_3.length) = false := decide_eq_false (by omega)
   clear c10
   replace H := Option.bind_eq_some_iff.mp H
   obtain ⟨t149, A120, H⟩ := H
   replace H : (if t149 = true then ((spec_l4Within.f k l0_4 (l0_0.length : Int)).bind fun t150 => (spec_NestOk.j0 k (!t150) l0_0 l0_1 l0_2 l0_3 l0_4)) else (spec_NestOk.j0 k true l0_0 l0_1 l0_2 l0_3 l0_4)) = some r := H
   have A12 := zK A120
   clear A120
   by_cases c13 : t149 = true
   rotate_left
   · as_aux_lemma =>
     replace c13 := Bool.eq_false_iff.mpr c13
     subst c13
     have H1 : (spec_NestOk.j0 k true l0_0 l0_1 l0_2 l0_3 l0_4) = some r := by rw [if_neg (show ¬ (false = true) by decide)] at H; exact H
     clear H
     have H := H1
     clear H1
     have H' := zK H
     clear H
     obtain ⟨hcz16_0, hcz16_1, hcz16_2, hcz16_3, hcz16_4, hfz16_0, hfz16_1, hfz16_2, hfz16_3, hfz16_4⟩ := zc5 BK148
     go_wp2_with (first | (go_at_call 85; (with_reducible refine (spec_l4Within.calls k _ _ l0_1 (l0_0.length : Int) false _ ?side1 ?side2 A12.out).mono ?_); (case side1 => exact zC (Kd.C_below HR0_1.out HB.out)); (case side2 => exact HC0_1.out); rintro e w' ⟨rfl, ⟨nd, rfl⟩⟩))
     go_meet
     case rel => exact ⟨_, (true), zR, H', ⟨by first | omega | exact Nat.le_refl _⟩, ⟨zM BK148⟩, ⟨zB⟩⟩
   subst c13
   have H1 : ((spec_l4Within.f k l0_4 (l0_0.length : Int)).bind fun t150 => (spec_NestOk.j0 k (!t150) l0_0 l0_1 l0_2 l0_3 l0_4)) = some r := by rw [if_pos rfl] at H; exact H
   clear H
   have H := H1
   clear H1
   replace H := Option.bind_eq_some_iff.mp H
   obtain ⟨t150, A140, H⟩ := H
   replace H : (spec_NestOk.j0 k (!t150) l0_0 l0_1 l0_2 l0_3 l0_4) = some r := H
   have A14 := zK A140
   clear A140
   have H' := zK H
   clear H
   obtain ⟨hcz15_0, hcz15_1, hcz15_2, hcz15_3, hcz15_4, hfz15_0, hfz15_1, hfz15_2, hfz15_3, hfz15_4⟩ := zc5 BK148
   go_wp2_with (first | (go_at_call 85; (with_reducible refine (spec_l4Within.calls k _ _ l0_1 (l0_0.length : Int) true _ ?side1 ?side2 A12.out).mono ?_); (case side1 => exact zC (Kd.C_below HR0_1.out HB.out)); (case side2 => exact HC0_1.out); rintro e w' ⟨rfl, ⟨nd, rfl⟩⟩) | (go_at_call 85; (with_reducible refine (spec_l4Within.calls k _ _ l0_4 (l0_0.length : Int) t150 _ ?side1 ?side2 A14.out).mono ?_); (case side1 => exact zC (Kd.C_below HR0_4.out zB)); (case side2 => exact HC0_4.out); rintro e w' ⟨rfl, ⟨nd, rfl⟩⟩))
   go_meet
   case rel => exact ⟨_, (!t150), zR, H', ⟨by first | omega | exact Nat.le_refl _⟩, ⟨zM BK148⟩, ⟨zB⟩⟩
  case rest =>
   clear HC2
   try clear c1
   try clear p2
   try clear c3
   try clear c4
   try clear c4b0
   try clear c4b1
   try clear c6
   try clear c6b0
   try clear c6b1
   try clear c8
   try clear c8b0
   try clear c8b1
   try clear c10
   try clear c10b0
   try clear c10b1
   try clear c13
   try clear hcz11_0 hcz11_1 hcz11_2 hcz11_3 hcz11_4 hfz11_0 hfz11_1 hfz11_2 hfz11_3 hfz11_4
   try clear hcz15_0 hcz15_1 hcz15_2 hcz15_3 hcz15_4 hfz15_0 hfz15_1 hfz15_2 hfz15_3 hfz15_4
   try clear hcz16_0 hcz16_1 hcz16_2 hcz16_3 hcz16_4 hfz16_0 hfz16_1 hfz16_2 hfz16_3 hfz16_4
   try clear hcz5_0 hcz5_1 hcz5_2 hcz5_3 hcz5_4 hfz5_0 hfz5_1 hfz5_2 hfz5_3 hfz5_4
   try clear hcz7_0 hcz7_1 hcz7_2 hcz7_3 hcz7_4 hfz7_0 hfz7_1 hfz7_2 hfz7_3 hfz7_4
   try clear hcz9_0 hcz9_1 hcz9_2 hcz9_3 hcz9_4 hfz9_0 hfz9_1 hfz9_2 hfz9_3 hfz9_4
   obtain ⟨kq, x49_1, rfl, HA, HJ1, BK148, HB⟩ := hcut
   cases kq with
   | zero => exact absurd HA.out (by simp [spec_NestOk.j0])
   | succ kj1 =>
    have H := HA.out
    clear HA
    simp only [spec_NestOk.j0] at H
    by_cases c17 : x49_1 = true
    · subst c17
      have H1 : (some false) = some r := by rw [if_pos rfl] at H; exact H
      clear H
      have H := H1
      clear H1
      obtain rfl := Option.some.inj H
      go_wp2
      go_ret
      exact ⟨zE, zB⟩
    replace c17 := Bool.eq_false_iff.mpr c17
    subst c17
    have H1 : (spec_NestOk.l0 kj1 0 l0_0 l0_1 l0_2 l0_3 l0_4) = some r := by rw [if_neg (show ¬ (false = true) by decide)] at H; exact H
    clear H
    have H := H1
    clear H1
    have H' := zK H
    clear H
    go_wp2
    go_loopg [3] kj1 (fun kq v3 w' => ∃ (x3_2 : Int), v3 = .int .i64 x3_2 ∧ Aside0 (spec_NestOk.l0 kq x3_2 l0_0 l0_1 l0_2 l0_3 l0_4 = some r) ∧ Aside0 (kq ≤ kj1) ∧ Aside0 (w'.heap[gb148]? = some (.cells #[(.slice A0_0 l0_0.length c0_0), (.slice A0_1 l0_1.length c0_1), (.slice A0_2 l0_2.length c0_2), (.slice A0_3 l0_3.length c0_3), (.slice A0_4 l0_4.length c0_4)] 70 (0, 0))) ∧ Aside0 (Below w.heap.size w w'))
    case atStart => exact ⟨(0), zR, H', ⟨Nat.le_refl _⟩, ⟨zM BK148⟩, ⟨zB⟩⟩
    clear H'
    try clear c1
    try clear p2
    try clear c3
    try clear c4
    try clear c4b0
    try clear c4b1
    try clear c6
    try clear c6b0
    try clear c6b1
    try clear c8
    try clear c8b0
    try clear c8b1
    try clear c10
    try clear c10b0
    try clear c10b1
    try clear c13
    try clear c17
    try clear hcz11_0 hcz11_1 hcz11_2 hcz11_3 hcz11_4 hfz11_0 hfz11_1 hfz11_2 hfz11_3 hfz11_4
    try clear hcz15_0 hcz15_1 hcz15_2 hcz15_3 hcz15_4 hfz15_0 hfz15_1 hfz15_2 hfz15_3 hfz15_4
    try clear hcz16_0 hcz16_1 hcz16_2 hcz16_3 hcz16_4 hfz16_0 hfz16_1 hfz16_2 hfz16_3 hfz16_4
    try clear hcz5_0 hcz5_1 hcz5_2 hcz5_3 hcz5_4 hfz5_0 hfz5_1 hfz5_2 hfz5_3 hfz5_4
    try clear hcz7_0 hcz7_1 hcz7_2 hcz7_3 hcz7_4 hfz7_0 hfz7_1 hfz7_2 hfz7_3 hfz7_4
    try clear hcz9_0 hcz9_1 hcz9_2 hcz9_3 hcz9_4 hfz9_0 hfz9_1 hfz9_2 hfz9_3 hfz9_4
    try clear p2
    obtain ⟨x3_2, rfl, HA, HK2, BK148, HB⟩ := hrel
    rcases gk with _ | k2
    · exact absurd HA.out (by simp [spec_NestOk.l0])
    have H := HA.out
    clear HA
    simp only [spec_NestOk.l0] at H
    by_cases c18 : x3_2 < (l0_0.length : Int)
    · as_aux_lemma =>
      rw [if_pos c18] at H
      have c18b0 : decide (x3_2 < (l0_0.length : Int)) = true := decide_eq_true c18
      clear c18
      by_cases c19 : 0 ≤ x3_2
      rotate_left
      · rw [if_neg c19] at H
        exact absurd H (by simp)
      rw [if_pos c19] at H
      have c19b0 : decide (0 ≤ x3_2) = true := decide_eq_true c19
      clear c19
      by_cases c20 : (rd l0_0 x3_2) < 0
      · as_aux_lemma =>
        rw [if_pos c20] at H
        have c20b0 : decide ((rd l0_0 x3_2) < 0) = true := decide_eq_true c20
        clear c20
        obtain rfl := Option.some.inj H
        obtain ⟨hcz21_0, hcz21_1, hcz21_2, hcz21_3, hcz21_4, hfz21_0, hfz21_1, hfz21_2, hfz21_3, hfz21_4⟩ := zc5 BK148
        have p151 : 0 ≤ (x3_2 : Int) := of_decide_eq_true zA
        have q151 : x3_2 < (l0_0.length : Int) := of_decide_eq_true zA
        obtain ⟨ad151, e151, hx151_0⟩ := Kd.at_int HR0_0.out x3_2 p151 q151
        cases e151
        (try replace hx151_0 := zX HB hx151_0)
        replace p151 := eq_true p151
        replace q151 := eq_true q151
        go_wp2
        go_ret
        exact ⟨zE, zB⟩
      rw [if_neg c20] at H
      have c20b0 : decide ((rd l0_0 x3_2) < 0) = false := decide_eq_false c20
      clear c20
      by_cases c22 : (rd l0_0 x3_2) > 4096
      · as_aux_lemma =>
        rw [if_pos c22] at H
        have c22b0 : decide (4096 < (rd l0_0 x3_2)) = true := decide_eq_true c22
        clear c22
        obtain rfl := Option.some.inj H
        obtain ⟨hcz23_0, hcz23_1, hcz23_2, hcz23_3, hcz23_4, hfz23_0, hfz23_1, hfz23_2, hfz23_3, hfz23_4⟩ := zc5 BK148
        have p151 : 0 ≤ (x3_2 : Int) := of_decide_eq_true zA
        have q151 : x3_2 < (l0_0.length : Int) := of_decide_eq_true zA
        obtain ⟨ad151, e151, hx151_0⟩ := Kd.at_int HR0_0.out x3_2 p151 q151
        cases e151
        (try replace hx151_0 := zX HB hx151_0)
        replace p151 := eq_true p151
        replace q151 := eq_true q151
        have p152 : 0 ≤ (x3_2 : Int) := of_decide_eq_true zA
        have q152 : x3_2 < (l0_0.length : Int) := of_decide_eq_true zA
        obtain ⟨ad152, e152, hx152_0⟩ := Kd.at_int HR0_0.out x3_2 p152 q152
        obtain rfl : ad151 = ad152 := (by injection e152)
        (try replace hx152_0 := zX HB hx152_0)
        replace p152 := eq_true p152
        replace q152 := eq_true q152
        go_wp2
        go_ret
        exact ⟨zE, zB⟩
      rw [if_neg c22] at H
      have c22b0 : decide (4096 < (rd l0_0 x3_2)) = false := decide_eq_false c22
      clear c22
      have H' := zK H
      clear H
      obtain ⟨hcz24_0, hcz24_1, hcz24_2, hcz24_3, hcz24_4, hfz24_0, hfz24_1, hfz24_2, hfz24_3, hfz24_4⟩ := zc5 BK148
      have p151 : 0 ≤ (x3_2 : Int) := of_decide_eq_true zA
      have q151 : x3_2 < (l0_0.length : Int) := of_decide_eq_true zA
      obtain ⟨ad151, e151, hx151_0⟩ := Kd.at_int HR0_0.out x3_2 p151 q151
      cases e151
      (try replace hx151_0 := zX HB hx151_0)
      replace p151 := eq_true p151
      replace q151 := eq_true q151
      have p152 : 0 ≤ (x3_2 : Int) := of_decide_eq_true zA
      have q152 : x3_2 < (l0_0.length : Int) := of_decide_eq_true zA
      obtain ⟨ad152, e152, hx152_0⟩ := Kd.at_int HR0_0.out x3_2 p152 q152
      obtain rfl : ad151 = ad152 := (by injection e152)
      (try replace hx152_0 := zX HB hx152_0)
      replace p152 := eq_true p152
      replace q152 := eq_true q152
      go_wp2
      go_roundg k2
      case measure => have := HJ1.out; have := HK2.out; omega
      case rel => exact ⟨(wrap64 (x3_2 + 1)), zR, H', ⟨by have := HJ1.out; have := HK2.out; omega⟩, ⟨zM BK148⟩, ⟨zB⟩⟩
    rw [if_neg c18] at H
    have c18b0 : decide (x3_2 < (l0_0.length : Int)) = false := decide_eq_false c18
    clear c18
    obtain ⟨y153, hy153⟩ : ∃ y_ : List Int, y_ = (([] : List Int)) := ⟨_, rfl⟩
    replace H : (spec_NestOk.l1 k2 y153 0 l0_0 l0_1 l0_2 l0_3 l0_4) = some r := by first | (rw [hy153]; with_reducible exact H) | (have H2_ := (Option.bind_some _ _).symm.trans H; rw [hy153]; with_reducible exact H2_) | (have H2_ := (Option.bind_some _ _).symm.trans H; with_reducible exact H2_) | with_reducible exact H | (rw [hy153]; exact H) | exact H
    have Ny153 := zK hy153
    clear hy153
    have H' := zK H
    clear H
    obtain ⟨hcz25_0, hcz25_1, hcz25_2, hcz25_3, hcz25_4, hfz25_0, hfz25_1, hfz25_2, hfz25_3, hfz25_4⟩ := zc5 BK148
    go_wp2_with (first | ((with_reducible refine gate_dst (N := 71) rfl ?_); (try (refine gate_guard (by rfl) ?_; dsimp only)); refine Kd.R_lit (Kd.int .i64) _ 3 ?hg (N := 71) ?hd (xs := ([] : List Int)) (inner := []) (ok := fun _ => True) (okp := fun _ => True) ?hr ?hp (fun _ hk => hk) trivial (Below.refl _ _) (Nat.le_refl _) (by simp) ?_; (case hd => rfl); (case hg => rfl); (case hr => first | (go_simp; done) | (go_simp; rfl)); (case hp => exact (Reps.none _ _)); intro v154 w26 ho27 hb hg_ hnew_; clear hg_ hnew_; (first | rw [← Ny153.out] at ho27 | (simp only [Int.reduceToNat] at ho27; rw [← Ny153.out] at ho27)); have n0_ := zK (Kd.R_lower ho27 (zz zB)); have n1_ := zK (zg (zM BK148) hb); have n2_ := zK (zp zB hb); clear BK148; clear HB; have HO155 := n0_; have BK148 := n1_; have HB := n2_; clear n0_ n1_ n2_; clear hb ho27))
    go_loopg [4, 5] k2 (fun kq v4 v5 w' => ∃ (x4_3 : List Int) (x5_3 : Int), v5 = .int .i64 x5_3 ∧ Aside0 (spec_NestOk.l1 kq x4_3 x5_3 l0_0 l0_1 l0_2 l0_3 l0_4 = some r) ∧ Aside0 (kq ≤ k2) ∧ Aside0 (Kd.R (Kd.int .i64) 3 w' w.heap.size (fun _ => True) v4 x4_3) ∧ Aside0 (w'.heap[gb148]? = some (.cells #[(.slice A0_0 l0_0.length c0_0), (.slice A0_1 l0_1.length c0_1), (.slice A0_2 l0_2.length c0_2), (.slice A0_3 l0_3.length c0_3), (.slice A0_4 l0_4.length c0_4)] 70 (0, 0))) ∧ Aside0 (Below w.heap.size w w'))
    case atStart => exact ⟨(y153), (0), zR, H', ⟨Nat.le_refl _⟩, ⟨zkR HO155⟩, ⟨zM BK148⟩, ⟨zB⟩⟩
    clear H'
    try clear c1
    try clear p1
    try clear q1
    try clear hx1
    try clear c2
    try clear p2
    try clear c3
    try clear c4
    try clear c4b0
    try clear c4b1
    try clear c6
    try clear c6b0
    try clear c6b1
    try clear p6
    try clear c8
    try clear c8b0
    try clear c8b1
    try clear c10
    try clear c10b0
    try clear c10b1
    try clear c13
    try clear p15
    try clear q15
    try clear hx15
    try clear c17
    try clear c18
    try clear c18b0
    try clear c19
    try clear c19b0
    try clear c20
    try clear c20b0
    try clear c22
    try clear c22b0
    try clear hcz11_0 hcz11_1 hcz11_2 hcz11_3 hcz11_4 hfz11_0 hfz11_1 hfz11_2 hfz11_3 hfz11_4
    try clear hcz15_0 hcz15_1 hcz15_2 hcz15_3 hcz15_4 hfz15_0 hfz15_1 hfz15_2 hfz15_3 hfz15_4
    try clear hcz16_0 hcz16_1 hcz16_2 hcz16_3 hcz16_4 hfz16_0 hfz16_1 hfz16_2 hfz16_3 hfz16_4
    try clear hcz21_0 hcz21_1 hcz21_2 hcz21_3 hcz21_4 hfz21_0 hfz21_1 hfz21_2 hfz21_3 hfz21_4
    try clear hcz23_0 hcz23_1 hcz23_2 hcz23_3 hcz23_4 hfz23_0 hfz23_1 hfz23_2 hfz23_3 hfz23_4
    try clear hcz24_0 hcz24_1 hcz24_2 hcz24_3 hcz24_4 hfz24_0 hfz24_1 hfz24_2 hfz24_3 hfz24_4
    try clear hcz25_0 hcz25_1 hcz25_2 hcz25_3 hcz25_4 hfz25_0 hfz25_1 hfz25_2 hfz25_3 hfz25_4
    try clear hcz5_0 hcz5_1 hcz5_2 hcz5_3 hcz5_4 hfz5_0 hfz5_1 hfz5_2 hfz5_3 hfz5_4
    try clear hcz7_0 hcz7_1 hcz7_2 hcz7_3 hcz7_4 hfz7_0 hfz7_1 hfz7_2 hfz7_3 hfz7_4
    try clear hcz9_0 hcz9_1 hcz9_2 hcz9_3 hcz9_4 hfz9_0 hfz9_1 hfz9_2 hfz9_3 hfz9_4
    try clear hx151_0
    try clear hx152_0
    try clear p151
    try clear p152
    try clear p2
    try clear q151
    try clear q152
    obtain ⟨x4_3, x5_3, rfl, HA, HK3, HO_4, BK148, HB⟩ := hrel
    rcases gk with _ | k3
    · exact absurd HA.out (by simp [spec_NestOk.l1])
    have H := HA.out
    clear HA
    simp only [spec_NestOk.l1] at H
    by_cases c28 : x5_3 < (l0_1.length : Int)
    · as_aux_lemma =>
      rw [if_pos c28] at H
      have c28b0 : decide (x5_3 < (l0_1.length : Int)) = true := decide_eq_true c28
      clear c28
      by_cases c29 : 0 ≤ x5_3
      rotate_left
      · rw [if_neg c29] at H
        exact absurd H (by simp)
      rw [if_pos c29] at H
      have c29b0 : decide (0 ≤ x5_3) = true := decide_eq_true c29
      clear c29
      replace H := Option.bind_eq_some_iff.mp H
      obtain ⟨t157, A300, H⟩ := H
      replace H : (if t157 = true then (some false) else (if x4_3.length < 17592186044416 then (spec_NestOk.l1 k3 (x4_3 ++ [rd l0_1 x5_3]) (wrap64 (x5_3 + 1)) l0_0 l0_1 l0_2 l0_3 l0_4) else (none))) = some r := H
      have A30 := zK A300
      clear A300
      by_cases c31 : t157 = true
      · as_aux_lemma =>
        subst c31
        have H1 : (some false) = some r := by rw [if_pos rfl] at H; exact H
        clear H
        have H := H1
        clear H1
        obtain rfl := Option.some.inj H
        obtain ⟨hcz32_0, hcz32_1, hcz32_2, hcz32_3, hcz32_4, hfz32_0, hfz32_1, hfz32_2, hfz32_3, hfz32_4⟩ := zc5 BK148
        have p156 : 0 ≤ (x5_3 : Int) := of_decide_eq_true zA
        have q156 : x5_3 < (l0_1.length : Int) := of_decide_eq_true zA
        obtain ⟨ad156, e156, hx156_0⟩ := Kd.at_int HR0_1.out x5_3 p156 q156
        cases e156
        (try replace hx156_0 := zX HB hx156_0)
        replace p156 := eq_true p156
        replace q156 := eq_true q156
        obtain ⟨Ao33, co33, eo33⟩ := Kd.R_slice HO_4.out
        subst eo33
        go_wp2_with (first | ((with_reducible refine gate_callee (f := 86) rfl ?_); refine zF 85 Try.func86 #[.slice Ao33 x4_3.length co33, .int .i64 (rd l0_1 x5_3)] rfl zL ?_; (with_reducible refine (spec_l7Has.calls k3 _ _ x4_3 (rd l0_1 x5_3) true _ ?side1 ?side2 A30.out).mono ?_); (case side1 => exact zC (Kd.R_reads' HO_4.out).2.2); (case side2 => exact (Kd.R_reads' HO_4.out).2.1); rintro e w' ⟨rfl, ⟨nd, rfl⟩⟩; refine ⟨_, rfl, ?_⟩))
        go_ret
        exact ⟨zE, zB⟩
      replace c31 := Bool.eq_false_iff.mpr c31
      subst c31
      have H1 : (if x4_3.length < 17592186044416 then (spec_NestOk.l1 k3 (x4_3 ++ [rd l0_1 x5_3]) (wrap64 (x5_3 + 1)) l0_0 l0_1 l0_2 l0_3 l0_4) else (none)) = some r := by rw [if_neg (show ¬ (false = true) by decide)] at H; exact H
      clear H
      have H := H1
      clear H1
      by_cases c34 : x4_3.length < 17592186044416
      rotate_left
      · rw [if_neg c34] at H
        exact absurd H (by simp)
      rw [if_pos c34] at H
      have LMc34 := zK c34
      clear c34
      obtain ⟨y159, hy159⟩ : ∃ y_ : List Int, y_ = (x4_3 ++ [rd l0_1 x5_3]) := ⟨_, rfl⟩
      replace H : (spec_NestOk.l1 k3 y159 (wrap64 (x5_3 + 1)) l0_0 l0_1 l0_2 l0_3 l0_4) = some r := by first | (rw [hy159]; with_reducible exact H) | (have H2_ := (Option.bind_some _ _).symm.trans H; rw [hy159]; with_reducible exact H2_) | (have H2_ := (Option.bind_some _ _).symm.trans H; with_reducible exact H2_) | with_reducible exact H | (rw [hy159]; exact H) | exact H
      have Ny159 := zK hy159
      clear hy159
      have H' := zK H
      clear H
      obtain ⟨hcz35_0, hcz35_1, hcz35_2, hcz35_3, hcz35_4, hfz35_0, hfz35_1, hfz35_2, hfz35_3, hfz35_4⟩ := zc5 BK148
      have p156 : 0 ≤ (x5_3 : Int) := of_decide_eq_true zA
      have q156 : x5_3 < (l0_1.length : Int) := of_decide_eq_true zA
      obtain ⟨ad156, e156, hx156_0⟩ := Kd.at_int HR0_1.out x5_3 p156 q156
      cases e156
      (try replace hx156_0 := zX HB hx156_0)
      replace p156 := eq_true p156
      replace q156 := eq_true q156
      obtain ⟨Ao36, co36, eo36⟩ := Kd.R_slice HO_4.out
      subst eo36
      go_wp2_with (first | ((with_reducible refine gate_callee (f := 86) rfl ?_); refine zF 85 Try.func86 #[.slice Ao36 x4_3.length co36, .int .i64 (rd l0_1 x5_3)] rfl zL ?_; (with_reducible refine (spec_l7Has.calls k3 _ _ x4_3 (rd l0_1 x5_3) false _ ?side1 ?side2 A30.out).mono ?_); (case side1 => exact zC (Kd.R_reads' HO_4.out).2.2); (case side2 => exact (Kd.R_reads' HO_4.out).2.1); rintro e w' ⟨rfl, ⟨nd, rfl⟩⟩; refine ⟨_, rfl, ?_⟩; have p158 : 0 ≤ (x5_3 : Int) := of_decide_eq_true zA; have q158 : x5_3 < (l0_1.length : Int) := of_decide_eq_true zA; obtain ⟨ad158, e158, hx158_0⟩ := Kd.at_int HR0_1.out x5_3 p158 q158; obtain rfl : ad156 = ad158 := (by injection e158); (try replace hx158_0 := zX HB hx158_0); replace p158 := eq_true p158; replace q158 := eq_true q158) | ((with_reducible refine gate_builtin (b := .append) (xs := #[.tmp 86, .tmp 92]) rfl ?_); (try (refine gate_guard (by rfl) ?_; dsimp only)); at_builtin; refine Kd.R_append (Kd.int .i64) (w0 := w) w.heap.size rfl (.tmp 86) (.tmp 92) 26 3 (.int .i64 0) 8 rfl Try.underlying26 info3 rfl (by decide) (by omega) (.slice Ao36 x4_3.length co36) x4_3 (rd l0_1 x5_3) [.int .i64 (rd l0_1 x5_3)] (fun _ => True) (fun _ => False) rfl rfl ?aP (fun _ hk => hk.elim) ?aF ?aO ?aB ?aS ?aL ?_; (case aP => exact rfl); (case aB => exact zB); (case aF => exact (fun _ _ => trivial)); (case aO => exact (zkR HO_4)); (case aS => exact (zz zB)); (case aL => have := LMc34.out; omega); intro v160 w37 ho hb hg hat; rw [← Ny159.out] at ho; have n0_ := zK (blk_grown (zM BK148) hg (Kd.R_ne HO_4.out BK148.out (by decide))); have n1_ := zK (hb); have n2_ := zK (ho); clear BK148; clear HB; clear HO_4; have BK148 := n0_; have HB := n1_; have HO161 := n2_; clear n0_ n1_ n2_; clear ho hb hg hat))
      go_roundg k3
      case measure => have := HJ1.out; have := HK2.out; have := HK3.out; omega
      case rel => exact ⟨(y159), (wrap64 (x5_3 + 1)), zR, H', ⟨by have := HJ1.out; have := HK2.out; have := HK3.out; omega⟩, ⟨zkR HO161⟩, ⟨zM BK148⟩, ⟨zB⟩⟩
    rw [if_neg c28] at H
    have c28b0 : decide (x5_3 < (l0_1.length : Int)) = false := decide_eq_false c28
    clear c28
    have H' := zK H
    clear H
    obtain ⟨hcz38_0, hcz38_1, hcz38_2, hcz38_3, hcz38_4, hfz38_0, hfz38_1, hfz38_2, hfz38_3, hfz38_4⟩ := zc5 BK148
    go_wp2
    go_loopg [4, 6] k3 (fun kq v4 v6 w' => ∃ (x4_4 : List Int) (x6_4 : Int), v6 = .int .i64 x6_4 ∧ Aside0 (spec_NestOk.l2 kq x4_4 x6_4 l0_0 l0_1 l0_2 l0_3 l0_4 = some r) ∧ Aside0 (kq ≤ k3) ∧ Aside0 (Kd.R (Kd.int .i64) 3 w' w.heap.size (fun _ => True) v4 x4_4) ∧ Aside0 (w'.heap[gb148]? = some (.cells #[(.slice A0_0 l0_0.length c0_0), (.slice A0_1 l0_1.length c0_1), (.slice A0_2 l0_2.length c0_2), (.slice A0_3 l0_3.length c0_3), (.slice A0_4 l0_4.length c0_4)] 70 (0, 0))) ∧ Aside0 (Below w.heap.size w w'))
    case atStart => exact ⟨(x4_3), (0), zR, H', ⟨Nat.le_refl _⟩, ⟨zkR HO_4⟩, ⟨zM BK148⟩, ⟨zB⟩⟩
    clear H'
    try clear c1
    try clear p1
    try clear q1
    try clear hx1
    try clear c2
    try clear p2
    try clear c3
    try clear c4
    try clear c4b0
    try clear c4b1
    try clear c6
    try clear c6b0
    try clear c6b1
    try clear p6
    try clear c8
    try clear c8b0
    try clear c8b1
    try clear c10
    try clear c10b0
    try clear c10b1
    try clear c13
    try clear p15
    try clear q15
    try clear hx15
    try clear c17
    try clear c18
    try clear c18b0
    try clear c19
    try clear c19b0
    try clear c20
    try clear c20b0
    try clear c22
    try clear c22b0
    try clear c28
    try clear c28b0
    try clear c29
    try clear c29b0
    try clear c31
    try clear c34
    try clear hcz11_0 hcz11_1 hcz11_2 hcz11_3 hcz11_4 hfz11_0 hfz11_1 hfz11_2 hfz11_3 hfz11_4
    try clear hcz15_0 hcz15_1 hcz15_2 hcz15_3 hcz15_4 hfz15_0 hfz15_1 hfz15_2 hfz15_3 hfz15_4
    try clear hcz16_0 hcz16_1 hcz16_2 hcz16_3 hcz16_4 hfz16_0 hfz16_1 hfz16_2 hfz16_3 hfz16_4
    try clear hcz21_0 hcz21_1 hcz21_2 hcz21_3 hcz21_4 hfz21_0 hfz21_1 hfz21_2 hfz21_3 hfz21_4
    try clear hcz23_0 hcz23_1 hcz23_2 hcz23_3 hcz23_4 hfz23_0 hfz23_1 hfz23_2 hfz23_3 hfz23_4
    try clear hcz24_0 hcz24_1 hcz24_2 hcz24_3 hcz24_4 hfz24_0 hfz24_1 hfz24_2 hfz24_3 hfz24_4
    try clear hcz25_0 hcz25_1 hcz25_2 hcz25_3 hcz25_4 hfz25_0 hfz25_1 hfz25_2 hfz25_3 hfz25_4
    try clear hcz32_0 hcz32_1 hcz32_2 hcz32_3 hcz32_4 hfz32_0 hfz32_1 hfz32_2 hfz32_3 hfz32_4
    try clear hcz35_0 hcz35_1 hcz35_2 hcz35_3 hcz35_4 hfz35_0 hfz35_1 hfz35_2 hfz35_3 hfz35_4
    try clear hcz38_0 hcz38_1 hcz38_2 hcz38_3 hcz38_4 hfz38_0 hfz38_1 hfz38_2 hfz38_3 hfz38_4
    try clear hcz5_0 hcz5_1 hcz5_2 hcz5_3 hcz5_4 hfz5_0 hfz5_1 hfz5_2 hfz5_3 hfz5_4
    try clear hcz7_0 hcz7_1 hcz7_2 hcz7_3 hcz7_4 hfz7_0 hfz7_1 hfz7_2 hfz7_3 hfz7_4
    try clear hcz9_0 hcz9_1 hcz9_2 hcz9_3 hcz9_4 hfz9_0 hfz9_1 hfz9_2 hfz9_3 hfz9_4
    try clear hx151_0
    try clear hx152_0
    try clear hx156_0
    try clear hx158_0
    try clear p1
    try clear p15
    try clear p151
    try clear p152
    try clear p156
    try clear p158
    try clear p2
    try clear p6
    try clear q1
    try clear q15
    try clear q151
    try clear q152
    try clear q156
    try clear q158
    obtain ⟨x4_4, x6_4, rfl, HA, HK4, HO_4, BK148, HB⟩ := hrel
    rcases gk with _ | k4
    · exact absurd HA.out (by simp [spec_NestOk.l2])
    have H := HA.out
    clear HA
    simp only [spec_NestOk.l2] at H
    by_cases c39 : x6_4 < (l0_2.length : Int)
    rotate_left
    · as_aux_lemma =>
      rw [if_neg c39] at H
      have c39b0 : decide (x6_4 < (l0_2.length : Int)) = false := decide_eq_false c39
      clear c39
      have H' := zK H
      clear H
      obtain ⟨hcz65_0, hcz65_1, hcz65_2, hcz65_3, hcz65_4, hfz65_0, hfz65_1, hfz65_2, hfz65_3, hfz65_4⟩ := zc5 BK148
      go_wp2
      go_loopg [8, 9] k4 (fun kq v8 v9 w' => ∃ (x8_5 : Int) (x9_5 : Int), v8 = .int .i64 x8_5 ∧ v9 = .int .i64 x9_5 ∧ Aside0 (spec_NestOk.l3 kq x4_4 x8_5 x9_5 l0_0 l0_1 l0_2 l0_3 l0_4 = some r) ∧ Aside0 (kq ≤ k4) ∧ Aside0 (Kd.R (Kd.int .i64) 3 w' w.heap.size (fun _ => True) u4 x4_4) ∧ Aside0 (w'.heap[gb148]? = some (.cells #[(.slice A0_0 l0_0.length c0_0), (.slice A0_1 l0_1.length c0_1), (.slice A0_2 l0_2.length c0_2), (.slice A0_3 l0_3.length c0_3), (.slice A0_4 l0_4.length c0_4)] 70 (0, 0))) ∧ Aside0 (Below w.heap.size w w'))
      case atStart => exact ⟨(0), (0), zR, zR, H', ⟨Nat.le_refl _⟩, ⟨zkR HO_4⟩, ⟨zM BK148⟩, ⟨zB⟩⟩
      clear H'
      try clear c1
      try clear p1
      try clear q1
      try clear hx1
      try clear p2
      try clear c3
      try clear c4
      try clear c5
      try clear c6
      try clear p6
      try clear c8
      try clear c16
      try clear p16
      try clear q16
      try clear hx16
      try clear c39
      try clear c39b0
      try clear c40
      try clear c51
      try clear c52
      try clear c53
      try clear c53b0
      try clear c53b1
      try clear c62
      try clear c63
      try clear p64
      try clear hcz65_0 hcz65_1 hcz65_2 hcz65_3 hcz65_4 hfz65_0 hfz65_1 hfz65_2 hfz65_3 hfz65_4
      try clear hx164_0
      try clear hx164_1
      try clear hx165_0
      try clear p1
      try clear p16
      try clear p164
      try clear p165
      try clear p2
      try clear q1
      try clear q16
      try clear q164
      try clear q165
      obtain ⟨x8_5, x9_5, rfl, rfl, HA, HK5, HO_4, BK148, HB⟩ := hrel
      rcases gk with _ | k5
      · exact absurd HA.out (by simp [spec_NestOk.l3])
      have H := HA.out
      clear HA
      simp only [spec_NestOk.l3] at H
      by_cases c66 : x9_5 < (l0_3.length : Int)
      rotate_left
      · rw [if_neg c66] at H
        have c66b0 : decide (x9_5 < (l0_3.length : Int)) = false := decide_eq_false c66
        clear c66
        obtain rfl := Option.some.inj H
        obtain ⟨hcz85_0, hcz85_1, hcz85_2, hcz85_3, hcz85_4, hfz85_0, hfz85_1, hfz85_2, hfz85_3, hfz85_4⟩ := zc5 BK148
        go_wp2
        go_ret
        exact ⟨zE, zB⟩
      rw [if_pos c66] at H
      have c66b0 : decide (x9_5 < (l0_3.length : Int)) = true := decide_eq_true c66
      clear c66
      by_cases c67 : 0 ≤ x9_5
      rotate_left
      · rw [if_neg c67] at H
        exact absurd H (by simp)
      rw [if_pos c67] at H
      have c67b0 : decide (0 ≤ x9_5) = true := decide_eq_true c67
      clear c67
      replace H := Option.bind_eq_some_iff.mp H
      obtain ⟨t173, A680, H⟩ := H
      replace H : (if t173 = true then ((spec_l7Has.f k5 x4_4 ((rd_T132 l0_3 x9_5).f2.f0)).bind fun t175 => (if t175 = true then (some false) else ((spec_l11Product.f k5 ((rd_T132 l0_3 x9_5).f0)).bind fun t177 => (spec_NestOk.l3 k5 x4_4 (wrap64 (x8_5 + t177)) (wrap64 (x9_5 + 1)) l0_0 l0_1 l0_2 l0_3 l0_4)))) else (some false)) = some r := H
      have A68 := zK A680
      clear A680
      by_cases c69 : t173 = true
      rotate_left
      · as_aux_lemma =>
        replace c69 := Bool.eq_false_iff.mpr c69
        subst c69
        have H1 : (some false) = some r := by rw [if_neg (show ¬ (false = true) by decide)] at H; exact H
        clear H
        have H := H1
        clear H1
        obtain rfl := Option.some.inj H
        obtain ⟨hcz82_0, hcz82_1, hcz82_2, hcz82_3, hcz82_4, hfz82_0, hfz82_1, hfz82_2, hfz82_3, hfz82_4⟩ := zc5 BK148
        try go_wp2
        have n0_ := zK (Kd.R_drew HO_4.out)
        have n1_ := zK (zd BK148.out)
        have n2_ := zK (ze HB.out)
        clear HO_4
        clear BK148
        clear HB
        have HO_4 := n0_
        have BK148 := n1_
        have HB := n2_
        clear n0_ n1_ n2_
        have p172 : 0 ≤ (x9_5 : Int) := of_decide_eq_true zA
        have q172 : x9_5 < (l0_3.length : Int) := of_decide_eq_true zA
        obtain ⟨ad172, A172_0, c172_0, A172_1, c172_1, A172_4, c172_4, A172_6, c172_6, e172, hx172_0, hx172_1, hx172_2, hx172_3, hx172_4, hx172_5, hx172_6, hl172_0, hi172_0, hl172_1, hi172_1, hl172_4, hi172_4, hl172_6, hi172_6⟩ := at_T132 HR0_3.out x9_5 p172 q172
        have hw172_6 := hx172_6
        have hw172_5 := hx172_5
        have hw172_4 := hx172_4
        have hw172_3 := hx172_3
        have hw172_2 := hx172_2
        have hw172_1 := hx172_1
        have hw172_0 := hx172_0
        cases e172
        (try replace hx172_0 := zX HB hx172_0)
        (try replace hx172_1 := zX HB hx172_1)
        (try replace hx172_2 := zX HB hx172_2)
        (try replace hx172_3 := zX HB hx172_3)
        (try replace hx172_4 := zX HB hx172_4)
        (try replace hx172_5 := zX HB hx172_5)
        (try replace hx172_6 := zX HB hx172_6)
        have HR172_0 := zK hi172_0
        have HC172_0 := zK hl172_0
        clear hi172_0 hl172_0
        have HR172_1 := zK hi172_1
        have HC172_1 := zK hl172_1
        clear hi172_1 hl172_1
        have HR172_4 := zK hi172_4
        have HC172_4 := zK hl172_4
        clear hi172_4 hl172_4
        have HR172_6 := zK hi172_6
        have HC172_6 := zK hl172_6
        clear hi172_6 hl172_6
        replace p172 := eq_true p172
        replace q172 := eq_true q172
        refine start_ (n := 20) (S := fun w' => w'.cell? ⟨gb148, 0, none⟩ = some (.slice A0_0 l0_0.length c0_0) ∧ w'.cell? ⟨gb148, 1, none⟩ = some (.slice A0_1 l0_1.length c0_1) ∧ w'.cell? ⟨gb148, 2, none⟩ = some (.slice A0_2 l0_2.length c0_2) ∧ w'.cell? ⟨gb148, 3, none⟩ = some (.slice (some ad172) l0_3.length c0_3) ∧ w'.cell? ⟨gb148, 4, none⟩ = some (.slice A0_4 l0_4.length c0_4) ∧ w'.cell? (ad172.add ((x9_5).toNat * 7)) = some (.slice A172_0 ((rd_T132 l0_3 x9_5).f0).length c172_0) ∧ w'.cell? ⟨(ad172.add ((x9_5).toNat * 7)).block, (ad172.add ((x9_5).toNat * 7)).off + 1, none⟩ = some (.slice A172_1 ((rd_T132 l0_3 x9_5).f1).length c172_1) ∧ w'.cell? ⟨(ad172.add ((x9_5).toNat * 7)).block, (ad172.add ((x9_5).toNat * 7)).off + 2, none⟩ = some (.int .i64 ((rd_T132 l0_3 x9_5).f2.f0)) ∧ w'.cell? ⟨(ad172.add ((x9_5).toNat * 7)).block, (ad172.add ((x9_5).toNat * 7)).off + 3, none⟩ = some (.int .i64 ((rd_T132 l0_3 x9_5).f2.f1)) ∧ w'.cell? ⟨(ad172.add ((x9_5).toNat * 7)).block, (ad172.add ((x9_5).toNat * 7)).off + 4, none⟩ = some (.slice A172_4 ((rd_T132 l0_3 x9_5).f2.f2).length c172_4) ∧ w'.cell? ⟨(ad172.add ((x9_5).toNat * 7)).block, (ad172.add ((x9_5).toNat * 7)).off + 5, none⟩ = some (.bool ((rd_T132 l0_3 x9_5).f3)) ∧ w'.cell? ⟨(ad172.add ((x9_5).toNat * 7)).block, (ad172.add ((x9_5).toNat * 7)).off + 6, none⟩ = some (.slice A172_6 ((rd_T132 l0_3 x9_5).f4).length c172_6)) (ds := []) (bl 20 0) (by kernel_rfl) rfl (by kernel_rfl) ⟨zy BK148 0, zy BK148 1, zy BK148 2, zy BK148 3, zy BK148 4, (zX HB hw172_0:), (zX HB hw172_1:), (zX HB hw172_2:), (zX HB hw172_3:), (zX HB hw172_4:), (zX HB hw172_5:), (zX HB hw172_6:)⟩ (fun hHeld => ?_); refine with_tabW spec_NestOk.tab26 spec_NestOk.bits26 (fun HT_ HW_ => ?_)
        generalize wr.drew = w83 at HO_4 BK148 HB HR172_0 HR172_1 HR172_4 HR172_6 hx172_0 hx172_1 hx172_2 hx172_3 hx172_4 hx172_5 hx172_6 hHeld ⊢
        refine zP 0 167 (bl 20 1) HT_ ?_
        refine zP 2 169 (bl 20 5) HT_ ?_
        refine zP 5 172 (bl 20 37) HT_ ?_
        refine zT 1 168 (bl 20 39) rfl rfl HT_ HW_ hHeld (by rintro w' ⟨s0, s1, s2, s3, s4, s5, s6, s7, s8, s9, s10, s11⟩; go_simp; with_reducible rfl) ?_
        refine zP 3 170 (bl 20 47) HT_ ?_
        refine zT 4 171 (bl 20 63) rfl rfl HT_ HW_ hHeld (by rintro w' ⟨s0, s1, s2, s3, s4, s5, s6, s7, s8, s9, s10, s11⟩; go_simp; with_reducible rfl) ?_
        refine zT 6 173 (bl 20 127) rfl rfl HT_ HW_ hHeld (by rintro w' ⟨s0, s1, s2, s3, s4, s5, s6, s7, s8, s9, s10, s11⟩; go_simp; with_reducible rfl) ?_
        refine one_ (i := 7) (N := some 174) (bl 20 255) rfl rfl (one_of HT_.out (by kernel_rfl)) (by decide) (fun K hK => ?_)
        refine goes_ Try.func88 (by kernel_rfl) rfl #[.agg #[.slice A172_0 ((rd_T132 l0_3 x9_5).f0).length c172_0, .slice A172_1 ((rd_T132 l0_3 x9_5).f1).length c172_1, .int .i64 ((rd_T132 l0_3 x9_5).f2.f0), .int .i64 ((rd_T132 l0_3 x9_5).f2.f1), .slice A172_4 ((rd_T132 l0_3 x9_5).f2.f2).length c172_4, .bool ((rd_T132 l0_3 x9_5).f3), .slice A172_6 ((rd_T132 l0_3 x9_5).f4).length c172_6], .slice A0_0 l0_0.length c0_0] (by rfl) rfl rfl zL ?_
        with_reducible refine (spec_l11Kernel.calls k5 _ _ ((rd_T132 l0_3 x9_5).f0) _ _ ((rd_T132 l0_3 x9_5).f1) ((rd_T132 l0_3 x9_5).f2.f0) ((rd_T132 l0_3 x9_5).f2.f1) _ _ ((rd_T132 l0_3 x9_5).f2.f2) ((rd_T132 l0_3 x9_5).f3) _ _ ((rd_T132 l0_3 x9_5).f4) _ _ l0_0 false _ ?side1 ?side2 ?side3 ?side4 ?side5 ?side6 ?side7 ?side8 ?side9 ?side10 A68.out).mono ?_
        (case side1 => exact zC (Kd.C_below HR172_0.out HB.out))
        (case side2 => exact HC172_0.out)
        (case side3 => exact zC (Kd.C_below HR172_1.out HB.out))
        (case side4 => exact HC172_1.out)
        (case side5 => exact zC (Kd.C_below HR172_4.out HB.out))
        (case side6 => exact HC172_4.out)
        (case side7 => exact zC (Kd.C_below HR172_6.out HB.out))
        (case side8 => exact HC172_6.out)
        (case side9 => exact zC (Kd.C_below HR0_0.out HB.out))
        (case side10 => exact HC0_0.out)
        rintro e w84 ⟨rfl, hb⟩
        refine ⟨_, rfl, ?_⟩
        have n0_ := zK (Kd.R_below (zkR HO_4) hb)
        have n1_ := zK (zg (zM BK148) hb)
        have n2_ := zK (zp zB hb)
        clear HO_4
        clear BK148
        clear HB
        have HO_4 := n0_
        have BK148 := n1_
        have HB := n2_
        clear n0_ n1_ n2_
        (try clear hb)
        (try clear hb2)
        (try clear hk)
        (try clear hi)
        refine hK.out _ _ ⟨zy BK148 0, zy BK148 1, zy BK148 2, zy BK148 3, zy BK148 4, (zX HB hw172_0:), (zX HB hw172_1:), (zX HB hw172_2:), (zX HB hw172_3:), (zX HB hw172_4:), (zX HB hw172_5:), (zX HB hw172_6:)⟩ (fun hHeld => ?_)
        clear hK K
        refine zU 174 ?_
        refine zP 8 175 (bl 20 511) HT_ ?_
        refine zP 9 176 (bl 20 1023) HT_ ?_
        refine zO 10 177 (bl 20 2047) HT_ ?_
        refine zO 11 178 (bl 20 4095) HT_ ?_
        refine zO 12 179 (bl 20 8191) HT_ ?_
        refine zO 13 180 (bl 20 16383) HT_ ?_
        refine zO 14 181 (bl 20 32767) HT_ ?_
        refine zO 15 182 (bl 20 65535) HT_ ?_
        refine zO 16 183 (bl 20 131071) HT_ ?_
        refine zO 17 184 (bl 20 262143) HT_ ?_
        refine zO 18 185 (bl 20 524287) HT_ ?_
        refine zP 19 186 (bl 20 1048575) HT_ ?_
        refine done_ (done_of HT_.out (by kernel_rfl)) ?_
        try go_wp2
        go_ret
        exact ⟨zE, zB⟩
      subst c69
      have H1 : ((spec_l7Has.f k5 x4_4 ((rd_T132 l0_3 x9_5).f2.f0)).bind fun t175 => (if t175 = true then (some false) else ((spec_l11Product.f k5 ((rd_T132 l0_3 x9_5).f0)).bind fun t177 => (spec_NestOk.l3 k5 x4_4 (wrap64 (x8_5 + t177)) (wrap64 (x9_5 + 1)) l0_0 l0_1 l0_2 l0_3 l0_4)))) = some r := by rw [if_pos rfl] at H; exact H
      clear H
      have H := H1
      clear H1
      replace H := Option.bind_eq_some_iff.mp H
      obtain ⟨t175, A700, H⟩ := H
      replace H : (if t175 = true then (some false) else ((spec_l11Product.f k5 ((rd_T132 l0_3 x9_5).f0)).bind fun t177 => (spec_NestOk.l3 k5 x4_4 (wrap64 (x8_5 + t177)) (wrap64 (x9_5 + 1)) l0_0 l0_1 l0_2 l0_3 l0_4))) = some r := H
      have A70 := zK A700
      clear A700
      by_cases c71 : t175 = true
      · as_aux_lemma =>
        subst c71
        have H1 : (some false) = some r := by rw [if_pos rfl] at H; exact H
        clear H
        have H := H1
        clear H1
        obtain rfl := Option.some.inj H
        obtain ⟨hcz72_0, hcz72_1, hcz72_2, hcz72_3, hcz72_4, hfz72_0, hfz72_1, hfz72_2, hfz72_3, hfz72_4⟩ := zc5 BK148
        try go_wp2
        have n0_ := zK (Kd.R_drew HO_4.out)
        have n1_ := zK (zd BK148.out)
        have n2_ := zK (ze HB.out)
        clear HO_4
        clear BK148
        clear HB
        have HO_4 := n0_
        have BK148 := n1_
        have HB := n2_
        clear n0_ n1_ n2_
        have p172 : 0 ≤ (x9_5 : Int) := of_decide_eq_true zA
        have q172 : x9_5 < (l0_3.length : Int) := of_decide_eq_true zA
        obtain ⟨ad172, A172_0, c172_0, A172_1, c172_1, A172_4, c172_4, A172_6, c172_6, e172, hx172_0, hx172_1, hx172_2, hx172_3, hx172_4, hx172_5, hx172_6, hl172_0, hi172_0, hl172_1, hi172_1, hl172_4, hi172_4, hl172_6, hi172_6⟩ := at_T132 HR0_3.out x9_5 p172 q172
        have hw172_6 := hx172_6
        have hw172_5 := hx172_5
        have hw172_4 := hx172_4
        have hw172_3 := hx172_3
        have hw172_2 := hx172_2
        have hw172_1 := hx172_1
        have hw172_0 := hx172_0
        cases e172
        (try replace hx172_0 := zX HB hx172_0)
        (try replace hx172_1 := zX HB hx172_1)
        (try replace hx172_2 := zX HB hx172_2)
        (try replace hx172_3 := zX HB hx172_3)
        (try replace hx172_4 := zX HB hx172_4)
        (try replace hx172_5 := zX HB hx172_5)
        (try replace hx172_6 := zX HB hx172_6)
        have HR172_0 := zK hi172_0
        have HC172_0 := zK hl172_0
        clear hi172_0 hl172_0
        have HR172_1 := zK hi172_1
        have HC172_1 := zK hl172_1
        clear hi172_1 hl172_1
        have HR172_4 := zK hi172_4
        have HC172_4 := zK hl172_4
        clear hi172_4 hl172_4
        have HR172_6 := zK hi172_6
        have HC172_6 := zK hl172_6
        clear hi172_6 hl172_6
        replace p172 := eq_true p172
        replace q172 := eq_true q172
        have p174 : 0 ≤ (x9_5 : Int) := of_decide_eq_true zA
        have q174 : x9_5 < (l0_3.length : Int) := of_decide_eq_true zA
        obtain ⟨ad174, A174_0, c174_0, A174_1, c174_1, A174_4, c174_4, A174_6, c174_6, e174, hx174_0, hx174_1, hx174_2, hx174_3, hx174_4, hx174_5, hx174_6, hl174_0, hi174_0, hl174_1, hi174_1, hl174_4, hi174_4, hl174_6, hi174_6⟩ := at_T132 HR0_3.out x9_5 p174 q174
        have hw174_6 := hx174_6
        have hw174_5 := hx174_5
        have hw174_4 := hx174_4
        have hw174_3 := hx174_3
        have hw174_2 := hx174_2
        have hw174_1 := hx174_1
        have hw174_0 := hx174_0
        obtain rfl : ad172 = ad174 := (by injection e174)
        have hq174_0 := hx174_0
        (try replace hx174_0 := zX HB hx174_0)
        have hq174_1 := hx174_1
        (try replace hx174_1 := zX HB hx174_1)
        (try replace hx174_2 := zX HB hx174_2)
        (try replace hx174_3 := zX HB hx174_3)
        have hq174_4 := hx174_4
        (try replace hx174_4 := zX HB hx174_4)
        (try replace hx174_5 := zX HB hx174_5)
        have hq174_6 := hx174_6
        (try replace hx174_6 := zX HB hx174_6)
        have HR174_0 := zK hi174_0
        have HC174_0 := zK hl174_0
        clear hi174_0 hl174_0
        have HR174_1 := zK hi174_1
        have HC174_1 := zK hl174_1
        clear hi174_1 hl174_1
        have HR174_4 := zK hi174_4
        have HC174_4 := zK hl174_4
        clear hi174_4 hl174_4
        have HR174_6 := zK hi174_6
        have HC174_6 := zK hl174_6
        clear hi174_6 hl174_6
        replace p174 := eq_true p174
        replace q174 := eq_true q174
        refine start_ (n := 20) (S := fun w' => w'.cell? ⟨gb148, 0, none⟩ = some (.slice A0_0 l0_0.length c0_0) ∧ w'.cell? ⟨gb148, 1, none⟩ = some (.slice A0_1 l0_1.length c0_1) ∧ w'.cell? ⟨gb148, 2, none⟩ = some (.slice A0_2 l0_2.length c0_2) ∧ w'.cell? ⟨gb148, 3, none⟩ = some (.slice (some ad172) l0_3.length c0_3) ∧ w'.cell? ⟨gb148, 4, none⟩ = some (.slice A0_4 l0_4.length c0_4) ∧ w'.cell? (ad172.add ((x9_5).toNat * 7)) = some (.slice A172_0 ((rd_T132 l0_3 x9_5).f0).length c172_0) ∧ w'.cell? ⟨(ad172.add ((x9_5).toNat * 7)).block, (ad172.add ((x9_5).toNat * 7)).off + 1, none⟩ = some (.slice A172_1 ((rd_T132 l0_3 x9_5).f1).length c172_1) ∧ w'.cell? ⟨(ad172.add ((x9_5).toNat * 7)).block, (ad172.add ((x9_5).toNat * 7)).off + 2, none⟩ = some (.int .i64 ((rd_T132 l0_3 x9_5).f2.f0)) ∧ w'.cell? ⟨(ad172.add ((x9_5).toNat * 7)).block, (ad172.add ((x9_5).toNat * 7)).off + 3, none⟩ = some (.int .i64 ((rd_T132 l0_3 x9_5).f2.f1)) ∧ w'.cell? ⟨(ad172.add ((x9_5).toNat * 7)).block, (ad172.add ((x9_5).toNat * 7)).off + 4, none⟩ = some (.slice A172_4 ((rd_T132 l0_3 x9_5).f2.f2).length c172_4) ∧ w'.cell? ⟨(ad172.add ((x9_5).toNat * 7)).block, (ad172.add ((x9_5).toNat * 7)).off + 5, none⟩ = some (.bool ((rd_T132 l0_3 x9_5).f3)) ∧ w'.cell? ⟨(ad172.add ((x9_5).toNat * 7)).block, (ad172.add ((x9_5).toNat * 7)).off + 6, none⟩ = some (.slice A172_6 ((rd_T132 l0_3 x9_5).f4).length c172_6) ∧ w'.cell? (ad172.add ((x9_5).toNat * 7)) = some (.slice A174_0 ((rd_T132 l0_3 x9_5).f0).length c174_0) ∧ w'.cell? ⟨(ad172.add ((x9_5).toNat * 7)).block, (ad172.add ((x9_5).toNat * 7)).off + 1, none⟩ = some (.slice A174_1 ((rd_T132 l0_3 x9_5).f1).length c174_1) ∧ w'.cell? ⟨(ad172.add ((x9_5).toNat * 7)).block, (ad172.add ((x9_5).toNat * 7)).off + 2, none⟩ = some (.int .i64 ((rd_T132 l0_3 x9_5).f2.f0)) ∧ w'.cell? ⟨(ad172.add ((x9_5).toNat * 7)).block, (ad172.add ((x9_5).toNat * 7)).off + 3, none⟩ = some (.int .i64 ((rd_T132 l0_3 x9_5).f2.f1)) ∧ w'.cell? ⟨(ad172.add ((x9_5).toNat * 7)).block, (ad172.add ((x9_5).toNat * 7)).off + 4, none⟩ = some (.slice A174_4 ((rd_T132 l0_3 x9_5).f2.f2).length c174_4) ∧ w'.cell? ⟨(ad172.add ((x9_5).toNat * 7)).block, (ad172.add ((x9_5).toNat * 7)).off + 5, none⟩ = some (.bool ((rd_T132 l0_3 x9_5).f3)) ∧ w'.cell? ⟨(ad172.add ((x9_5).toNat * 7)).block, (ad172.add ((x9_5).toNat * 7)).off + 6, none⟩ = some (.slice A174_6 ((rd_T132 l0_3 x9_5).f4).length c174_6)) (ds := []) (bl 20 0) (by kernel_rfl) rfl (by kernel_rfl) ⟨zy BK148 0, zy BK148 1, zy BK148 2, zy BK148 3, zy BK148 4, (zX HB hw172_0:), (zX HB hw172_1:), (zX HB hw172_2:), (zX HB hw172_3:), (zX HB hw172_4:), (zX HB hw172_5:), (zX HB hw172_6:), (zX HB hw174_0:), (zX HB hw174_1:), (zX HB hw174_2:), (zX HB hw174_3:), (zX HB hw174_4:), (zX HB hw174_5:), (zX HB hw174_6:)⟩ (fun hHeld => ?_); refine with_tabW spec_NestOk.tab26 spec_NestOk.bits26 (fun HT_ HW_ => ?_)
        generalize wr.drew = w73 at HO_4 BK148 HB HR172_0 HR172_1 HR172_4 HR172_6 HR174_0 HR174_1 HR174_4 HR174_6 hx172_0 hx172_1 hx172_2 hx172_3 hx172_4 hx172_5 hx172_6 hx174_0 hx174_1 hx174_2 hx174_3 hx174_4 hx174_5 hx174_6 hHeld ⊢
        refine zP 0 167 (bl 20 1) HT_ ?_
        refine zP 2 169 (bl 20 5) HT_ ?_
        refine zP 5 172 (bl 20 37) HT_ ?_
        refine zT 1 168 (bl 20 39) rfl rfl HT_ HW_ hHeld (by rintro w' ⟨s0, s1, s2, s3, s4, s5, s6, s7, s8, s9, s10, s11, s12, s13, s14, s15, s16, s17, s18⟩; go_simp; with_reducible rfl) ?_
        refine zP 3 170 (bl 20 47) HT_ ?_
        refine zT 4 171 (bl 20 63) rfl rfl HT_ HW_ hHeld (by rintro w' ⟨s0, s1, s2, s3, s4, s5, s6, s7, s8, s9, s10, s11, s12, s13, s14, s15, s16, s17, s18⟩; go_simp; with_reducible rfl) ?_
        refine zT 6 173 (bl 20 127) rfl rfl HT_ HW_ hHeld (by rintro w' ⟨s0, s1, s2, s3, s4, s5, s6, s7, s8, s9, s10, s11, s12, s13, s14, s15, s16, s17, s18⟩; go_simp; with_reducible rfl) ?_
        refine one_ (i := 7) (N := some 174) (bl 20 255) rfl rfl (one_of HT_.out (by kernel_rfl)) (by decide) (fun K hK => ?_)
        refine goes_ Try.func88 (by kernel_rfl) rfl #[.agg #[.slice A172_0 ((rd_T132 l0_3 x9_5).f0).length c172_0, .slice A172_1 ((rd_T132 l0_3 x9_5).f1).length c172_1, .int .i64 ((rd_T132 l0_3 x9_5).f2.f0), .int .i64 ((rd_T132 l0_3 x9_5).f2.f1), .slice A172_4 ((rd_T132 l0_3 x9_5).f2.f2).length c172_4, .bool ((rd_T132 l0_3 x9_5).f3), .slice A172_6 ((rd_T132 l0_3 x9_5).f4).length c172_6], .slice A0_0 l0_0.length c0_0] (by rfl) rfl rfl zL ?_
        with_reducible refine (spec_l11Kernel.calls k5 _ _ ((rd_T132 l0_3 x9_5).f0) _ _ ((rd_T132 l0_3 x9_5).f1) ((rd_T132 l0_3 x9_5).f2.f0) ((rd_T132 l0_3 x9_5).f2.f1) _ _ ((rd_T132 l0_3 x9_5).f2.f2) ((rd_T132 l0_3 x9_5).f3) _ _ ((rd_T132 l0_3 x9_5).f4) _ _ l0_0 true _ ?side1 ?side2 ?side3 ?side4 ?side5 ?side6 ?side7 ?side8 ?side9 ?side10 A68.out).mono ?_
        (case side1 => exact zC (Kd.C_below HR172_0.out HB.out))
        (case side2 => exact HC172_0.out)
        (case side3 => exact zC (Kd.C_below HR172_1.out HB.out))
        (case side4 => exact HC172_1.out)
        (case side5 => exact zC (Kd.C_below HR172_4.out HB.out))
        (case side6 => exact HC172_4.out)
        (case side7 => exact zC (Kd.C_below HR172_6.out HB.out))
        (case side8 => exact HC172_6.out)
        (case side9 => exact zC (Kd.C_below HR0_0.out HB.out))
        (case side10 => exact HC0_0.out)
        rintro e w74 ⟨rfl, hb⟩
        refine ⟨_, rfl, ?_⟩
        have n0_ := zK (Kd.R_below (zkR HO_4) hb)
        have n1_ := zK (zg (zM BK148) hb)
        have n2_ := zK (zp zB hb)
        clear HO_4
        clear BK148
        clear HB
        have HO_4 := n0_
        have BK148 := n1_
        have HB := n2_
        clear n0_ n1_ n2_
        (try clear hb)
        (try clear hb2)
        (try clear hk)
        (try clear hi)
        obtain ⟨Ao75, co75, eo75⟩ := Kd.R_slice HO_4.out
        (first | subst eo75 | (injection eo75 with f1_ f2_ f3_; have f4_ := f1_.symm; have f5_ := f3_.symm; clear f1_ f2_ f3_; subst f4_; subst f5_))
        refine hK.out _ _ ⟨zy BK148 0, zy BK148 1, zy BK148 2, zy BK148 3, zy BK148 4, (zX HB hw172_0:), (zX HB hw172_1:), (zX HB hw172_2:), (zX HB hw172_3:), (zX HB hw172_4:), (zX HB hw172_5:), (zX HB hw172_6:), (zX HB hw174_0:), (zX HB hw174_1:), (zX HB hw174_2:), (zX HB hw174_3:), (zX HB hw174_4:), (zX HB hw174_5:), (zX HB hw174_6:)⟩ (fun hHeld => ?_)
        clear hK K
        refine zU 174 ?_
        refine zP 8 175 (bl 20 511) HT_ ?_
        refine zP 9 176 (bl 20 1023) HT_ ?_
        refine zP 10 177 (bl 20 2047) HT_ ?_
        refine zP 11 178 (bl 20 4095) HT_ ?_
        refine zP 13 180 (bl 20 12287) HT_ ?_
        refine zT 12 179 (bl 20 16383) rfl rfl HT_ HW_ hHeld (by rintro w' ⟨s0, s1, s2, s3, s4, s5, s6, s7, s8, s9, s10, s11, s12, s13, s14, s15, s16, s17, s18⟩; go_simp; with_reducible rfl) ?_
        refine zP 14 181 (bl 20 32767) HT_ ?_
        refine zP 15 182 (bl 20 65535) HT_ ?_
        refine zP 16 183 (bl 20 131071) HT_ ?_
        refine zT 17 184 (bl 20 262143) rfl rfl HT_ HW_ hHeld (by rintro w' ⟨s0, s1, s2, s3, s4, s5, s6, s7, s8, s9, s10, s11, s12, s13, s14, s15, s16, s17, s18⟩; go_simp; with_reducible rfl) ?_
        refine one_ (i := 18) (N := some 185) (bl 20 524287) rfl rfl (one_of HT_.out (by kernel_rfl)) (by decide) (fun K hK => ?_)
        refine goes_ Try.func86 (by kernel_rfl) rfl #[.slice Ao75 x4_4.length co75, .int .i64 ((rd_T132 l0_3 x9_5).f2.f0)] (by rfl) rfl rfl zL ?_
        with_reducible refine (spec_l7Has.calls k5 _ _ x4_4 ((rd_T132 l0_3 x9_5).f2.f0) true _ ?side1 ?side2 A70.out).mono ?_
        (case side1 => exact zC (Kd.R_reads' HO_4.out).2.2)
        (case side2 => exact (Kd.R_reads' HO_4.out).2.1)
        rintro e w' ⟨rfl, ⟨nd, rfl⟩⟩
        refine ⟨_, rfl, ?_⟩
        refine hK.out _ _ ⟨zy BK148 0, zy BK148 1, zy BK148 2, zy BK148 3, zy BK148 4, (zX HB hw172_0:), (zX HB hw172_1:), (zX HB hw172_2:), (zX HB hw172_3:), (zX HB hw172_4:), (zX HB hw172_5:), (zX HB hw172_6:), (zX HB hw174_0:), (zX HB hw174_1:), (zX HB hw174_2:), (zX HB hw174_3:), (zX HB hw174_4:), (zX HB hw174_5:), (zX HB hw174_6:)⟩ (fun hHeld => ?_)
        clear hK K
        refine zU 185 ?_
        refine zP 19 186 (bl 20 1048575) HT_ ?_
        refine done_ (done_of HT_.out (by kernel_rfl)) ?_
        try go_wp2
        go_ret
        exact ⟨zE, zB⟩
      replace c71 := Bool.eq_false_iff.mpr c71
      subst c71
      have H1 : ((spec_l11Product.f k5 ((rd_T132 l0_3 x9_5).f0)).bind fun t177 => (spec_NestOk.l3 k5 x4_4 (wrap64 (x8_5 + t177)) (wrap64 (x9_5 + 1)) l0_0 l0_1 l0_2 l0_3 l0_4)) = some r := by rw [if_neg (show ¬ (false = true) by decide)] at H; exact H
      clear H
      have H := H1
      clear H1
      replace H := Option.bind_eq_some_iff.mp H
      obtain ⟨t177, A760, H⟩ := H
      replace H : (spec_NestOk.l3 k5 x4_4 (wrap64 (x8_5 + t177)) (wrap64 (x9_5 + 1)) l0_0 l0_1 l0_2 l0_3 l0_4) = some r := H
      have A76 := zK A760
      clear A760
      have H' := zK H
      clear H
      obtain ⟨hcz77_0, hcz77_1, hcz77_2, hcz77_3, hcz77_4, hfz77_0, hfz77_1, hfz77_2, hfz77_3, hfz77_4⟩ := zc5 BK148
      try go_wp2
      have n0_ := zK (Kd.R_drew HO_4.out)
      have n1_ := zK (zd BK148.out)
      have n2_ := zK (ze HB.out)
      clear HO_4
      clear BK148
      clear HB
      have HO_4 := n0_
      have BK148 := n1_
      have HB := n2_
      clear n0_ n1_ n2_
      have p172 : 0 ≤ (x9_5 : Int) := of_decide_eq_true zA
      have q172 : x9_5 < (l0_3.length : Int) := of_decide_eq_true zA
      obtain ⟨ad172, A172_0, c172_0, A172_1, c172_1, A172_4, c172_4, A172_6, c172_6, e172, hx172_0, hx172_1, hx172_2, hx172_3, hx172_4, hx172_5, hx172_6, hl172_0, hi172_0, hl172_1, hi172_1, hl172_4, hi172_4, hl172_6, hi172_6⟩ := at_T132 HR0_3.out x9_5 p172 q172
      have hw172_6 := hx172_6
      have hw172_5 := hx172_5
      have hw172_4 := hx172_4
      have hw172_3 := hx172_3
      have hw172_2 := hx172_2
      have hw172_1 := hx172_1
      have hw172_0 := hx172_0
      cases e172
      (try replace hx172_0 := zX HB hx172_0)
      (try replace hx172_1 := zX HB hx172_1)
      (try replace hx172_2 := zX HB hx172_2)
      (try replace hx172_3 := zX HB hx172_3)
      (try replace hx172_4 := zX HB hx172_4)
      (try replace hx172_5 := zX HB hx172_5)
      (try replace hx172_6 := zX HB hx172_6)
      have HR172_0 := zK hi172_0
      have HC172_0 := zK hl172_0
      clear hi172_0 hl172_0
      have HR172_1 := zK hi172_1
      have HC172_1 := zK hl172_1
      clear hi172_1 hl172_1
      have HR172_4 := zK hi172_4
      have HC172_4 := zK hl172_4
      clear hi172_4 hl172_4
      have HR172_6 := zK hi172_6
      have HC172_6 := zK hl172_6
      clear hi172_6 hl172_6
      replace p172 := eq_true p172
      replace q172 := eq_true q172
      have p174 : 0 ≤ (x9_5 : Int) := of_decide_eq_true zA
      have q174 : x9_5 < (l0_3.length : Int) := of_decide_eq_true zA
      obtain ⟨ad174, A174_0, c174_0, A174_1, c174_1, A174_4, c174_4, A174_6, c174_6, e174, hx174_0, hx174_1, hx174_2, hx174_3, hx174_4, hx174_5, hx174_6, hl174_0, hi174_0, hl174_1, hi174_1, hl174_4, hi174_4, hl174_6, hi174_6⟩ := at_T132 HR0_3.out x9_5 p174 q174
      have hw174_6 := hx174_6
      have hw174_5 := hx174_5
      have hw174_4 := hx174_4
      have hw174_3 := hx174_3
      have hw174_2 := hx174_2
      have hw174_1 := hx174_1
      have hw174_0 := hx174_0
      obtain rfl : ad172 = ad174 := (by injection e174)
      have hq174_0 := hx174_0
      (try replace hx174_0 := zX HB hx174_0)
      have hq174_1 := hx174_1
      (try replace hx174_1 := zX HB hx174_1)
      (try replace hx174_2 := zX HB hx174_2)
      (try replace hx174_3 := zX HB hx174_3)
      have hq174_4 := hx174_4
      (try replace hx174_4 := zX HB hx174_4)
      (try replace hx174_5 := zX HB hx174_5)
      have hq174_6 := hx174_6
      (try replace hx174_6 := zX HB hx174_6)
      have HR174_0 := zK hi174_0
      have HC174_0 := zK hl174_0
      clear hi174_0 hl174_0
      have HR174_1 := zK hi174_1
      have HC174_1 := zK hl174_1
      clear hi174_1 hl174_1
      have HR174_4 := zK hi174_4
      have HC174_4 := zK hl174_4
      clear hi174_4 hl174_4
      have HR174_6 := zK hi174_6
      have HC174_6 := zK hl174_6
      clear hi174_6 hl174_6
      replace p174 := eq_true p174
      replace q174 := eq_true q174
      refine start_ (n := 20) (S := fun w' => w'.cell? ⟨gb148, 0, none⟩ = some (.slice A0_0 l0_0.length c0_0) ∧ w'.cell? ⟨gb148, 1, none⟩ = some (.slice A0_1 l0_1.length c0_1) ∧ w'.cell? ⟨gb148, 2, none⟩ = some (.slice A0_2 l0_2.length c0_2) ∧ w'.cell? ⟨gb148, 3, none⟩ = some (.slice (some ad172) l0_3.length c0_3) ∧ w'.cell? ⟨gb148, 4, none⟩ = some (.slice A0_4 l0_4.length c0_4) ∧ w'.cell? (ad172.add ((x9_5).toNat * 7)) = some (.slice A172_0 ((rd_T132 l0_3 x9_5).f0).length c172_0) ∧ w'.cell? ⟨(ad172.add ((x9_5).toNat * 7)).block, (ad172.add ((x9_5).toNat * 7)).off + 1, none⟩ = some (.slice A172_1 ((rd_T132 l0_3 x9_5).f1).length c172_1) ∧ w'.cell? ⟨(ad172.add ((x9_5).toNat * 7)).block, (ad172.add ((x9_5).toNat * 7)).off + 2, none⟩ = some (.int .i64 ((rd_T132 l0_3 x9_5).f2.f0)) ∧ w'.cell? ⟨(ad172.add ((x9_5).toNat * 7)).block, (ad172.add ((x9_5).toNat * 7)).off + 3, none⟩ = some (.int .i64 ((rd_T132 l0_3 x9_5).f2.f1)) ∧ w'.cell? ⟨(ad172.add ((x9_5).toNat * 7)).block, (ad172.add ((x9_5).toNat * 7)).off + 4, none⟩ = some (.slice A172_4 ((rd_T132 l0_3 x9_5).f2.f2).length c172_4) ∧ w'.cell? ⟨(ad172.add ((x9_5).toNat * 7)).block, (ad172.add ((x9_5).toNat * 7)).off + 5, none⟩ = some (.bool ((rd_T132 l0_3 x9_5).f3)) ∧ w'.cell? ⟨(ad172.add ((x9_5).toNat * 7)).block, (ad172.add ((x9_5).toNat * 7)).off + 6, none⟩ = some (.slice A172_6 ((rd_T132 l0_3 x9_5).f4).length c172_6) ∧ w'.cell? (ad172.add ((x9_5).toNat * 7)) = some (.slice A174_0 ((rd_T132 l0_3 x9_5).f0).length c174_0) ∧ w'.cell? ⟨(ad172.add ((x9_5).toNat * 7)).block, (ad172.add ((x9_5).toNat * 7)).off + 1, none⟩ = some (.slice A174_1 ((rd_T132 l0_3 x9_5).f1).length c174_1) ∧ w'.cell? ⟨(ad172.add ((x9_5).toNat * 7)).block, (ad172.add ((x9_5).toNat * 7)).off + 2, none⟩ = some (.int .i64 ((rd_T132 l0_3 x9_5).f2.f0)) ∧ w'.cell? ⟨(ad172.add ((x9_5).toNat * 7)).block, (ad172.add ((x9_5).toNat * 7)).off + 3, none⟩ = some (.int .i64 ((rd_T132 l0_3 x9_5).f2.f1)) ∧ w'.cell? ⟨(ad172.add ((x9_5).toNat * 7)).block, (ad172.add ((x9_5).toNat * 7)).off + 4, none⟩ = some (.slice A174_4 ((rd_T132 l0_3 x9_5).f2.f2).length c174_4) ∧ w'.cell? ⟨(ad172.add ((x9_5).toNat * 7)).block, (ad172.add ((x9_5).toNat * 7)).off + 5, none⟩ = some (.bool ((rd_T132 l0_3 x9_5).f3)) ∧ w'.cell? ⟨(ad172.add ((x9_5).toNat * 7)).block, (ad172.add ((x9_5).toNat * 7)).off + 6, none⟩ = some (.slice A174_6 ((rd_T132 l0_3 x9_5).f4).length c174_6)) (ds := []) (bl 20 0) (by kernel_rfl) rfl (by kernel_rfl) ⟨zy BK148 0, zy BK148 1, zy BK148 2, zy BK148 3, zy BK148 4, (zX HB hw172_0:), (zX HB hw172_1:), (zX HB hw172_2:), (zX HB hw172_3:), (zX HB hw172_4:), (zX HB hw172_5:), (zX HB hw172_6:), (zX HB hw174_0:), (zX HB hw174_1:), (zX HB hw174_2:), (zX HB hw174_3:), (zX HB hw174_4:), (zX HB hw174_5:), (zX HB hw174_6:)⟩ (fun hHeld => ?_); refine with_tabW spec_NestOk.tab26 spec_NestOk.bits26 (fun HT_ HW_ => ?_)
      generalize wr.drew = w78 at HO_4 BK148 HB HR172_0 HR172_1 HR172_4 HR172_6 HR174_0 HR174_1 HR174_4 HR174_6 hx172_0 hx172_1 hx172_2 hx172_3 hx172_4 hx172_5 hx172_6 hx174_0 hx174_1 hx174_2 hx174_3 hx174_4 hx174_5 hx174_6 hHeld ⊢
      refine zP 0 167 (bl 20 1) HT_ ?_
      refine zP 2 169 (bl 20 5) HT_ ?_
      refine zP 5 172 (bl 20 37) HT_ ?_
      refine zT 1 168 (bl 20 39) rfl rfl HT_ HW_ hHeld (by rintro w' ⟨s0, s1, s2, s3, s4, s5, s6, s7, s8, s9, s10, s11, s12, s13, s14, s15, s16, s17, s18⟩; go_simp; with_reducible rfl) ?_
      refine zP 3 170 (bl 20 47) HT_ ?_
      refine zT 4 171 (bl 20 63) rfl rfl HT_ HW_ hHeld (by rintro w' ⟨s0, s1, s2, s3, s4, s5, s6, s7, s8, s9, s10, s11, s12, s13, s14, s15, s16, s17, s18⟩; go_simp; with_reducible rfl) ?_
      refine zT 6 173 (bl 20 127) rfl rfl HT_ HW_ hHeld (by rintro w' ⟨s0, s1, s2, s3, s4, s5, s6, s7, s8, s9, s10, s11, s12, s13, s14, s15, s16, s17, s18⟩; go_simp; with_reducible rfl) ?_
      refine one_ (i := 7) (N := some 174) (bl 20 255) rfl rfl (one_of HT_.out (by kernel_rfl)) (by decide) (fun K hK => ?_)
      refine goes_ Try.func88 (by kernel_rfl) rfl #[.agg #[.slice A172_0 ((rd_T132 l0_3 x9_5).f0).length c172_0, .slice A172_1 ((rd_T132 l0_3 x9_5).f1).length c172_1, .int .i64 ((rd_T132 l0_3 x9_5).f2.f0), .int .i64 ((rd_T132 l0_3 x9_5).f2.f1), .slice A172_4 ((rd_T132 l0_3 x9_5).f2.f2).length c172_4, .bool ((rd_T132 l0_3 x9_5).f3), .slice A172_6 ((rd_T132 l0_3 x9_5).f4).length c172_6], .slice A0_0 l0_0.length c0_0] (by rfl) rfl rfl zL ?_
      with_reducible refine (spec_l11Kernel.calls k5 _ _ ((rd_T132 l0_3 x9_5).f0) _ _ ((rd_T132 l0_3 x9_5).f1) ((rd_T132 l0_3 x9_5).f2.f0) ((rd_T132 l0_3 x9_5).f2.f1) _ _ ((rd_T132 l0_3 x9_5).f2.f2) ((rd_T132 l0_3 x9_5).f3) _ _ ((rd_T132 l0_3 x9_5).f4) _ _ l0_0 true _ ?side1 ?side2 ?side3 ?side4 ?side5 ?side6 ?side7 ?side8 ?side9 ?side10 A68.out).mono ?_
      (case side1 => exact zC (Kd.C_below HR172_0.out HB.out))
      (case side2 => exact HC172_0.out)
      (case side3 => exact zC (Kd.C_below HR172_1.out HB.out))
      (case side4 => exact HC172_1.out)
      (case side5 => exact zC (Kd.C_below HR172_4.out HB.out))
      (case side6 => exact HC172_4.out)
      (case side7 => exact zC (Kd.C_below HR172_6.out HB.out))
      (case side8 => exact HC172_6.out)
      (case side9 => exact zC (Kd.C_below HR0_0.out HB.out))
      (case side10 => exact HC0_0.out)
      rintro e w79 ⟨rfl, hb⟩
      refine ⟨_, rfl, ?_⟩
      have n0_ := zK (Kd.R_below (zkR HO_4) hb)
      have n1_ := zK (zg (zM BK148) hb)
      have n2_ := zK (zp zB hb)
      clear HO_4
      clear BK148
      clear HB
      have HO_4 := n0_
      have BK148 := n1_
      have HB := n2_
      clear n0_ n1_ n2_
      (try clear hb)
      (try clear hb2)
      (try clear hk)
      (try clear hi)
      obtain ⟨Ao80, co80, eo80⟩ := Kd.R_slice HO_4.out
      (first | subst eo80 | (injection eo80 with f1_ f2_ f3_; have f4_ := f1_.symm; have f5_ := f3_.symm; clear f1_ f2_ f3_; subst f4_; subst f5_))
      refine hK.out _ _ ⟨zy BK148 0, zy BK148 1, zy BK148 2, zy BK148 3, zy BK148 4, (zX HB hw172_0:), (zX HB hw172_1:), (zX HB hw172_2:), (zX HB hw172_3:), (zX HB hw172_4:), (zX HB hw172_5:), (zX HB hw172_6:), (zX HB hw174_0:), (zX HB hw174_1:), (zX HB hw174_2:), (zX HB hw174_3:), (zX HB hw174_4:), (zX HB hw174_5:), (zX HB hw174_6:)⟩ (fun hHeld => ?_)
      clear hK K
      refine zU 174 ?_
      refine zP 8 175 (bl 20 511) HT_ ?_
      refine zP 9 176 (bl 20 1023) HT_ ?_
      refine zP 10 177 (bl 20 2047) HT_ ?_
      refine zP 11 178 (bl 20 4095) HT_ ?_
      refine zP 13 180 (bl 20 12287) HT_ ?_
      refine zT 12 179 (bl 20 16383) rfl rfl HT_ HW_ hHeld (by rintro w' ⟨s0, s1, s2, s3, s4, s5, s6, s7, s8, s9, s10, s11, s12, s13, s14, s15, s16, s17, s18⟩; go_simp; with_reducible rfl) ?_
      refine zP 14 181 (bl 20 32767) HT_ ?_
      refine zP 15 182 (bl 20 65535) HT_ ?_
      refine zP 16 183 (bl 20 131071) HT_ ?_
      refine zT 17 184 (bl 20 262143) rfl rfl HT_ HW_ hHeld (by rintro w' ⟨s0, s1, s2, s3, s4, s5, s6, s7, s8, s9, s10, s11, s12, s13, s14, s15, s16, s17, s18⟩; go_simp; with_reducible rfl) ?_
      refine one_ (i := 18) (N := some 185) (bl 20 524287) rfl rfl (one_of HT_.out (by kernel_rfl)) (by decide) (fun K hK => ?_)
      refine goes_ Try.func86 (by kernel_rfl) rfl #[.slice Ao80 x4_4.length co80, .int .i64 ((rd_T132 l0_3 x9_5).f2.f0)] (by rfl) rfl rfl zL ?_
      with_reducible refine (spec_l7Has.calls k5 _ _ x4_4 ((rd_T132 l0_3 x9_5).f2.f0) false _ ?side1 ?side2 A70.out).mono ?_
      (case side1 => exact zC (Kd.R_reads' HO_4.out).2.2)
      (case side2 => exact (Kd.R_reads' HO_4.out).2.1)
      rintro e w' ⟨rfl, ⟨nd, rfl⟩⟩
      refine ⟨_, rfl, ?_⟩
      refine hK.out _ _ ⟨zy BK148 0, zy BK148 1, zy BK148 2, zy BK148 3, zy BK148 4, (zX HB hw172_0:), (zX HB hw172_1:), (zX HB hw172_2:), (zX HB hw172_3:), (zX HB hw172_4:), (zX HB hw172_5:), (zX HB hw172_6:), (zX HB hw174_0:), (zX HB hw174_1:), (zX HB hw174_2:), (zX HB hw174_3:), (zX HB hw174_4:), (zX HB hw174_5:), (zX HB hw174_6:)⟩ (fun hHeld => ?_)
      clear hK K
      refine zU 185 ?_
      refine zP 19 186 (bl 20 1048575) HT_ ?_
      refine done_ (done_of HT_.out (by kernel_rfl)) ?_
      obtain ⟨hcz81_0, hcz81_1, hcz81_2, hcz81_3, hcz81_4, hfz81_0, hfz81_1, hfz81_2, hfz81_3, hfz81_4⟩ := zc5 BK148
      have p176 : 0 ≤ (x9_5 : Int) := of_decide_eq_true zA
      have q176 : x9_5 < (l0_3.length : Int) := of_decide_eq_true zA
      obtain ⟨ad176, A176_0, c176_0, A176_1, c176_1, A176_4, c176_4, A176_6, c176_6, e176, hx176_0, hx176_1, hx176_2, hx176_3, hx176_4, hx176_5, hx176_6, hl176_0, hi176_0, hl176_1, hi176_1, hl176_4, hi176_4, hl176_6, hi176_6⟩ := at_T132 HR0_3.out x9_5 p176 q176
      obtain rfl : ad172 = ad176 := (by injection e176)
      have hq176_0 := hx176_0
      (try replace hx176_0 := zX HB hx176_0)
      have hq176_1 := hx176_1
      (try replace hx176_1 := zX HB hx176_1)
      (try replace hx176_2 := zX HB hx176_2)
      (try replace hx176_3 := zX HB hx176_3)
      have hq176_4 := hx176_4
      (try replace hx176_4 := zX HB hx176_4)
      (try replace hx176_5 := zX HB hx176_5)
      have hq176_6 := hx176_6
      (try replace hx176_6 := zX HB hx176_6)
      have HR176_0 := zK hi176_0
      have HC176_0 := zK hl176_0
      clear hi176_0 hl176_0
      have HR176_1 := zK hi176_1
      have HC176_1 := zK hl176_1
      clear hi176_1 hl176_1
      have HR176_4 := zK hi176_4
      have HC176_4 := zK hl176_4
      clear hi176_4 hl176_4
      have HR176_6 := zK hi176_6
      have HC176_6 := zK hl176_6
      clear hi176_6 hl176_6
      replace p176 := eq_true p176
      replace q176 := eq_true q176
      have ea_ := Option.some.inj (by first | exact hx174_0.symm.trans hx176_0 | exact hq174_0.symm.trans hq176_0)
      injection ea_ with ea_ en_ ec_
      subst ea_
      subst ec_
      clear en_
      (try (have ea_ := Option.some.inj (by first | exact hq174_0.symm.trans hw172_0 | exact hx174_0.symm.trans hx172_0); injection ea_ with ea_ en_ ec_; subst ea_; subst ec_; clear en_))
      have ea_ := Option.some.inj (by first | exact hx174_1.symm.trans hx176_1 | exact hq174_1.symm.trans hq176_1)
      injection ea_ with ea_ en_ ec_
      subst ea_
      subst ec_
      clear en_
      (try (have ea_ := Option.some.inj (by first | exact hq174_1.symm.trans hw172_1 | exact hx174_1.symm.trans hx172_1); injection ea_ with ea_ en_ ec_; subst ea_; subst ec_; clear en_))
      have ea_ := Option.some.inj (by first | exact hx174_4.symm.trans hx176_4 | exact hq174_4.symm.trans hq176_4)
      injection ea_ with ea_ en_ ec_
      subst ea_
      subst ec_
      clear en_
      (try (have ea_ := Option.some.inj (by first | exact hq174_4.symm.trans hw172_4 | exact hx174_4.symm.trans hx172_4); injection ea_ with ea_ en_ ec_; subst ea_; subst ec_; clear en_))
      have ea_ := Option.some.inj (by first | exact hx174_6.symm.trans hx176_6 | exact hq174_6.symm.trans hq176_6)
      injection ea_ with ea_ en_ ec_
      subst ea_
      subst ec_
      clear en_
      (try (have ea_ := Option.some.inj (by first | exact hq174_6.symm.trans hw172_6 | exact hx174_6.symm.trans hx172_6); injection ea_ with ea_ en_ ec_; subst ea_; subst ec_; clear en_))
      try go_wp2_with (first | ((with_reducible refine gate_callee (f := 89) rfl ?_); refine zF 194 Try.func89 #[.slice A174_0 ((rd_T132 l0_3 x9_5).f0).length c174_0] rfl zL ?_; (with_reducible refine (spec_l11Product.calls k5 _ _ ((rd_T132 l0_3 x9_5).f0) t177 _ ?side1 ?side2 A76.out).mono ?_); (case side1 => exact zC (Kd.C_below HR176_0.out zB)); (case side2 => exact HC176_0.out); rintro e w' ⟨rfl, ⟨nd, rfl⟩⟩; refine ⟨_, rfl, ?_⟩))
      go_roundg k5
      case measure => have := HJ1.out; have := HK2.out; have := HK3.out; have := HK4.out; have := HK5.out; omega
      case rel => exact ⟨(wrap64 (x8_5 + t177)), (wrap64 (x9_5 + 1)), zR, zR, H', ⟨by have := HJ1.out; have := HK2.out; have := HK3.out; have := HK4.out; have := HK5.out; omega⟩, ⟨zkR HO_4⟩, ⟨zM BK148⟩, ⟨zB⟩⟩
    rw [if_pos c39] at H
    have c39b0 : decide (x6_4 < (l0_2.length : Int)) = true := decide_eq_true c39
    clear c39
    by_cases c40 : 0 ≤ x6_4
    rotate_left
    · rw [if_neg c40] at H
      exact absurd H (by simp)
    rw [if_pos c40] at H
    have c40b0 : decide (0 ≤ x6_4) = true := decide_eq_true c40
    clear c40
    have HC41 := zK H
    clear H
    obtain ⟨hcz42_0, hcz42_1, hcz42_2, hcz42_3, hcz42_4, hfz42_0, hfz42_1, hfz42_2, hfz42_3, hfz42_4⟩ := zc5 BK148
    have p162 : 0 ≤ (x6_4 : Int) := of_decide_eq_true zA
    have q162 : x6_4 < (l0_2.length : Int) := of_decide_eq_true zA
    obtain ⟨ad162, A162_1, c162_1, e162, hx162_0, hx162_1, hl162_1, hi162_1⟩ := at_T125 HR0_2.out x6_4 p162 q162
    cases e162
    (try replace hx162_0 := zX HB hx162_0)
    (try replace hx162_1 := zX HB hx162_1)
    have HR162_1 := zK hi162_1
    have HC162_1 := zK hl162_1
    clear hi162_1 hl162_1
    replace p162 := eq_true p162
    replace q162 := eq_true q162
    go_upto_region 19 with (fail)
    go_cut [155] (fun v155 wc => ∃ (kq : Nat) (x155_40 : Bool), v155 = .bool x155_40 ∧ Aside0 (spec_NestOk.j4 kq x4_4 x6_4 ((rd_T125 l0_2 x6_4).f0) x155_40 l0_0 l0_1 l0_2 l0_3 l0_4 = some r) ∧ Aside0 (kq ≤ k4) ∧ Aside0 (Kd.R (Kd.int .i64) 3 wc w.heap.size (fun _ => True) u4 x4_4) ∧ Aside0 (wc.heap[gb148]? = some (.cells #[(.slice A0_0 l0_0.length c0_0), (.slice A0_1 l0_1.length c0_1), (.slice (some ad162) l0_2.length c0_2), (.slice A0_3 l0_3.length c0_3), (.slice A0_4 l0_4.length c0_4)] 70 (0, 0))) ∧ Aside0 (Below w.heap.size w wc))
    case first =>
     have H := HC41.out
     clear HC41
     by_cases c43 : ((rd_T125 l0_2 x6_4).f0) < 0
     · as_aux_lemma =>
       rw [if_pos c43] at H
       have c43b0 : decide (((rd_T125 l0_2 x6_4).f0) < 0) = true := decide_eq_true c43
       clear c43
       (first | rw [c43b0] | (simp only [i64_w, i32_w]; rw [c43b0]) | skip)
       have H' := zK H
       clear H
       try go_wp2
       have n0_ := zK (Kd.R_drew HO_4.out)
       have n1_ := zK (zd BK148.out)
       have n2_ := zK (ze HB.out)
       clear HO_4
       clear BK148
       clear HB
       have HO_4 := n0_
       have BK148 := n1_
       have HB := n2_
       clear n0_ n1_ n2_
       refine start_ (n := 49) (S := fun w' => True) (ds := []) (bl 49 0) (by kernel_rfl) rfl (by kernel_rfl) trivial (fun hHeld => ?_); refine with_tabW spec_NestOk.tab19 spec_NestOk.bits19 (fun HT_ HW_ => ?_)
       generalize wr.drew = w44 at HO_4 BK148 HB hHeld ⊢
       refine zP 0 107 (bl 49 1) HT_ ?_
       refine zP 1 108 (bl 49 3) HT_ ?_
       refine zP 2 109 (bl 49 7) HT_ ?_
       refine zO 3 110 (bl 49 15) HT_ ?_
       refine zO 4 111 (bl 49 31) HT_ ?_
       refine zO 5 112 (bl 49 63) HT_ ?_
       refine zO 6 113 (bl 49 127) HT_ ?_
       refine zO 7 114 (bl 49 255) HT_ ?_
       refine zP 8 115 (bl 49 511) HT_ ?_
       refine zP 9 116 (bl 49 1023) HT_ ?_
       refine zO 10 117 (bl 49 2047) HT_ ?_
       refine zO 11 118 (bl 49 4095) HT_ ?_
       refine zO 12 119 (bl 49 8191) HT_ ?_
       refine zP 13 120 (bl 49 16383) HT_ ?_
       refine zP 14 121 (bl 49 32767) HT_ ?_
       refine zO 15 122 (bl 49 65535) HT_ ?_
       refine zO 16 123 (bl 49 131071) HT_ ?_
       refine zO 17 124 (bl 49 262143) HT_ ?_
       refine zO 18 125 (bl 49 524287) HT_ ?_
       refine zO 19 126 (bl 49 1048575) HT_ ?_
       refine zO 20 127 (bl 49 2097151) HT_ ?_
       refine zO 21 128 (bl 49 4194303) HT_ ?_
       refine zO 22 129 (bl 49 8388607) HT_ ?_
       refine zO 23 130 (bl 49 16777215) HT_ ?_
       refine zO 24 131 (bl 49 33554431) HT_ ?_
       refine zO 25 132 (bl 49 67108863) HT_ ?_
       refine zO 26 133 (bl 49 134217727) HT_ ?_
       refine zO 27 134 (bl 49 268435455) HT_ ?_
       refine zP 28 135 (bl 49 536870911) HT_ ?_
       refine zP 29 136 (bl 49 1073741823) HT_ ?_
       refine zO 30 137 (bl 49 2147483647) HT_ ?_
       refine zO 31 138 (bl 49 4294967295) HT_ ?_
       refine zO 32 139 (bl 49 8589934591) HT_ ?_
       refine zO 33 140 (bl 49 17179869183) HT_ ?_
       refine zO 34 141 (bl 49 34359738367) HT_ ?_
       refine zO 35 142 (bl 49 68719476735) HT_ ?_
       refine zO 36 143 (bl 49 137438953471) HT_ ?_
       refine zO 37 144 (bl 49 274877906943) HT_ ?_
       refine zO 38 145 (bl 49 549755813887) HT_ ?_
       refine zO 39 146 (bl 49 1099511627775) HT_ ?_
       refine zO 40 147 (bl 49 2199023255551) HT_ ?_
       refine zO 41 148 (bl 49 4398046511103) HT_ ?_
       refine zO 42 149 (bl 49 8796093022207) HT_ ?_
       refine zO 43 150 (bl 49 17592186044415) HT_ ?_
       refine zO 44 151 (bl 49 35184372088831) HT_ ?_
       refine zO 45 152 (bl 49 70368744177663) HT_ ?_
       refine zO 46 153 (bl 49 140737488355327) HT_ ?_
       refine zO 47 154 (bl 49 281474976710655) HT_ ?_
       refine zP 48 155 (bl 49 562949953421311) HT_ ?_
       refine done_ (done_of HT_.out (by kernel_rfl)) ?_
       try go_wp2
       go_meet
       case rel => exact ⟨_, (true), zR, H', ⟨by have := HJ1.out; have := HK2.out; have := HK3.out; have := HK4.out; first | omega | exact Nat.le_refl _⟩, ⟨zkR HO_4⟩, ⟨zM BK148⟩, ⟨zB⟩⟩
     rw [if_neg c43] at H
     have c43b0 : decide (((rd_T125 l0_2 x6_4).f0) < 0) = false := decide_eq_false c43
     clear c43
     (first | rw [c43b0] | (simp only [i64_w, i32_w]; rw [c43b0]) | skip)
     by_cases c45 : ((rd_T125 l0_2 x6_4).f0) ≥ (l0_0.length : Int)
     · as_aux_lemma =>
       rw [if_pos c45] at H
       have c45b0 : decide ((l0_0.length : Int) ≤ ((rd_T125 l0_2 x6_4).f0)) = true := decide_eq_true c45
       clear c45
       have H' := zK H
       clear H
       try go_wp2
       have n0_ := zK (Kd.R_drew HO_4.out)
       have n1_ := zK (zd BK148.out)
       have n2_ := zK (ze HB.out)
       clear HO_4
       clear BK148
       clear HB
       have HO_4 := n0_
       have BK148 := n1_
       have HB := n2_
       clear n0_ n1_ n2_
       refine start_ (n := 49) (S := fun w' => w'.cell? ⟨gb148, 0, none⟩ = some (.slice A0_0 l0_0.length c0_0) ∧ w'.cell? ⟨gb148, 1, none⟩ = some (.slice A0_1 l0_1.length c0_1) ∧ w'.cell? ⟨gb148, 2, none⟩ = some (.slice (some ad162) l0_2.length c0_2) ∧ w'.cell? ⟨gb148, 3, none⟩ = some (.slice A0_3 l0_3.length c0_3) ∧ w'.cell? ⟨gb148, 4, none⟩ = some (.slice A0_4 l0_4.length c0_4)) (ds := []) (bl 49 0) (by kernel_rfl) rfl (by kernel_rfl) ⟨zy BK148 0, zy BK148 1, zy BK148 2, zy BK148 3, zy BK148 4⟩ (fun hHeld => ?_); refine with_tabW spec_NestOk.tab19 spec_NestOk.bits19 (fun HT_ HW_ => ?_)
       generalize wr.drew = w46 at HO_4 BK148 HB hHeld ⊢
       refine zP 0 107 (bl 49 1) HT_ ?_
       refine zP 1 108 (bl 49 3) HT_ ?_
       refine zP 2 109 (bl 49 7) HT_ ?_
       refine zP 3 110 (bl 49 15) HT_ ?_
       refine zP 4 111 (bl 49 31) HT_ ?_
       refine zT 5 112 (bl 49 63) rfl rfl HT_ HW_ hHeld (by rintro w' ⟨s0, s1, s2, s3, s4⟩; go_simp; with_reducible rfl) ?_
       refine zP 6 113 (bl 49 127) HT_ ?_
       refine zP 7 114 (bl 49 255) HT_ ?_
       refine zP 8 115 (bl 49 511) HT_ ?_
       refine zP 9 116 (bl 49 1023) HT_ ?_
       refine zO 10 117 (bl 49 2047) HT_ ?_
       refine zO 11 118 (bl 49 4095) HT_ ?_
       refine zO 12 119 (bl 49 8191) HT_ ?_
       refine zP 13 120 (bl 49 16383) HT_ ?_
       refine zP 14 121 (bl 49 32767) HT_ ?_
       refine zO 15 122 (bl 49 65535) HT_ ?_
       refine zO 16 123 (bl 49 131071) HT_ ?_
       refine zO 17 124 (bl 49 262143) HT_ ?_
       refine zO 18 125 (bl 49 524287) HT_ ?_
       refine zO 19 126 (bl 49 1048575) HT_ ?_
       refine zO 20 127 (bl 49 2097151) HT_ ?_
       refine zO 21 128 (bl 49 4194303) HT_ ?_
       refine zO 22 129 (bl 49 8388607) HT_ ?_
       refine zO 23 130 (bl 49 16777215) HT_ ?_
       refine zO 24 131 (bl 49 33554431) HT_ ?_
       refine zO 25 132 (bl 49 67108863) HT_ ?_
       refine zO 26 133 (bl 49 134217727) HT_ ?_
       refine zO 27 134 (bl 49 268435455) HT_ ?_
       refine zP 28 135 (bl 49 536870911) HT_ ?_
       refine zP 29 136 (bl 49 1073741823) HT_ ?_
       refine zO 30 137 (bl 49 2147483647) HT_ ?_
       refine zO 31 138 (bl 49 4294967295) HT_ ?_
       refine zO 32 139 (bl 49 8589934591) HT_ ?_
       refine zO 33 140 (bl 49 17179869183) HT_ ?_
       refine zO 34 141 (bl 49 34359738367) HT_ ?_
       refine zO 35 142 (bl 49 68719476735) HT_ ?_
       refine zO 36 143 (bl 49 137438953471) HT_ ?_
       refine zO 37 144 (bl 49 274877906943) HT_ ?_
       refine zO 38 145 (bl 49 549755813887) HT_ ?_
       refine zO 39 146 (bl 49 1099511627775) HT_ ?_
       refine zO 40 147 (bl 49 2199023255551) HT_ ?_
       refine zO 41 148 (bl 49 4398046511103) HT_ ?_
       refine zO 42 149 (bl 49 8796093022207) HT_ ?_
       refine zO 43 150 (bl 49 17592186044415) HT_ ?_
       refine zO 44 151 (bl 49 35184372088831) HT_ ?_
       refine zO 45 152 (bl 49 70368744177663) HT_ ?_
       refine zO 46 153 (bl 49 140737488355327) HT_ ?_
       refine zO 47 154 (bl 49 281474976710655) HT_ ?_
       refine zP 48 155 (bl 49 562949953421311) HT_ ?_
       refine done_ (done_of HT_.out (by kernel_rfl)) ?_
       try go_wp2
       go_meet
       case rel => exact ⟨_, (true), zR, H', ⟨by have := HJ1.out; have := HK2.out; have := HK3.out; have := HK4.out; first | omega | exact Nat.le_refl _⟩, ⟨zkR HO_4⟩, ⟨zM BK148⟩, ⟨zB⟩⟩
     rw [if_neg c45] at H
     have c45b0 : decide ((l0_0.length : Int) ≤ ((rd_T125 l0_2 x6_4).f0)) = false := decide_eq_false c45
     clear c45
     replace H := Option.bind_eq_some_iff.mp H
     obtain ⟨t163, A470, H⟩ := H
     replace H : (if t163 = true then (spec_NestOk.j4 k4 x4_4 x6_4 ((rd_T125 l0_2 x6_4).f0) true l0_0 l0_1 l0_2 l0_3 l0_4) else (if 0 ≤ ((rd_T125 l0_2 x6_4).f0) then (if ((rd_T125 l0_2 x6_4).f0) < (l0_0.length : Int) then (if (((rd_T125 l0_2 x6_4).f1).length : Int) = (rd l0_0 ((rd_T125 l0_2 x6_4).f0)) then (if (((rd_T125 l0_2 x6_4).f1).length : Int) > 0 then ((spec_l5RowOk.f k4 ((rd_T125 l0_2 x6_4).f1)).bind fun t168 => (spec_NestOk.j4 k4 x4_4 x6_4 ((rd_T125 l0_2 x6_4).f0) (!t168) l0_0 l0_1 l0_2 l0_3 l0_4)) else (spec_NestOk.j4 k4 x4_4 x6_4 ((rd_T125 l0_2 x6_4).f0) false l0_0 l0_1 l0_2 l0_3 l0_4)) else (spec_NestOk.j4 k4 x4_4 x6_4 ((rd_T125 l0_2 x6_4).f0) true l0_0 l0_1 l0_2 l0_3 l0_4)) else (none)) else (none))) = some r := H
     have A47 := zK A470
     clear A470
     by_cases c48 : t163 = true
     · as_aux_lemma =>
       subst c48
       have H1 : (spec_NestOk.j4 k4 x4_4 x6_4 ((rd_T125 l0_2 x6_4).f0) true l0_0 l0_1 l0_2 l0_3 l0_4) = some r := by rw [if_pos rfl] at H; exact H
       clear H
       have H := H1
       clear H1
       have H' := zK H
       clear H
       try go_wp2
       have n0_ := zK (Kd.R_drew HO_4.out)
       have n1_ := zK (zd BK148.out)
       have n2_ := zK (ze HB.out)
       clear HO_4
       clear BK148
       clear HB
       have HO_4 := n0_
       have BK148 := n1_
       have HB := n2_
       clear n0_ n1_ n2_
       obtain ⟨Ao50, co50, eo50⟩ := Kd.R_slice HO_4.out
       (first | subst eo50 | (injection eo50 with f1_ f2_ f3_; have f4_ := f1_.symm; have f5_ := f3_.symm; clear f1_ f2_ f3_; subst f4_; subst f5_))
       refine start_ (n := 49) (S := fun w' => w'.cell? ⟨gb148, 0, none⟩ = some (.slice A0_0 l0_0.length c0_0) ∧ w'.cell? ⟨gb148, 1, none⟩ = some (.slice A0_1 l0_1.length c0_1) ∧ w'.cell? ⟨gb148, 2, none⟩ = some (.slice (some ad162) l0_2.length c0_2) ∧ w'.cell? ⟨gb148, 3, none⟩ = some (.slice A0_3 l0_3.length c0_3) ∧ w'.cell? ⟨gb148, 4, none⟩ = some (.slice A0_4 l0_4.length c0_4)) (ds := []) (bl 49 0) (by kernel_rfl) rfl (by kernel_rfl) ⟨zy BK148 0, zy BK148 1, zy BK148 2, zy BK148 3, zy BK148 4⟩ (fun hHeld => ?_); refine with_tabW spec_NestOk.tab19 spec_NestOk.bits19 (fun HT_ HW_ => ?_)
       generalize wr.drew = w49 at HO_4 BK148 HB hHeld ⊢
       refine zP 0 107 (bl 49 1) HT_ ?_
       refine zP 1 108 (bl 49 3) HT_ ?_
       refine zP 2 109 (bl 49 7) HT_ ?_
       refine zP 3 110 (bl 49 15) HT_ ?_
       refine zP 4 111 (bl 49 31) HT_ ?_
       refine zT 5 112 (bl 49 63) rfl rfl HT_ HW_ hHeld (by rintro w' ⟨s0, s1, s2, s3, s4⟩; go_simp; with_reducible rfl) ?_
       refine zP 6 113 (bl 49 127) HT_ ?_
       refine zP 7 114 (bl 49 255) HT_ ?_
       refine zP 8 115 (bl 49 511) HT_ ?_
       refine zP 9 116 (bl 49 1023) HT_ ?_
       refine zP 10 117 (bl 49 2047) HT_ ?_
       refine zP 11 118 (bl 49 4095) HT_ ?_
       refine one_ (i := 12) (N := some 119) (bl 49 8191) rfl rfl (one_of HT_.out (by kernel_rfl)) (by decide) (fun K hK => ?_)
       refine goes_ Try.func86 (by kernel_rfl) rfl #[.slice Ao50 x4_4.length co50, .int .i64 ((rd_T125 l0_2 x6_4).f0)] (by rfl) rfl rfl zL ?_
       with_reducible refine (spec_l7Has.calls k4 _ _ x4_4 ((rd_T125 l0_2 x6_4).f0) true _ ?side1 ?side2 A47.out).mono ?_
       (case side1 => exact zC (Kd.R_reads' HO_4.out).2.2)
       (case side2 => exact (Kd.R_reads' HO_4.out).2.1)
       rintro e w' ⟨rfl, ⟨nd, rfl⟩⟩
       refine ⟨_, rfl, ?_⟩
       refine hK.out _ _ ⟨zy BK148 0, zy BK148 1, zy BK148 2, zy BK148 3, zy BK148 4⟩ (fun hHeld => ?_)
       clear hK K
       refine zU 119 ?_
       refine zP 13 120 (bl 49 16383) HT_ ?_
       refine zP 14 121 (bl 49 32767) HT_ ?_
       refine zO 15 122 (bl 49 65535) HT_ ?_
       refine zO 16 123 (bl 49 131071) HT_ ?_
       refine zO 17 124 (bl 49 262143) HT_ ?_
       refine zO 18 125 (bl 49 524287) HT_ ?_
       refine zO 19 126 (bl 49 1048575) HT_ ?_
       refine zO 20 127 (bl 49 2097151) HT_ ?_
       refine zO 21 128 (bl 49 4194303) HT_ ?_
       refine zO 22 129 (bl 49 8388607) HT_ ?_
       refine zO 23 130 (bl 49 16777215) HT_ ?_
       refine zO 24 131 (bl 49 33554431) HT_ ?_
       refine zO 25 132 (bl 49 67108863) HT_ ?_
       refine zO 26 133 (bl 49 134217727) HT_ ?_
       refine zO 27 134 (bl 49 268435455) HT_ ?_
       refine zP 28 135 (bl 49 536870911) HT_ ?_
       refine zP 29 136 (bl 49 1073741823) HT_ ?_
       refine zO 30 137 (bl 49 2147483647) HT_ ?_
       refine zO 31 138 (bl 49 4294967295) HT_ ?_
       refine zO 32 139 (bl 49 8589934591) HT_ ?_
       refine zO 33 140 (bl 49 17179869183) HT_ ?_
       refine zO 34 141 (bl 49 34359738367) HT_ ?_
       refine zO 35 142 (bl 49 68719476735) HT_ ?_
       refine zO 36 143 (bl 49 137438953471) HT_ ?_
       refine zO 37 144 (bl 49 274877906943) HT_ ?_
       refine zO 38 145 (bl 49 549755813887) HT_ ?_
       refine zO 39 146 (bl 49 1099511627775) HT_ ?_
       refine zO 40 147 (bl 49 2199023255551) HT_ ?_
       refine zO 41 148 (bl 49 4398046511103) HT_ ?_
       refine zO 42 149 (bl 49 8796093022207) HT_ ?_
       refine zO 43 150 (bl 49 17592186044415) HT_ ?_
       refine zO 44 151 (bl 49 35184372088831) HT_ ?_
       refine zO 45 152 (bl 49 70368744177663) HT_ ?_
       refine zO 46 153 (bl 49 140737488355327) HT_ ?_
       refine zO 47 154 (bl 49 281474976710655) HT_ ?_
       refine zP 48 155 (bl 49 562949953421311) HT_ ?_
       refine done_ (done_of HT_.out (by kernel_rfl)) ?_
       try go_wp2
       go_meet
       case rel => exact ⟨_, (true), zR, H', ⟨by have := HJ1.out; have := HK2.out; have := HK3.out; have := HK4.out; first | omega | exact Nat.le_refl _⟩, ⟨zkR HO_4⟩, ⟨zM BK148⟩, ⟨zB⟩⟩
     replace c48 := Bool.eq_false_iff.mpr c48
     subst c48
     have H1 : (if 0 ≤ ((rd_T125 l0_2 x6_4).f0) then (if ((rd_T125 l0_2 x6_4).f0) < (l0_0.length : Int) then (if (((rd_T125 l0_2 x6_4).f1).length : Int) = (rd l0_0 ((rd_T125 l0_2 x6_4).f0)) then (if (((rd_T125 l0_2 x6_4).f1).length : Int) > 0 then ((spec_l5RowOk.f k4 ((rd_T125 l0_2 x6_4).f1)).bind fun t168 => (spec_NestOk.j4 k4 x4_4 x6_4 ((rd_T125 l0_2 x6_4).f0) (!t168) l0_0 l0_1 l0_2 l0_3 l0_4)) else (spec_NestOk.j4 k4 x4_4 x6_4 ((rd_T125 l0_2 x6_4).f0) false l0_0 l0_1 l0_2 l0_3 l0_4)) else (spec_NestOk.j4 k4 x4_4 x6_4 ((rd_T125 l0_2 x6_4).f0) true l0_0 l0_1 l0_2 l0_3 l0_4)) else (none)) else (none)) = some r := by rw [if_neg (show ¬ (false = true) by decide)] at H; exact H
     clear H
     have H := H1
     clear H1
     by_cases c51 : 0 ≤ ((rd_T125 l0_2 x6_4).f0)
     rotate_left
     · rw [if_neg c51] at H
       exact absurd H (by simp)
     rw [if_pos c51] at H
     have c51b0 : decide (0 ≤ ((rd_T125 l0_2 x6_4).f0)) = true := decide_eq_true c51
     clear c51
     by_cases c52 : ((rd_T125 l0_2 x6_4).f0) < (l0_0.length : Int)
     rotate_left
     · rw [if_neg c52] at H
       exact absurd H (by simp)
     rw [if_pos c52] at H
     have c52b0 : decide (((rd_T125 l0_2 x6_4).f0) < (l0_0.length : Int)) = true := decide_eq_true c52
     clear c52
     by_cases c53 : (((rd_T125 l0_2 x6_4).f1).length : Int) = (rd l0_0 ((rd_T125 l0_2 x6_4).f0))
     rotate_left
     · as_aux_lemma =>
       rw [if_neg c53] at H
       have c53b0 : ((((rd_T125 l0_2 x6_4).f1).length : Int) == (rd l0_0 ((rd_T125 l0_2 x6_4).f0))) = false := beq_eq_false_iff_ne.mpr c53
       have c53b1 : ((((rd_T125 l0_2 x6_4).f1).length : Int) != (rd l0_0 ((rd_T125 l0_2 x6_4).f0))) = true := bne_iff_ne.mpr c53
       have H' := zK H
       clear H
       try go_wp2
       have n0_ := zK (Kd.R_drew HO_4.out)
       have n1_ := zK (zd BK148.out)
       have n2_ := zK (ze HB.out)
       clear HO_4
       clear BK148
       clear HB
       have HO_4 := n0_
       have BK148 := n1_
       have HB := n2_
       clear n0_ n1_ n2_
       obtain ⟨Ao61, co61, eo61⟩ := Kd.R_slice HO_4.out
       (first | subst eo61 | (injection eo61 with f1_ f2_ f3_; have f4_ := f1_.symm; have f5_ := f3_.symm; clear f1_ f2_ f3_; subst f4_; subst f5_))
       have p164 : 0 ≤ (x6_4 : Int) := of_decide_eq_true zA
       have q164 : x6_4 < (l0_2.length : Int) := of_decide_eq_true zA
       obtain ⟨ad164, A164_1, c164_1, e164, hx164_0, hx164_1, hl164_1, hi164_1⟩ := at_T125 HR0_2.out x6_4 p164 q164
       have hw164_1 := hx164_1
       have hw164_0 := hx164_0
       obtain rfl : ad162 = ad164 := (by injection e164)
       (try replace hx164_0 := zX HB hx164_0)
       have hq164_1 := hx164_1
       (try replace hx164_1 := zX HB hx164_1)
       have HR164_1 := zK hi164_1
       have HC164_1 := zK hl164_1
       clear hi164_1 hl164_1
       replace p164 := eq_true p164
       replace q164 := eq_true q164
       have p165 : 0 ≤ (((rd_T125 l0_2 x6_4).f0) : Int) := of_decide_eq_true zA
       have q165 : ((rd_T125 l0_2 x6_4).f0) < (l0_0.length : Int) := of_decide_eq_true zA
       obtain ⟨ad165, e165, hx165_0⟩ := Kd.at_int HR0_0.out ((rd_T125 l0_2 x6_4).f0) p165 q165
       have hw165_0 := hx165_0
       cases e165
       (try replace hx165_0 := zX HB hx165_0)
       replace p165 := eq_true p165
       replace q165 := eq_true q165
       refine start_ (n := 49) (S := fun w' => w'.cell? ⟨gb148, 0, none⟩ = some (.slice (some ad165) l0_0.length c0_0) ∧ w'.cell? ⟨gb148, 1, none⟩ = some (.slice A0_1 l0_1.length c0_1) ∧ w'.cell? ⟨gb148, 2, none⟩ = some (.slice (some ad162) l0_2.length c0_2) ∧ w'.cell? ⟨gb148, 3, none⟩ = some (.slice A0_3 l0_3.length c0_3) ∧ w'.cell? ⟨gb148, 4, none⟩ = some (.slice A0_4 l0_4.length c0_4) ∧ w'.cell? (ad162.add ((x6_4).toNat * 2)) = some (.int .i64 ((rd_T125 l0_2 x6_4).f0)) ∧ w'.cell? ⟨(ad162.add ((x6_4).toNat * 2)).block, (ad162.add ((x6_4).toNat * 2)).off + 1, none⟩ = some (.slice A164_1 ((rd_T125 l0_2 x6_4).f1).length c164_1) ∧ w'.cell? (ad165.add (((rd_T125 l0_2 x6_4).f0)).toNat) = some (.int .i64 (rd l0_0 ((rd_T125 l0_2 x6_4).f0)))) (ds := []) (bl 49 0) (by kernel_rfl) rfl (by kernel_rfl) ⟨zy BK148 0, zy BK148 1, zy BK148 2, zy BK148 3, zy BK148 4, (zX HB hw164_0:), (zX HB hw164_1:), (zX HB hw165_0:)⟩ (fun hHeld => ?_); refine with_tabW spec_NestOk.tab19 spec_NestOk.bits19 (fun HT_ HW_ => ?_)
       generalize wr.drew = w60 at HO_4 BK148 HB HR164_1 hx164_0 hx164_1 hx165_0 hHeld ⊢
       refine zP 0 107 (bl 49 1) HT_ ?_
       refine zP 1 108 (bl 49 3) HT_ ?_
       refine zP 2 109 (bl 49 7) HT_ ?_
       refine zP 3 110 (bl 49 15) HT_ ?_
       refine zP 4 111 (bl 49 31) HT_ ?_
       refine zT 5 112 (bl 49 63) rfl rfl HT_ HW_ hHeld (by rintro w' ⟨s0, s1, s2, s3, s4, s5, s6, s7⟩; go_simp; with_reducible rfl) ?_
       refine zP 6 113 (bl 49 127) HT_ ?_
       refine zP 7 114 (bl 49 255) HT_ ?_
       refine zP 8 115 (bl 49 511) HT_ ?_
       refine zP 9 116 (bl 49 1023) HT_ ?_
       refine zP 10 117 (bl 49 2047) HT_ ?_
       refine zP 11 118 (bl 49 4095) HT_ ?_
       refine one_ (i := 12) (N := some 119) (bl 49 8191) rfl rfl (one_of HT_.out (by kernel_rfl)) (by decide) (fun K hK => ?_)
       refine goes_ Try.func86 (by kernel_rfl) rfl #[.slice Ao61 x4_4.length co61, .int .i64 ((rd_T125 l0_2 x6_4).f0)] (by rfl) rfl rfl zL ?_
       with_reducible refine (spec_l7Has.calls k4 _ _ x4_4 ((rd_T125 l0_2 x6_4).f0) false _ ?side1 ?side2 A47.out).mono ?_
       (case side1 => exact zC (Kd.R_reads' HO_4.out).2.2)
       (case side2 => exact (Kd.R_reads' HO_4.out).2.1)
       rintro e w' ⟨rfl, ⟨nd, rfl⟩⟩
       refine ⟨_, rfl, ?_⟩
       refine hK.out _ _ ⟨zy BK148 0, zy BK148 1, zy BK148 2, zy BK148 3, zy BK148 4, (zX HB hw164_0:), (zX HB hw164_1:), (zX HB hw165_0:)⟩ (fun hHeld => ?_)
       clear hK K
       refine zU 119 ?_
       refine zP 13 120 (bl 49 16383) HT_ ?_
       refine zP 14 121 (bl 49 32767) HT_ ?_
       refine zP 15 122 (bl 49 65535) HT_ ?_
       refine zP 17 124 (bl 49 196607) HT_ ?_
       refine zP 22 129 (bl 49 4390911) HT_ ?_
       refine zP 24 131 (bl 49 21168127) HT_ ?_
       refine zT 16 123 (bl 49 21233663) rfl rfl HT_ HW_ hHeld (by rintro w' ⟨s0, s1, s2, s3, s4, s5, s6, s7⟩; go_simp; with_reducible rfl) ?_
       refine zP 18 125 (bl 49 21495807) HT_ ?_
       refine zP 19 126 (bl 49 22020095) HT_ ?_
       refine zT 20 127 (bl 49 23068671) rfl rfl HT_ HW_ hHeld (by rintro w' ⟨s0, s1, s2, s3, s4, s5, s6, s7⟩; go_simp; with_reducible rfl) ?_
       refine zP 21 128 (bl 49 25165823) HT_ ?_
       refine zT 23 130 (bl 49 33554431) rfl rfl HT_ HW_ hHeld (by rintro w' ⟨s0, s1, s2, s3, s4, s5, s6, s7⟩; go_simp; with_reducible rfl) ?_
       refine zP 25 132 (bl 49 67108863) HT_ ?_
       refine zT 26 133 (bl 49 134217727) rfl rfl HT_ HW_ hHeld (by rintro w' ⟨s0, s1, s2, s3, s4, s5, s6, s7⟩; go_simp; with_reducible rfl) ?_
       refine zP 27 134 (bl 49 268435455) HT_ ?_
       refine zP 28 135 (bl 49 536870911) HT_ ?_
       refine zP 29 136 (bl 49 1073741823) HT_ ?_
       refine zO 30 137 (bl 49 2147483647) HT_ ?_
       refine zO 31 138 (bl 49 4294967295) HT_ ?_
       refine zO 32 139 (bl 49 8589934591) HT_ ?_
       refine zO 33 140 (bl 49 17179869183) HT_ ?_
       refine zO 34 141 (bl 49 34359738367) HT_ ?_
       refine zO 35 142 (bl 49 68719476735) HT_ ?_
       refine zO 36 143 (bl 49 137438953471) HT_ ?_
       refine zO 37 144 (bl 49 274877906943) HT_ ?_
       refine zO 38 145 (bl 49 549755813887) HT_ ?_
       refine zO 39 146 (bl 49 1099511627775) HT_ ?_
       refine zO 40 147 (bl 49 2199023255551) HT_ ?_
       refine zO 41 148 (bl 49 4398046511103) HT_ ?_
       refine zO 42 149 (bl 49 8796093022207) HT_ ?_
       refine zO 43 150 (bl 49 17592186044415) HT_ ?_
       refine zO 44 151 (bl 49 35184372088831) HT_ ?_
       refine zO 45 152 (bl 49 70368744177663) HT_ ?_
       refine zO 46 153 (bl 49 140737488355327) HT_ ?_
       refine zO 47 154 (bl 49 281474976710655) HT_ ?_
       refine zP 48 155 (bl 49 562949953421311) HT_ ?_
       refine done_ (done_of HT_.out (by kernel_rfl)) ?_
       try go_wp2
       go_meet
       case rel => exact ⟨_, (true), zR, H', ⟨by have := HJ1.out; have := HK2.out; have := HK3.out; have := HK4.out; first | omega | exact Nat.le_refl _⟩, ⟨zkR HO_4⟩, ⟨zM BK148⟩, ⟨zB⟩⟩
     rw [if_pos c53] at H
     have c53b0 : ((((rd_T125 l0_2 x6_4).f1).length : Int) == (rd l0_0 ((rd_T125 l0_2 x6_4).f0))) = true := beq_iff_eq.mpr c53
     have c53b1 : ((((rd_T125 l0_2 x6_4).f1).length : Int) != (rd l0_0 ((rd_T125 l0_2 x6_4).f0))) = false := bne_eq_false_iff_eq.mpr c53
     clear c53
     by_cases c54 : (((rd_T125 l0_2 x6_4).f1).length : Int) > 0
     rotate_left
     · as_aux_lemma =>
       rw [if_neg c54] at H
       have c54b0 : decide (0 < (((rd_T125 l0_2 x6_4).f1).length : Int)) = false := decide_eq_false c54
       have c54b1 : decide (0 < ((rd_T125 l0_2 x6_4).f1).length) = false := decide_eq_false (by omega)
       clear c54
       have H' := zK H
       clear H
       try go_wp2
       have n0_ := zK (Kd.R_drew HO_4.out)
       have n1_ := zK (zd BK148.out)
       have n2_ := zK (ze HB.out)
       clear HO_4
       clear BK148
       clear HB
       have HO_4 := n0_
       have BK148 := n1_
       have HB := n2_
       clear n0_ n1_ n2_
       obtain ⟨Ao59, co59, eo59⟩ := Kd.R_slice HO_4.out
       (first | subst eo59 | (injection eo59 with f1_ f2_ f3_; have f4_ := f1_.symm; have f5_ := f3_.symm; clear f1_ f2_ f3_; subst f4_; subst f5_))
       have p164 : 0 ≤ (x6_4 : Int) := of_decide_eq_true zA
       have q164 : x6_4 < (l0_2.length : Int) := of_decide_eq_true zA
       obtain ⟨ad164, A164_1, c164_1, e164, hx164_0, hx164_1, hl164_1, hi164_1⟩ := at_T125 HR0_2.out x6_4 p164 q164
       have hw164_1 := hx164_1
       have hw164_0 := hx164_0
       obtain rfl : ad162 = ad164 := (by injection e164)
       (try replace hx164_0 := zX HB hx164_0)
       have hq164_1 := hx164_1
       (try replace hx164_1 := zX HB hx164_1)
       have HR164_1 := zK hi164_1
       have HC164_1 := zK hl164_1
       clear hi164_1 hl164_1
       replace p164 := eq_true p164
       replace q164 := eq_true q164
       have p165 : 0 ≤ (((rd_T125 l0_2 x6_4).f0) : Int) := of_decide_eq_true zA
       have q165 : ((rd_T125 l0_2 x6_4).f0) < (l0_0.length : Int) := of_decide_eq_true zA
       obtain ⟨ad165, e165, hx165_0⟩ := Kd.at_int HR0_0.out ((rd_T125 l0_2 x6_4).f0) p165 q165
       have hw165_0 := hx165_0
       cases e165
       (try replace hx165_0 := zX HB hx165_0)
       replace p165 := eq_true p165
       replace q165 := eq_true q165
       have p166 : 0 ≤ (x6_4 : Int) := of_decide_eq_true zA
       have q166 : x6_4 < (l0_2.length : Int) := of_decide_eq_true zA
       obtain ⟨ad166, A166_1, c166_1, e166, hx166_0, hx166_1, hl166_1, hi166_1⟩ := at_T125 HR0_2.out x6_4 p166 q166
       have hw166_1 := hx166_1
       have hw166_0 := hx166_0
       obtain rfl : ad162 = ad166 := (by injection e166)
       (try replace hx166_0 := zX HB hx166_0)
       have hq166_1 := hx166_1
       (try replace hx166_1 := zX HB hx166_1)
       have HR166_1 := zK hi166_1
       have HC166_1 := zK hl166_1
       clear hi166_1 hl166_1
       replace p166 := eq_true p166
       replace q166 := eq_true q166
       have ea_ := Option.some.inj (by first | exact hx164_1.symm.trans hx166_1 | exact hq164_1.symm.trans hq166_1)
       injection ea_ with ea_ en_ ec_
       subst ea_
       subst ec_
       clear en_
       (try (have ea_ := Option.some.inj (by first | exact hq164_1.symm.trans hw162_1 | exact hx164_1.symm.trans hx162_1); injection ea_ with ea_ en_ ec_; subst ea_; subst ec_; clear en_))
       refine start_ (n := 49) (S := fun w' => w'.cell? ⟨gb148, 0, none⟩ = some (.slice (some ad165) l0_0.length c0_0) ∧ w'.cell? ⟨gb148, 1, none⟩ = some (.slice A0_1 l0_1.length c0_1) ∧ w'.cell? ⟨gb148, 2, none⟩ = some (.slice (some ad162) l0_2.length c0_2) ∧ w'.cell? ⟨gb148, 3, none⟩ = some (.slice A0_3 l0_3.length c0_3) ∧ w'.cell? ⟨gb148, 4, none⟩ = some (.slice A0_4 l0_4.length c0_4) ∧ w'.cell? (ad162.add ((x6_4).toNat * 2)) = some (.int .i64 ((rd_T125 l0_2 x6_4).f0)) ∧ w'.cell? ⟨(ad162.add ((x6_4).toNat * 2)).block, (ad162.add ((x6_4).toNat * 2)).off + 1, none⟩ = some (.slice A164_1 ((rd_T125 l0_2 x6_4).f1).length c164_1) ∧ w'.cell? (ad165.add (((rd_T125 l0_2 x6_4).f0)).toNat) = some (.int .i64 (rd l0_0 ((rd_T125 l0_2 x6_4).f0))) ∧ w'.cell? (ad162.add ((x6_4).toNat * 2)) = some (.int .i64 ((rd_T125 l0_2 x6_4).f0)) ∧ w'.cell? ⟨(ad162.add ((x6_4).toNat * 2)).block, (ad162.add ((x6_4).toNat * 2)).off + 1, none⟩ = some (.slice A164_1 ((rd_T125 l0_2 x6_4).f1).length c164_1)) (ds := []) (bl 49 0) (by kernel_rfl) rfl (by kernel_rfl) ⟨zy BK148 0, zy BK148 1, zy BK148 2, zy BK148 3, zy BK148 4, (zX HB hw164_0:), (zX HB hw164_1:), (zX HB hw165_0:), (zX HB hw166_0:), (zX HB hw166_1:)⟩ (fun hHeld => ?_); refine with_tabW spec_NestOk.tab19 spec_NestOk.bits19 (fun HT_ HW_ => ?_)
       generalize wr.drew = w58 at HO_4 BK148 HB HR164_1 HR166_1 hx164_0 hx164_1 hx165_0 hx166_0 hx166_1 hHeld ⊢
       refine zP 0 107 (bl 49 1) HT_ ?_
       refine zP 1 108 (bl 49 3) HT_ ?_
       refine zP 2 109 (bl 49 7) HT_ ?_
       refine zP 3 110 (bl 49 15) HT_ ?_
       refine zP 4 111 (bl 49 31) HT_ ?_
       refine zT 5 112 (bl 49 63) rfl rfl HT_ HW_ hHeld (by rintro w' ⟨s0, s1, s2, s3, s4, s5, s6, s7, s8, s9⟩; go_simp; with_reducible rfl) ?_
       refine zP 6 113 (bl 49 127) HT_ ?_
       refine zP 7 114 (bl 49 255) HT_ ?_
       refine zP 8 115 (bl 49 511) HT_ ?_
       refine zP 9 116 (bl 49 1023) HT_ ?_
       refine zP 10 117 (bl 49 2047) HT_ ?_
       refine zP 11 118 (bl 49 4095) HT_ ?_
       refine one_ (i := 12) (N := some 119) (bl 49 8191) rfl rfl (one_of HT_.out (by kernel_rfl)) (by decide) (fun K hK => ?_)
       refine goes_ Try.func86 (by kernel_rfl) rfl #[.slice Ao59 x4_4.length co59, .int .i64 ((rd_T125 l0_2 x6_4).f0)] (by rfl) rfl rfl zL ?_
       with_reducible refine (spec_l7Has.calls k4 _ _ x4_4 ((rd_T125 l0_2 x6_4).f0) false _ ?side1 ?side2 A47.out).mono ?_
       (case side1 => exact zC (Kd.R_reads' HO_4.out).2.2)
       (case side2 => exact (Kd.R_reads' HO_4.out).2.1)
       rintro e w' ⟨rfl, ⟨nd, rfl⟩⟩
       refine ⟨_, rfl, ?_⟩
       refine hK.out _ _ ⟨zy BK148 0, zy BK148 1, zy BK148 2, zy BK148 3, zy BK148 4, (zX HB hw164_0:), (zX HB hw164_1:), (zX HB hw165_0:), (zX HB hw166_0:), (zX HB hw166_1:)⟩ (fun hHeld => ?_)
       clear hK K
       refine zU 119 ?_
       refine zP 13 120 (bl 49 16383) HT_ ?_
       refine zP 14 121 (bl 49 32767) HT_ ?_
       refine zP 15 122 (bl 49 65535) HT_ ?_
       refine zP 17 124 (bl 49 196607) HT_ ?_
       refine zP 22 129 (bl 49 4390911) HT_ ?_
       refine zP 24 131 (bl 49 21168127) HT_ ?_
       refine zT 16 123 (bl 49 21233663) rfl rfl HT_ HW_ hHeld (by rintro w' ⟨s0, s1, s2, s3, s4, s5, s6, s7, s8, s9⟩; go_simp; with_reducible rfl) ?_
       refine zP 18 125 (bl 49 21495807) HT_ ?_
       refine zP 19 126 (bl 49 22020095) HT_ ?_
       refine zT 20 127 (bl 49 23068671) rfl rfl HT_ HW_ hHeld (by rintro w' ⟨s0, s1, s2, s3, s4, s5, s6, s7, s8, s9⟩; go_simp; with_reducible rfl) ?_
       refine zP 21 128 (bl 49 25165823) HT_ ?_
       refine zT 23 130 (bl 49 33554431) rfl rfl HT_ HW_ hHeld (by rintro w' ⟨s0, s1, s2, s3, s4, s5, s6, s7, s8, s9⟩; go_simp; with_reducible rfl) ?_
       refine zP 25 132 (bl 49 67108863) HT_ ?_
       refine zT 26 133 (bl 49 134217727) rfl rfl HT_ HW_ hHeld (by rintro w' ⟨s0, s1, s2, s3, s4, s5, s6, s7, s8, s9⟩; go_simp; with_reducible rfl) ?_
       refine zP 27 134 (bl 49 268435455) HT_ ?_
       refine zP 28 135 (bl 49 536870911) HT_ ?_
       refine zP 29 136 (bl 49 1073741823) HT_ ?_
       refine zP 30 137 (bl 49 2147483647) HT_ ?_
       refine zP 32 139 (bl 49 6442450943) HT_ ?_
       refine zT 31 138 (bl 49 8589934591) rfl rfl HT_ HW_ hHeld (by rintro w' ⟨s0, s1, s2, s3, s4, s5, s6, s7, s8, s9⟩; go_simp; with_reducible rfl) ?_
       refine zP 33 140 (bl 49 17179869183) HT_ ?_
       refine zP 34 141 (bl 49 34359738367) HT_ ?_
       refine zT 35 142 (bl 49 68719476735) rfl rfl HT_ HW_ hHeld (by rintro w' ⟨s0, s1, s2, s3, s4, s5, s6, s7, s8, s9⟩; go_simp; with_reducible rfl) ?_
       refine zP 36 143 (bl 49 137438953471) HT_ ?_
       refine zP 37 144 (bl 49 274877906943) HT_ ?_
       refine zP 38 145 (bl 49 549755813887) HT_ ?_
       refine zO 39 146 (bl 49 1099511627775) HT_ ?_
       refine zO 40 147 (bl 49 2199023255551) HT_ ?_
       refine zO 41 148 (bl 49 4398046511103) HT_ ?_
       refine zO 42 149 (bl 49 8796093022207) HT_ ?_
       refine zO 43 150 (bl 49 17592186044415) HT_ ?_
       refine zO 44 151 (bl 49 35184372088831) HT_ ?_
       refine zO 45 152 (bl 49 70368744177663) HT_ ?_
       refine zO 46 153 (bl 49 140737488355327) HT_ ?_
       refine zP 47 154 (bl 49 281474976710655) HT_ ?_
       refine zP 48 155 (bl 49 562949953421311) HT_ ?_
       refine done_ (done_of HT_.out (by kernel_rfl)) ?_
       try go_wp2
       go_meet
       case rel => exact ⟨_, (false), zR, H', ⟨by have := HJ1.out; have := HK2.out; have := HK3.out; have := HK4.out; first | omega | exact Nat.le_refl _⟩, ⟨zkR HO_4⟩, ⟨zM BK148⟩, ⟨zB⟩⟩
     rw [if_pos c54] at H
     have c54b0 : decide (0 < (((rd_T125 l0_2 x6_4).f1).length : Int)) = true := decide_eq_true c54
     have c54b1 : decide (0 < ((rd_T125 l0_2 x6_4).f1).length) = true := decide_eq_true (by omega)
     clear c54
     replace H := Option.bind_eq_some_iff.mp H
     obtain ⟨t168, A550, H⟩ := H
     replace H : (spec_NestOk.j4 k4 x4_4 x6_4 ((rd_T125 l0_2 x6_4).f0) (!t168) l0_0 l0_1 l0_2 l0_3 l0_4) = some r := H
     have A55 := zK A550
     clear A550
     have H' := zK H
     clear H
     try go_wp2
     have n0_ := zK (Kd.R_drew HO_4.out)
     have n1_ := zK (zd BK148.out)
     have n2_ := zK (ze HB.out)
     clear HO_4
     clear BK148
     clear HB
     have HO_4 := n0_
     have BK148 := n1_
     have HB := n2_
     clear n0_ n1_ n2_
     obtain ⟨Ao57, co57, eo57⟩ := Kd.R_slice HO_4.out
     (first | subst eo57 | (injection eo57 with f1_ f2_ f3_; have f4_ := f1_.symm; have f5_ := f3_.symm; clear f1_ f2_ f3_; subst f4_; subst f5_))
     have p164 : 0 ≤ (x6_4 : Int) := of_decide_eq_true zA
     have q164 : x6_4 < (l0_2.length : Int) := of_decide_eq_true zA
     obtain ⟨ad164, A164_1, c164_1, e164, hx164_0, hx164_1, hl164_1, hi164_1⟩ := at_T125 HR0_2.out x6_4 p164 q164
     have hw164_1 := hx164_1
     have hw164_0 := hx164_0
     obtain rfl : ad162 = ad164 := (by injection e164)
     (try replace hx164_0 := zX HB hx164_0)
     have hq164_1 := hx164_1
     (try replace hx164_1 := zX HB hx164_1)
     have HR164_1 := zK hi164_1
     have HC164_1 := zK hl164_1
     clear hi164_1 hl164_1
     replace p164 := eq_true p164
     replace q164 := eq_true q164
     have p165 : 0 ≤ (((rd_T125 l0_2 x6_4).f0) : Int) := of_decide_eq_true zA
     have q165 : ((rd_T125 l0_2 x6_4).f0) < (l0_0.length : Int) := of_decide_eq_true zA
     obtain ⟨ad165, e165, hx165_0⟩ := Kd.at_int HR0_0.out ((rd_T125 l0_2 x6_4).f0) p165 q165
     have hw165_0 := hx165_0
     cases e165
     (try replace hx165_0 := zX HB hx165_0)
     replace p165 := eq_true p165
     replace q165 := eq_true q165
     have p166 : 0 ≤ (x6_4 : Int) := of_decide_eq_true zA
     have q166 : x6_4 < (l0_2.length : Int) := of_decide_eq_true zA
     obtain ⟨ad166, A166_1, c166_1, e166, hx166_0, hx166_1, hl166_1, hi166_1⟩ := at_T125 HR0_2.out x6_4 p166 q166
     have hw166_1 := hx166_1
     have hw166_0 := hx166_0
     obtain rfl : ad162 = ad166 := (by injection e166)
     (try replace hx166_0 := zX HB hx166_0)
     have hq166_1 := hx166_1
     (try replace hx166_1 := zX HB hx166_1)
     have HR166_1 := zK hi166_1
     have HC166_1 := zK hl166_1
     clear hi166_1 hl166_1
     replace p166 := eq_true p166
     replace q166 := eq_true q166
     have ea_ := Option.some.inj (by first | exact hx164_1.symm.trans hx166_1 | exact hq164_1.symm.trans hq166_1)
     injection ea_ with ea_ en_ ec_
     subst ea_
     subst ec_
     clear en_
     (try (have ea_ := Option.some.inj (by first | exact hq164_1.symm.trans hw162_1 | exact hx164_1.symm.trans hx162_1); injection ea_ with ea_ en_ ec_; subst ea_; subst ec_; clear en_))
     have p167 : 0 ≤ (x6_4 : Int) := of_decide_eq_true zA
     have q167 : x6_4 < (l0_2.length : Int) := of_decide_eq_true zA
     obtain ⟨ad167, A167_1, c167_1, e167, hx167_0, hx167_1, hl167_1, hi167_1⟩ := at_T125 HR0_2.out x6_4 p167 q167
     have hw167_1 := hx167_1
     have hw167_0 := hx167_0
     obtain rfl : ad162 = ad167 := (by injection e167)
     (try replace hx167_0 := zX HB hx167_0)
     have hq167_1 := hx167_1
     (try replace hx167_1 := zX HB hx167_1)
     have HR167_1 := zK hi167_1
     have HC167_1 := zK hl167_1
     clear hi167_1 hl167_1
     replace p167 := eq_true p167
     replace q167 := eq_true q167
     have ea_ := Option.some.inj (by first | exact hx164_1.symm.trans hx167_1 | exact hq164_1.symm.trans hq167_1)
     injection ea_ with ea_ en_ ec_
     subst ea_
     subst ec_
     clear en_
     (try (have ea_ := Option.some.inj (by first | exact hq164_1.symm.trans hw162_1 | exact hx164_1.symm.trans hx162_1); injection ea_ with ea_ en_ ec_; subst ea_; subst ec_; clear en_))
     refine start_ (n := 49) (S := fun w' => w'.cell? ⟨gb148, 0, none⟩ = some (.slice (some ad165) l0_0.length c0_0) ∧ w'.cell? ⟨gb148, 1, none⟩ = some (.slice A0_1 l0_1.length c0_1) ∧ w'.cell? ⟨gb148, 2, none⟩ = some (.slice (some ad162) l0_2.length c0_2) ∧ w'.cell? ⟨gb148, 3, none⟩ = some (.slice A0_3 l0_3.length c0_3) ∧ w'.cell? ⟨gb148, 4, none⟩ = some (.slice A0_4 l0_4.length c0_4) ∧ w'.cell? (ad162.add ((x6_4).toNat * 2)) = some (.int .i64 ((rd_T125 l0_2 x6_4).f0)) ∧ w'.cell? ⟨(ad162.add ((x6_4).toNat * 2)).block, (ad162.add ((x6_4).toNat * 2)).off + 1, none⟩ = some (.slice A164_1 ((rd_T125 l0_2 x6_4).f1).length c164_1) ∧ w'.cell? (ad165.add (((rd_T125 l0_2 x6_4).f0)).toNat) = some (.int .i64 (rd l0_0 ((rd_T125 l0_2 x6_4).f0))) ∧ w'.cell? (ad162.add ((x6_4).toNat * 2)) = some (.int .i64 ((rd_T125 l0_2 x6_4).f0)) ∧ w'.cell? ⟨(ad162.add ((x6_4).toNat * 2)).block, (ad162.add ((x6_4).toNat * 2)).off + 1, none⟩ = some (.slice A164_1 ((rd_T125 l0_2 x6_4).f1).length c164_1) ∧ w'.cell? (ad162.add ((x6_4).toNat * 2)) = some (.int .i64 ((rd_T125 l0_2 x6_4).f0)) ∧ w'.cell? ⟨(ad162.add ((x6_4).toNat * 2)).block, (ad162.add ((x6_4).toNat * 2)).off + 1, none⟩ = some (.slice A164_1 ((rd_T125 l0_2 x6_4).f1).length c164_1)) (ds := []) (bl 49 0) (by kernel_rfl) rfl (by kernel_rfl) ⟨zy BK148 0, zy BK148 1, zy BK148 2, zy BK148 3, zy BK148 4, (zX HB hw164_0:), (zX HB hw164_1:), (zX HB hw165_0:), (zX HB hw166_0:), (zX HB hw166_1:), (zX HB hw167_0:), (zX HB hw167_1:)⟩ (fun hHeld => ?_); refine with_tabW spec_NestOk.tab19 spec_NestOk.bits19 (fun HT_ HW_ => ?_)
     generalize wr.drew = w56 at HO_4 BK148 HB HR164_1 HR166_1 HR167_1 hx164_0 hx164_1 hx165_0 hx166_0 hx166_1 hx167_0 hx167_1 hHeld ⊢
     refine zP 0 107 (bl 49 1) HT_ ?_
     refine zP 1 108 (bl 49 3) HT_ ?_
     refine zP 2 109 (bl 49 7) HT_ ?_
     refine zP 3 110 (bl 49 15) HT_ ?_
     refine zP 4 111 (bl 49 31) HT_ ?_
     refine zT 5 112 (bl 49 63) rfl rfl HT_ HW_ hHeld (by rintro w' ⟨s0, s1, s2, s3, s4, s5, s6, s7, s8, s9, s10, s11⟩; go_simp; with_reducible rfl) ?_
     refine zP 6 113 (bl 49 127) HT_ ?_
     refine zP 7 114 (bl 49 255) HT_ ?_
     refine zP 8 115 (bl 49 511) HT_ ?_
     refine zP 9 116 (bl 49 1023) HT_ ?_
     refine zP 10 117 (bl 49 2047) HT_ ?_
     refine zP 11 118 (bl 49 4095) HT_ ?_
     refine one_ (i := 12) (N := some 119) (bl 49 8191) rfl rfl (one_of HT_.out (by kernel_rfl)) (by decide) (fun K hK => ?_)
     refine goes_ Try.func86 (by kernel_rfl) rfl #[.slice Ao57 x4_4.length co57, .int .i64 ((rd_T125 l0_2 x6_4).f0)] (by rfl) rfl rfl zL ?_
     with_reducible refine (spec_l7Has.calls k4 _ _ x4_4 ((rd_T125 l0_2 x6_4).f0) false _ ?side1 ?side2 A47.out).mono ?_
     (case side1 => exact zC (Kd.R_reads' HO_4.out).2.2)
     (case side2 => exact (Kd.R_reads' HO_4.out).2.1)
     rintro e w' ⟨rfl, ⟨nd, rfl⟩⟩
     refine ⟨_, rfl, ?_⟩
     refine hK.out _ _ ⟨zy BK148 0, zy BK148 1, zy BK148 2, zy BK148 3, zy BK148 4, (zX HB hw164_0:), (zX HB hw164_1:), (zX HB hw165_0:), (zX HB hw166_0:), (zX HB hw166_1:), (zX HB hw167_0:), (zX HB hw167_1:)⟩ (fun hHeld => ?_)
     clear hK K
     refine zU 119 ?_
     refine zP 13 120 (bl 49 16383) HT_ ?_
     refine zP 14 121 (bl 49 32767) HT_ ?_
     refine zP 15 122 (bl 49 65535) HT_ ?_
     refine zP 17 124 (bl 49 196607) HT_ ?_
     refine zP 22 129 (bl 49 4390911) HT_ ?_
     refine zP 24 131 (bl 49 21168127) HT_ ?_
     refine zT 16 123 (bl 49 21233663) rfl rfl HT_ HW_ hHeld (by rintro w' ⟨s0, s1, s2, s3, s4, s5, s6, s7, s8, s9, s10, s11⟩; go_simp; with_reducible rfl) ?_
     refine zP 18 125 (bl 49 21495807) HT_ ?_
     refine zP 19 126 (bl 49 22020095) HT_ ?_
     refine zT 20 127 (bl 49 23068671) rfl rfl HT_ HW_ hHeld (by rintro w' ⟨s0, s1, s2, s3, s4, s5, s6, s7, s8, s9, s10, s11⟩; go_simp; with_reducible rfl) ?_
     refine zP 21 128 (bl 49 25165823) HT_ ?_
     refine zT 23 130 (bl 49 33554431) rfl rfl HT_ HW_ hHeld (by rintro w' ⟨s0, s1, s2, s3, s4, s5, s6, s7, s8, s9, s10, s11⟩; go_simp; with_reducible rfl) ?_
     refine zP 25 132 (bl 49 67108863) HT_ ?_
     refine zT 26 133 (bl 49 134217727) rfl rfl HT_ HW_ hHeld (by rintro w' ⟨s0, s1, s2, s3, s4, s5, s6, s7, s8, s9, s10, s11⟩; go_simp; with_reducible rfl) ?_
     refine zP 27 134 (bl 49 268435455) HT_ ?_
     refine zP 28 135 (bl 49 536870911) HT_ ?_
     refine zP 29 136 (bl 49 1073741823) HT_ ?_
     refine zP 30 137 (bl 49 2147483647) HT_ ?_
     refine zP 32 139 (bl 49 6442450943) HT_ ?_
     refine zT 31 138 (bl 49 8589934591) rfl rfl HT_ HW_ hHeld (by rintro w' ⟨s0, s1, s2, s3, s4, s5, s6, s7, s8, s9, s10, s11⟩; go_simp; with_reducible rfl) ?_
     refine zP 33 140 (bl 49 17179869183) HT_ ?_
     refine zP 34 141 (bl 49 34359738367) HT_ ?_
     refine zT 35 142 (bl 49 68719476735) rfl rfl HT_ HW_ hHeld (by rintro w' ⟨s0, s1, s2, s3, s4, s5, s6, s7, s8, s9, s10, s11⟩; go_simp; with_reducible rfl) ?_
     refine zP 36 143 (bl 49 137438953471) HT_ ?_
     refine zP 37 144 (bl 49 274877906943) HT_ ?_
     refine zP 38 145 (bl 49 549755813887) HT_ ?_
     refine zP 39 146 (bl 49 1099511627775) HT_ ?_
     refine zP 41 148 (bl 49 3298534883327) HT_ ?_
     refine zT 40 147 (bl 49 4398046511103) rfl rfl HT_ HW_ hHeld (by rintro w' ⟨s0, s1, s2, s3, s4, s5, s6, s7, s8, s9, s10, s11⟩; go_simp; with_reducible rfl) ?_
     refine zP 42 149 (bl 49 8796093022207) HT_ ?_
     refine zP 43 150 (bl 49 17592186044415) HT_ ?_
     refine zT 44 151 (bl 49 35184372088831) rfl rfl HT_ HW_ hHeld (by rintro w' ⟨s0, s1, s2, s3, s4, s5, s6, s7, s8, s9, s10, s11⟩; go_simp; with_reducible rfl) ?_
     refine one_ (i := 45) (N := some 152) (bl 49 70368744177663) rfl rfl (one_of HT_.out (by kernel_rfl)) (by decide) (fun K hK => ?_)
     refine goes_ Try.func87 (by kernel_rfl) rfl #[.slice A164_1 ((rd_T125 l0_2 x6_4).f1).length c164_1] (by rfl) rfl rfl zL ?_
     with_reducible refine (spec_l5RowOk.calls k4 _ _ ((rd_T125 l0_2 x6_4).f1) t168 _ ?side1 ?side2 A55.out).mono ?_
     (case side1 => exact zC (Kd.C_below HR167_1.out zB))
     (case side2 => exact HC167_1.out)
     rintro e w' ⟨rfl, ⟨nd, rfl⟩⟩
     refine ⟨_, rfl, ?_⟩
     refine hK.out _ _ ⟨zy BK148 0, zy BK148 1, zy BK148 2, zy BK148 3, zy BK148 4, (zX HB hw164_0:), (zX HB hw164_1:), (zX HB hw165_0:), (zX HB hw166_0:), (zX HB hw166_1:), (zX HB hw167_0:), (zX HB hw167_1:)⟩ (fun hHeld => ?_)
     clear hK K
     refine zU 152 ?_
     refine zP 46 153 (bl 49 140737488355327) HT_ ?_
     refine zP 47 154 (bl 49 281474976710655) HT_ ?_
     refine zP 48 155 (bl 49 562949953421311) HT_ ?_
     refine done_ (done_of HT_.out (by kernel_rfl)) ?_
     try go_wp2
     go_meet
     case rel => exact ⟨_, (!t168), zR, H', ⟨by have := HJ1.out; have := HK2.out; have := HK3.out; have := HK4.out; first | omega | exact Nat.le_refl _⟩, ⟨zkR HO_4⟩, ⟨zM BK148⟩, ⟨zB⟩⟩
    case rest =>
     clear HC41
     try clear c1
     try clear p1
     try clear q1
     try clear hx1
     try clear p2
     try clear c5
     try clear c8
     try clear c16
     try clear p16
     try clear q16
     try clear hx16
     try clear c51
     try clear c52
     try clear c53
     try clear c53b0
     try clear c53b1
     try clear hx164_0
     try clear hx164_1
     try clear hx165_0
     try clear p164
     try clear p165
     try clear q164
     try clear q165
     obtain ⟨kq, x155_40, rfl, HA, HJ40, HO_4, BK148, HB⟩ := hcut
     cases kq with
     | zero => exact absurd HA.out (by simp [spec_NestOk.j4])
     | succ kj40 =>
      have H := HA.out
      clear HA
      simp only [spec_NestOk.j4] at H
      by_cases c62 : x155_40 = true
      · subst c62
        have H1 : (some false) = some r := by rw [if_pos rfl] at H; exact H
        clear H
        have H := H1
        clear H1
        obtain rfl := Option.some.inj H
        go_wp2
        go_ret
        exact ⟨zE, zB⟩
      replace c62 := Bool.eq_false_iff.mpr c62
      subst c62
      have H1 : (if x4_4.length < 17592186044416 then (spec_NestOk.l2 kj40 (x4_4 ++ [((rd_T125 l0_2 x6_4).f0)]) (wrap64 (x6_4 + 1)) l0_0 l0_1 l0_2 l0_3 l0_4) else (none)) = some r := by rw [if_neg (show ¬ (false = true) by decide)] at H; exact H
      clear H
      have H := H1
      clear H1
      by_cases c63 : x4_4.length < 17592186044416
      rotate_left
      · rw [if_neg c63] at H
        exact absurd H (by simp)
      rw [if_pos c63] at H
      have LMc63 := zK c63
      clear c63
      obtain ⟨y169, hy169⟩ : ∃ y_ : List Int, y_ = (x4_4 ++ [((rd_T125 l0_2 x6_4).f0)]) := ⟨_, rfl⟩
      replace H : (spec_NestOk.l2 kj40 y169 (wrap64 (x6_4 + 1)) l0_0 l0_1 l0_2 l0_3 l0_4) = some r := by first | (rw [hy169]; with_reducible exact H) | (have H2_ := (Option.bind_some _ _).symm.trans H; rw [hy169]; with_reducible exact H2_) | (have H2_ := (Option.bind_some _ _).symm.trans H; with_reducible exact H2_) | with_reducible exact H | (rw [hy169]; exact H) | exact H
      have Ny169 := zK hy169
      clear hy169
      have H' := zK H
      clear H
      go_wp2_with (first | ((with_reducible refine gate_builtin (b := .append) (xs := #[.tmp 156, .tmp 158]) rfl ?_); (try (refine gate_guard (by rfl) ?_; dsimp only)); at_builtin; refine Kd.R_append (Kd.int .i64) (w0 := w) w.heap.size rfl (.tmp 156) (.tmp 158) 26 3 (.int .i64 0) 8 rfl Try.underlying26 info3 rfl (by decide) (by omega) u4 x4_4 ((rd_T125 l0_2 x6_4).f0) [.int .i64 ((rd_T125 l0_2 x6_4).f0)] (fun _ => True) (fun _ => False) rfl rfl ?aP (fun _ hk => hk.elim) ?aF ?aO ?aB ?aS ?aL ?_; (case aP => exact rfl); (case aB => exact zB); (case aF => exact (fun _ _ => trivial)); (case aO => exact (zkR HO_4)); (case aS => exact (zz zB)); (case aL => have := LMc63.out; omega); intro v170 w64 ho hb hg hat; rw [← Ny169.out] at ho; have n0_ := zK (blk_grown (zM BK148) hg (Kd.R_ne HO_4.out BK148.out (by decide))); have n1_ := zK (hb); have n2_ := zK (ho); clear BK148; clear HB; clear HO_4; have BK148 := n0_; have HB := n1_; have HO171 := n2_; clear n0_ n1_ n2_; clear ho hb hg hat))
      go_roundg kj40
      case measure => have := HJ1.out; have := HK2.out; have := HK3.out; have := HK4.out; have := HJ40.out; omega
      case rel => exact ⟨(y169), (wrap64 (x6_4 + 1)), zR, H', ⟨by have := HJ1.out; have := HK2.out; have := HK3.out; have := HK4.out; have := HJ40.out; omega⟩, ⟨zkR HO171⟩, ⟨zM BK148⟩, ⟨zB⟩⟩

end Go.Proofs.Ytkfagiojcjnfkaa.PFnExactNestOk
