-- Printed out of the translation by this session's own turned copy of a printer; Lean checks it.
import Derived.Test.YtkfagiojcjnfkaaPFnExactNestOkx0
import Derived.Test.YtkfagiojcjnfkaaPFnExactNestOkx10
import Derived.Test.YtkfagiojcjnfkaaPFnExactNestOkx11
import Derived.Test.YtkfagiojcjnfkaaPFnExactNestOkx12
namespace Go.Proofs.Ytkfagiojcjnfkaa.PFnExactNestOk
open Go.RowKit Go.Proofs.YtkfagiojcjnfkaaW.PrintWords Go.Proofs.YtkfagiojcjnfkaaW.PrintLast Go.Proofs.YtkfagiojcjnfkaaW.PrintMore
attribute [local go_sem] max2_int min2_int max_two min_two max_three min_three max_four min_four   -- for this text's walks alone
set_option linter.unusedVariables false
set_option linter.unusedSimpArgs false

/-! ### impl_Nest_kernelOk: function 93 -/
mutual
def impl_Nest_kernelOk.j0 : Nat → List Bool → Int → Bool → List Int → List Int → List (S125) → List (S132) → List Int → List Int → List (S129) → Int → Int → List Int → Bool → List (S204) → Option (Int × Bool)
  | 0, _, _, _, _, _, _, _, _, _, _, _, _, _, _, _ => none
  | k + 1, x2, x8, x36, x298000, x298001, x298002, x298003, x298004, x299000, x299001, x299002, x299003, x299004, x299005, x299006 => if x36 = true then (some (0, false)) else ((impl_Access.f x299001).bind fun t302 => ((some (([(⟨x299002, x299003, x299004⟩ : S129)] : List (S129)) : List (S129))).bind fun y305 => (if t302.length + y305.length < 3518437208883 then ((some (t302 ++ y305 : List (S129))).bind fun y308 => (impl_Nest_kernelOk.l0 k x2 x8 y308 (y308.length : Int) 0 x298000 x298001 x298002 x298003 x298004 x299000 x299001 x299002 x299003 x299004 x299005 x299006)) else (none))))
def impl_Nest_kernelOk.l0 : Nat → List Bool → Int → List (S129) → Int → Int → List Int → List Int → List (S125) → List (S132) → List Int → List Int → List (S129) → Int → Int → List Int → Bool → List (S204) → Option (Int × Bool)
  | 0, _, _, _, _, _, _, _, _, _, _, _, _, _, _, _, _, _ => none
  | k + 1, x2, x8, x43, x44, x45, x298000, x298001, x298002, x298003, x298004, x299000, x299001, x299002, x299003, x299004, x299005, x299006 => if x45 < x44 then (if 0 ≤ x45 then (if x45 < (x43.length : Int) then (if ((rd_T129 x43 x45).f0) < 0 then (impl_Nest_kernelOk.j2 k x2 x8 x43 x44 x45 true x298000 x298001 x298002 x298003 x298004 x299000 x299001 x299002 x299003 x299004 x299005 x299006) else (if ((rd_T129 x43 x45).f0) ≥ (x298000.length : Int) then (impl_Nest_kernelOk.j2 k x2 x8 x43 x44 x45 true x298000 x298001 x298002 x298003 x298004 x299000 x299001 x299002 x299003 x299004 x299005 x299006) else (if 0 ≤ ((rd_T129 x43 x45).f0) then (if ((rd_T129 x43 x45).f0) < (x298000.length : Int) then ((impl_Access_fitsIn.f k ((rd_T129 x43 x45).f0) ((rd_T129 x43 x45).f1) ((rd_T129 x43 x45).f2) x299000 (rd x298000 ((rd_T129 x43 x45).f0))).bind fun t314 => (impl_Nest_kernelOk.j2 k x2 x8 x43 x44 x45 (!t314) x298000 x298001 x298002 x298003 x298004 x299000 x299001 x299002 x299003 x299004 x299005 x299006)) else (none)) else (none)))) else (none)) else (none)) else (impl_Nest_kernelOk.l1 k x2 x8 x299001 (x299001.length : Int) 0 x299000 x299001 x299002 x299003 x299004 x299005 x299006)
def impl_Nest_kernelOk.j2 : Nat → List Bool → Int → List (S129) → Int → Int → Bool → List Int → List Int → List (S125) → List (S132) → List Int → List Int → List (S129) → Int → Int → List Int → Bool → List (S204) → Option (Int × Bool)
  | 0, _, _, _, _, _, _, _, _, _, _, _, _, _, _, _, _, _, _ => none
  | k + 1, x2, x8, x43, x44, x45, x72, x298000, x298001, x298002, x298003, x298004, x299000, x299001, x299002, x299003, x299004, x299005, x299006 => if x72 = true then (some (0, false)) else (impl_Nest_kernelOk.l0 k x2 x8 x43 x44 (wrap64 (x45 + 1)) x298000 x298001 x298002 x298003 x298004 x299000 x299001 x299002 x299003 x299004 x299005 x299006)
def impl_Nest_kernelOk.l1 : Nat → List Bool → Int → List (S129) → Int → Int → List Int → List (S129) → Int → Int → List Int → Bool → List (S204) → Option (Int × Bool)
  | 0, _, _, _, _, _, _, _, _, _, _, _, _ => none
  | k + 1, x2, x8, x75, x76, x77, x299000, x299001, x299002, x299003, x299004, x299005, x299006 => if x77 < x76 then (if 0 ≤ x77 then (if x77 < (x75.length : Int) then (if ((rd_T129 x75 x77).f0) = x299002 then (some (0, false)) else (impl_Nest_kernelOk.l1 k x2 x8 x75 x76 (wrap64 (x77 + 1)) x299000 x299001 x299002 x299003 x299004 x299005 x299006)) else (none)) else (none)) else (if 0 ≤ x299002 then (if x299002 < (x2.length : Int) then (some (x8, !(rdOf false x2 x299002))) else (none)) else (none))
end
def impl_Nest_kernelOk.f (k : Nat) (l0_0 : List Int) (l0_1 : List Int) (l0_2 : List (S125)) (l0_3 : List (S132)) (l0_4 : List Int) (l1_0 : List Int) (l1_1 : List (S129)) (a1_2 : Int) (a1_3 : Int) (l1_4 : List Int) (a1_5 : Bool) (l1_6 : List (S204)) (l2 : List Bool) : Option (Int × Bool) := (impl_work.f k l1_0).bind fun bt299 => (if bt299.2 = true then (if (l1_1.length : Int) > 30 then (impl_Nest_kernelOk.j0 k l2 bt299.1 true l0_0 l0_1 l0_2 l0_3 l0_4 l1_0 l1_1 a1_2 a1_3 l1_4 a1_5 l1_6) else ((impl_codeOk.f k l1_6 (l1_1.length : Int)).bind fun t301 => (impl_Nest_kernelOk.j0 k l2 bt299.1 (!t301) l0_0 l0_1 l0_2 l0_3 l0_4 l1_0 l1_1 a1_2 a1_3 l1_4 a1_5 l1_6))) else (impl_Nest_kernelOk.j0 k l2 bt299.1 true l0_0 l0_1 l0_2 l0_3 l0_4 l1_0 l1_1 a1_2 a1_3 l1_4 a1_5 l1_6))
theorem impl_Nest_kernelOk.mono_l : ∀ k, (∀ y0 y1 y2 y3 y4 y5 y6 y7 y8 y9 y10 y11 y12 y13 y14, LeO (impl_Nest_kernelOk.j0 k y0 y1 y2 y3 y4 y5 y6 y7 y8 y9 y10 y11 y12 y13 y14) (impl_Nest_kernelOk.j0 (k + 1) y0 y1 y2 y3 y4 y5 y6 y7 y8 y9 y10 y11 y12 y13 y14)) ∧ (∀ y0 y1 y2 y3 y4 y5 y6 y7 y8 y9 y10 y11 y12 y13 y14 y15 y16, LeO (impl_Nest_kernelOk.l0 k y0 y1 y2 y3 y4 y5 y6 y7 y8 y9 y10 y11 y12 y13 y14 y15 y16) (impl_Nest_kernelOk.l0 (k + 1) y0 y1 y2 y3 y4 y5 y6 y7 y8 y9 y10 y11 y12 y13 y14 y15 y16)) ∧ (∀ y0 y1 y2 y3 y4 y5 y6 y7 y8 y9 y10 y11 y12 y13 y14 y15 y16 y17, LeO (impl_Nest_kernelOk.j2 k y0 y1 y2 y3 y4 y5 y6 y7 y8 y9 y10 y11 y12 y13 y14 y15 y16 y17) (impl_Nest_kernelOk.j2 (k + 1) y0 y1 y2 y3 y4 y5 y6 y7 y8 y9 y10 y11 y12 y13 y14 y15 y16 y17)) ∧ (∀ y0 y1 y2 y3 y4 y5 y6 y7 y8 y9 y10 y11, LeO (impl_Nest_kernelOk.l1 k y0 y1 y2 y3 y4 y5 y6 y7 y8 y9 y10 y11) (impl_Nest_kernelOk.l1 (k + 1) y0 y1 y2 y3 y4 y5 y6 y7 y8 y9 y10 y11))
  | 0 => ⟨fun _ _ _ _ _ _ _ _ _ _ _ _ _ _ _ r h => by simp [impl_Nest_kernelOk.j0] at h, fun _ _ _ _ _ _ _ _ _ _ _ _ _ _ _ _ _ r h => by simp [impl_Nest_kernelOk.l0] at h, fun _ _ _ _ _ _ _ _ _ _ _ _ _ _ _ _ _ _ r h => by simp [impl_Nest_kernelOk.j2] at h, fun _ _ _ _ _ _ _ _ _ _ _ _ r h => by simp [impl_Nest_kernelOk.l1] at h⟩
  | k + 1 => by
    obtain ⟨ih0, ih1, ih2, ih3⟩ := impl_Nest_kernelOk.mono_l k
    refine ⟨?_, ?_, ?_, ?_⟩
    all_goals (intros; first | unfold impl_Nest_kernelOk.j0 | unfold impl_Nest_kernelOk.l0 | unfold impl_Nest_kernelOk.j2 | unfold impl_Nest_kernelOk.l1)
    all_goals repeat' first
      | (with_reducible exact ih0 _ _ _ _ _ _ _ _ _ _ _ _ _ _ _)
      | (with_reducible exact ih1 _ _ _ _ _ _ _ _ _ _ _ _ _ _ _ _ _)
      | (with_reducible exact ih2 _ _ _ _ _ _ _ _ _ _ _ _ _ _ _ _ _ _)
      | (with_reducible exact ih3 _ _ _ _ _ _ _ _ _ _ _ _)
      | (with_reducible exact impl_Access_fitsIn.mono _ _ _ _ _ _)
      | (with_reducible exact impl_codeOk.mono _ _ _)
      | (with_reducible exact impl_work.mono _ _)
      | (with_reducible exact LeO.refl _)
      | (with_reducible exact LeO.none _)
      | (with_reducible refine LeO.ite ?_ ?_)
      | (with_reducible refine LeO.bind ?_ (fun _ => ?_))
      | exact ih0 _ _ _ _ _ _ _ _ _ _ _ _ _ _ _
      | exact ih1 _ _ _ _ _ _ _ _ _ _ _ _ _ _ _ _ _
      | exact ih2 _ _ _ _ _ _ _ _ _ _ _ _ _ _ _ _ _ _
      | exact ih3 _ _ _ _ _ _ _ _ _ _ _ _
      | exact impl_Access_fitsIn.mono _ _ _ _ _ _
      | exact impl_codeOk.mono _ _ _
      | exact impl_work.mono _ _
      | exact LeO.none _
      | refine LeO.ite ?_ ?_
      | refine LeO.bind ?_ (fun _ => ?_)
theorem impl_Nest_kernelOk.mono : ∀ a0 a1 a2 a3 a4 a5 a6 a7 a8 a9 a10 a11 a12 k, LeO (impl_Nest_kernelOk.f k a0 a1 a2 a3 a4 a5 a6 a7 a8 a9 a10 a11 a12) (impl_Nest_kernelOk.f (k + 1) a0 a1 a2 a3 a4 a5 a6 a7 a8 a9 a10 a11 a12) := by
  intro a0 a1 a2 a3 a4 a5 a6 a7 a8 a9 a10 a11 a12 k
  obtain ⟨ih0, ih1, ih2, ih3⟩ := impl_Nest_kernelOk.mono_l k
  unfold impl_Nest_kernelOk.f
  repeat' first
      | (with_reducible exact ih0 _ _ _ _ _ _ _ _ _ _ _ _ _ _ _)
      | (with_reducible exact ih1 _ _ _ _ _ _ _ _ _ _ _ _ _ _ _ _ _)
      | (with_reducible exact ih2 _ _ _ _ _ _ _ _ _ _ _ _ _ _ _ _ _ _)
      | (with_reducible exact ih3 _ _ _ _ _ _ _ _ _ _ _ _)
      | (with_reducible exact impl_Access_fitsIn.mono _ _ _ _ _ _)
      | (with_reducible exact impl_codeOk.mono _ _ _)
      | (with_reducible exact impl_work.mono _ _)
      | (with_reducible exact LeO.refl _)
      | (with_reducible exact LeO.none _)
      | (with_reducible refine LeO.ite ?_ ?_)
      | (with_reducible refine LeO.bind ?_ (fun _ => ?_))
      | exact ih0 _ _ _ _ _ _ _ _ _ _ _ _ _ _ _
      | exact ih1 _ _ _ _ _ _ _ _ _ _ _ _ _ _ _ _ _
      | exact ih2 _ _ _ _ _ _ _ _ _ _ _ _ _ _ _ _ _ _
      | exact ih3 _ _ _ _ _ _ _ _ _ _ _ _
      | exact impl_Access_fitsIn.mono _ _ _ _ _ _
      | exact impl_codeOk.mono _ _ _
      | exact impl_work.mono _ _
      | exact LeO.none _
      | refine LeO.ite ?_ ?_
      | refine LeO.bind ?_ (fun _ => ?_)
def impl_Nest_kernelOk.T4 : Bool × List (List Nat × List Nat) := (true, [([], []), ([0], [0]), ([1], [1]), ([], []), ([3], [3]), ([4], [4]), ([2, 5, 2], [2, 5]), ([6], [6]), ([], [])])
def impl_Nest_kernelOk.B4 : List Nat := [0, 1, 3, 0, 8, 24, 63, 127, 0]
theorem impl_Nest_kernelOk.tab4 : rtab .any (opsOf Try.f93 4) = impl_Nest_kernelOk.T4 := by kernel_rfl
theorem impl_Nest_kernelOk.bits4 : waitsOk impl_Nest_kernelOk.T4.2 impl_Nest_kernelOk.B4 = true := by kernel_rfl
def impl_Nest_kernelOk.T7 : Bool × List (List Nat × List Nat) := (true, [([], []), ([0], [0]), ([1], [1]), ([2], [2]), ([3], [3]), ([4, 3], [3, 4]), ([3], [3]), ([6, 3], [3, 6]), ([7, 3], [3, 7]), ([5, 8, 3], [3, 5, 8]), ([3, 9], [3, 9]), ([10, 3], [10]), ([11], [11]), ([11], [11]), ([13, 11], [11, 13]), ([11], [11]), ([15, 11], [11, 15]), ([11], [11]), ([17, 11], [11, 17]), ([16, 18, 11], [11, 16, 18]), ([19, 11], [11, 19]), ([12, 14, 20, 11, 11], [11, 12, 14, 20]), ([21, 11], [11, 21]), ([11, 22], [11, 22])])
def impl_Nest_kernelOk.B7 : List Nat := [0, 1, 3, 7, 15, 31, 15, 79, 207, 511, 1023, 2047, 4095, 4095, 12287, 4095, 36863, 4095, 135167, 495615, 1019903, 2097151, 4194303, 8388607]
theorem impl_Nest_kernelOk.tab7 : rtab .any (opsOf Try.f93 7) = impl_Nest_kernelOk.T7 := by kernel_rfl
theorem impl_Nest_kernelOk.bits7 : waitsOk impl_Nest_kernelOk.T7.2 impl_Nest_kernelOk.B7 = true := by kernel_rfl
def impl_Nest_kernelOk.T16 : Bool × List (List Nat × List Nat) := (true, [([], []), ([], []), ([], []), ([2], [2]), ([3], [3]), ([1, 4], [1, 4]), ([5], [5]), ([6], [6]), ([0, 0], [0]), ([7, 8, 0, 1, 2, 3, 4, 5, 6, 7, 8], [7])])
def impl_Nest_kernelOk.B16 : List Nat := [0, 0, 0, 4, 12, 30, 62, 126, 1, 511]
theorem impl_Nest_kernelOk.tab16 : rtab .any (opsOf Try.f93 16) = impl_Nest_kernelOk.T16 := by kernel_rfl
theorem impl_Nest_kernelOk.bits16 : waitsOk impl_Nest_kernelOk.T16.2 impl_Nest_kernelOk.B16 = true := by kernel_rfl
set_option maxHeartbeats 8000000 in
set_option maxRecDepth 100000 in
theorem impl_Nest_kernelOk.calls (k : Nat) (A0_0 : Option Addr) (c0_0 : Nat) (l0_0 : List Int) (A0_1 : Option Addr) (c0_1 : Nat) (l0_1 : List Int) (A0_2 : Option Addr) (c0_2 : Nat) (l0_2 : List (S125)) (A0_3 : Option Addr) (c0_3 : Nat) (l0_3 : List (S132)) (A0_4 : Option Addr) (c0_4 : Nat) (l0_4 : List Int) (A1_0 : Option Addr) (c1_0 : Nat) (l1_0 : List Int) (P1_1_ : Nat → Prop) (A1_1 : Option Addr) (c1_1 : Nat) (l1_1 : List (S129)) (a1_2 : Int) (a1_3 : Int) (P1_4_ : Nat → Prop) (A1_4 : Option Addr) (c1_4 : Nat) (l1_4 : List Int) (a1_5 : Bool) (A1_6 : Option Addr) (c1_6 : Nat) (l1_6 : List (S204)) (A2 : Option Addr) (c2 : Nat) (l2 : List Bool) (r1 : Int) (r2 : Bool) (w : World) (hr0_0 : Kd.C (Kd.int .i64) w A0_0 l0_0.length l0_0) (hc0_0 : l0_0.length ≤ c0_0) (hr0_1 : Kd.C (Kd.int .i64) w A0_1 l0_1.length l0_1) (hc0_1 : l0_1.length ≤ c0_1) (hr0_2 : Kd.C k125 w A0_2 l0_2.length l0_2) (hc0_2 : l0_2.length ≤ c0_2) (hr0_3 : Kd.C k132 w A0_3 l0_3.length l0_3) (hc0_3 : l0_3.length ≤ c0_3) (hr0_4 : Kd.C (Kd.int .i64) w A0_4 l0_4.length l0_4) (hc0_4 : l0_4.length ≤ c0_4) (hr1_0 : Kd.C (Kd.int .i64) w A1_0 l1_0.length l1_0) (hc1_0 : l1_0.length ≤ c1_0) (hs1_1 : Kd.V k129 129 w w.heap.size (fun k_ => P1_1_ k_) (.slice A1_1 l1_1.length c1_1) l1_1) (hs1_4 : Kd.V (Kd.int .i64) 3 w w.heap.size (fun k_ => P1_4_ k_) (.slice A1_4 l1_4.length c1_4) l1_4) (hr1_6 : Kd.C k204 w A1_6 l1_6.length l1_6) (hc1_6 : l1_6.length ≤ c1_6) (hr2 : Kd.C Kd.bool w A2 l2.length l2) (hc2 : l2.length ≤ c2) (h : impl_Nest_kernelOk.f k l0_0 l0_1 l0_2 l0_3 l0_4 l1_0 l1_1 a1_2 a1_3 l1_4 a1_5 l1_6 l2 = some (r1, r2)) :
    Calls Try.prog 93 #[.agg #[.slice A0_0 l0_0.length c0_0, .slice A0_1 l0_1.length c0_1, .slice A0_2 l0_2.length c0_2, .slice A0_3 l0_3.length c0_3, .slice A0_4 l0_4.length c0_4], .agg #[.slice A1_0 l1_0.length c1_0, .slice A1_1 l1_1.length c1_1, .int .i64 a1_2, .int .i64 a1_3, .slice A1_4 l1_4.length c1_4, .bool a1_5, .slice A1_6 l1_6.length c1_6], .slice A2 l2.length c2] w fun e w' => e = .returned (.tuple #[.int .i64 r1, .bool r2]) ∧ Below w.heap.size w w' := by
  have hu70 := Try.underlying70
  have hu132 := Try.underlying132
  have hu129 := Try.underlying129
  have HR0_0 := zK hr0_0
  have HC0_0 := zK hc0_0
  clear hr0_0 hc0_0
  have HR0_1 := zK hr0_1
  have HC0_1 := zK hc0_1
  clear hr0_1 hc0_1
  have HR0_2 := zK hr0_2
  have HC0_2 := zK hc0_2
  clear hr0_2 hc0_2
  have HR0_3 := zK hr0_3
  have HC0_3 := zK hc0_3
  clear hr0_3 hc0_3
  have HR0_4 := zK hr0_4
  have HC0_4 := zK hc0_4
  clear hr0_4 hc0_4
  have HR1_0 := zK hr1_0
  have HC1_0 := zK hc1_0
  clear hr1_0 hc1_0
  have HO1_1 := zK (show Kd.V k129 129 w w.heap.size (fun k_ => ((P1_1_ k_ ∨ P1_4_ k_) ∨ w.heap.size ≤ k_)) (.slice A1_1 l1_1.length c1_1) l1_1 from Kd.V_mono hs1_1 (fun k_ hk => .inl (.inl hk)))
  have HO1_4 := zK (show Kd.V (Kd.int .i64) 3 w w.heap.size (fun k_ => ((P1_1_ k_ ∨ P1_4_ k_) ∨ w.heap.size ≤ k_)) (.slice A1_4 l1_4.length c1_4) l1_4 from Kd.V_mono hs1_4 (fun k_ hk => .inl (.inr hk)))
  have HR1_6 := zK hr1_6
  have HC1_6 := zK hc1_6
  clear hr1_6 hc1_6
  have HR2 := zK hr2
  have HC2 := zK hc2
  clear hr2 hc2
  have HB := zK (Below.refl w.heap.size w)
  have H : ((impl_work.f k l1_0).bind fun bt299 => (if bt299.2 = true then (if (l1_1.length : Int) > 30 then (impl_Nest_kernelOk.j0 k l2 bt299.1 true l0_0 l0_1 l0_2 l0_3 l0_4 l1_0 l1_1 a1_2 a1_3 l1_4 a1_5 l1_6) else ((impl_codeOk.f k l1_6 (l1_1.length : Int)).bind fun t301 => (impl_Nest_kernelOk.j0 k l2 bt299.1 (!t301) l0_0 l0_1 l0_2 l0_3 l0_4 l1_0 l1_1 a1_2 a1_3 l1_4 a1_5 l1_6))) else (impl_Nest_kernelOk.j0 k l2 bt299.1 true l0_0 l0_1 l0_2 l0_3 l0_4 l1_0 l1_1 a1_2 a1_3 l1_4 a1_5 l1_6))) = some (r1, r2) := h
  clear h
  replace H := Option.bind_eq_some_iff.mp H
  obtain ⟨⟨t299, t300⟩, A40, H⟩ := H
  replace H : (if t300 = true then (if (l1_1.length : Int) > 30 then (impl_Nest_kernelOk.j0 k l2 t299 true l0_0 l0_1 l0_2 l0_3 l0_4 l1_0 l1_1 a1_2 a1_3 l1_4 a1_5 l1_6) else ((impl_codeOk.f k l1_6 (l1_1.length : Int)).bind fun t301 => (impl_Nest_kernelOk.j0 k l2 t299 (!t301) l0_0 l0_1 l0_2 l0_3 l0_4 l1_0 l1_1 a1_2 a1_3 l1_4 a1_5 l1_6))) else (impl_Nest_kernelOk.j0 k l2 t299 true l0_0 l0_1 l0_2 l0_3 l0_4 l1_0 l1_1 a1_2 a1_3 l1_4 a1_5 l1_6)) = some (r1, r2) := H
  have A4 := zK A40
  clear A40
  have HC5 := zK H
  clear H
  go_enter Try.func93, Try.ntmps93
  go_upto_region 2 with (first | ((with_reducible refine gate_dst (N := 3) rfl ?_); (try (refine gate_guard (by rfl) ?_; dsimp only)); refine zJ 3 #[.slice A0_0 l0_0.length c0_0, .slice A0_1 l0_1.length c0_1, .slice A0_2 l0_2.length c0_2, .slice A0_3 l0_3.length c0_3, .slice A0_4 l0_4.length c0_4] 70 ?_; intro gb297 hg w6 hbox hb; have n0_ := zK (Kd.V_below (Kd.V_elderB (zkV HO1_1) gb297 (Nat.le_of_eq hg.symm)) hb); have n1_ := zK (Kd.V_below (Kd.V_elderB (zkV HO1_4) gb297 (Nat.le_of_eq hg.symm)) hb); have n2_ := zK (zp zB hb); have n3_ := zK (hbox); have n4_ := zK (zI hg zB); have n5_ := zK (zI hg zB); clear HO1_1; clear HO1_4; clear HB; have HO1_1 := n0_; have HO1_4 := n1_; have HB := n2_; have BK297 := n3_; have GW297 := n4_; have GE297 := n5_; clear n0_ n1_ n2_ n3_ n4_ n5_; clear hb hbox hg) | ((with_reducible refine gate_dst (N := 4) rfl ?_); (try (refine gate_guard (by rfl) ?_; dsimp only)); refine zJ 4 #[.slice A1_0 l1_0.length c1_0, .slice A1_1 l1_1.length c1_1, .int .i64 a1_2, .int .i64 a1_3, .slice A1_4 l1_4.length c1_4, .bool a1_5, .slice A1_6 l1_6.length c1_6] 132 ?_; intro gb298 hg w7 hbox hb; have n0_ := zK (Kd.V_below (Kd.V_elderB (zkV HO1_1) gb298 (Nat.le_of_eq hg.symm)) hb); have n1_ := zK (Kd.V_below (Kd.V_elderB (zkV HO1_4) gb298 (Nat.le_of_eq hg.symm)) hb); have n2_ := zK (zg (zM BK297) hb); have n3_ := zK (zp zB hb); have n4_ := zK (hbox); have n5_ := zK (zI hg zB); have n6_ := zK (zI hg zB); have n7_ := zK (zH hg (zM BK297)); have n8_ := zK (zG hg (zM BK297)); clear HO1_1; clear HO1_4; clear BK297; clear HB; have HO1_1 := n0_; have HO1_4 := n1_; have BK297 := n2_; have HB := n3_; have BK298 := n4_; have GW298 := n5_; have GE298 := n6_; have NB297_298 := n7_; have NB298_297 := n8_; clear n0_ n1_ n2_ n3_ n4_ n5_ n6_ n7_ n8_; clear hb hbox hg; have hnb8 := NB298_297.out; have hnc8 := NB297_298.out; obtain ⟨hcz9_0, hcz9_1, hcz9_2, hcz9_3, hcz9_4, hcz9_5, hcz9_6, hfz9_0, hfz9_1, hfz9_2, hfz9_3, hfz9_4, hfz9_5, hfz9_6⟩ := zc7 BK298) | ((with_reducible refine gate_callee (f := 151) rfl ?_); refine zF 17 Try.func151 #[.slice A1_0 l1_0.length c1_0] rfl zL ?_; (with_reducible refine (impl_work.calls k _ _ l1_0 t299 t300 _ ?side1 ?side2 A4.out).mono ?_); (case side1 => exact zC (Kd.C_below HR1_0.out HB.out)); (case side2 => exact HC1_0.out); rintro e w' ⟨rfl, ⟨nd, rfl⟩⟩; refine ⟨_, rfl, ?_⟩))
  (try simp only [Act.put, zq1, zq2, zq3])
  go_cut [36] (fun v36 wc => ∃ (kq : Nat) (x36_4 : Bool), v36 = .bool x36_4 ∧ Aside0 (impl_Nest_kernelOk.j0 kq l2 t299 x36_4 l0_0 l0_1 l0_2 l0_3 l0_4 l1_0 l1_1 a1_2 a1_3 l1_4 a1_5 l1_6 = some (r1, r2)) ∧ Aside0 (kq ≤ k) ∧ Aside0 (Kd.V k129 129 wc w.heap.size (fun k_ => ((P1_1_ k_ ∨ P1_4_ k_) ∨ w.heap.size ≤ k_) ∧ k_ ≠ gb297 ∧ k_ ≠ gb298) (.slice A1_1 l1_1.length c1_1) l1_1) ∧ Aside0 (Kd.V (Kd.int .i64) 3 wc w.heap.size (fun k_ => ((P1_1_ k_ ∨ P1_4_ k_) ∨ w.heap.size ≤ k_) ∧ k_ ≠ gb297 ∧ k_ ≠ gb298) (.slice A1_4 l1_4.length c1_4) l1_4) ∧ Aside0 (wc.heap[gb297]? = some (.cells #[(.slice A0_0 l0_0.length c0_0), (.slice A0_1 l0_1.length c0_1), (.slice A0_2 l0_2.length c0_2), (.slice A0_3 l0_3.length c0_3), (.slice A0_4 l0_4.length c0_4)] 70 (0, 0))) ∧ Aside0 (wc.heap[gb298]? = some (.cells #[(.slice A1_0 l1_0.length c1_0), (.slice A1_1 l1_1.length c1_1), .int .i64 a1_2, .int .i64 a1_3, (.slice A1_4 l1_4.length c1_4), .bool a1_5, (.slice A1_6 l1_6.length c1_6)] 132 (0, 0))) ∧ Aside0 (Below w.heap.size w wc))
  case first =>
   have H := HC5.out
   clear HC5
   by_cases c10 : t300 = true
   rotate_left
   · replace c10 := Bool.eq_false_iff.mpr c10
     subst c10
     have H1 : (impl_Nest_kernelOk.j0 k l2 t299 true l0_0 l0_1 l0_2 l0_3 l0_4 l1_0 l1_1 a1_2 a1_3 l1_4 a1_5 l1_6) = some (r1, r2) := by rw [if_neg (show ¬ (false = true) by decide)] at H; exact H
     clear H
     have H := H1
     clear H1
     have H' := zK H
     clear H
     go_wp2
     go_meet
     case rel => exact ⟨_, (true), zR, H', ⟨by first | omega | exact Nat.le_refl _⟩, ⟨by (with_reducible repeat (first | apply Kd.V_alloc | apply Kd.V_drewN | apply Kd.V_drew)); exact Kd.V_mono HO1_1.out (fun _ hk => ⟨hk.1.1, ⟨hk.1.2, hk.2⟩⟩)⟩, ⟨by (with_reducible repeat (first | apply Kd.V_alloc | apply Kd.V_drewN | apply Kd.V_drew)); exact Kd.V_mono HO1_4.out (fun _ hk => ⟨hk.1.1, ⟨hk.1.2, hk.2⟩⟩)⟩, ⟨zM BK297⟩, ⟨zM BK298⟩, ⟨zB⟩⟩
   subst c10
   have H1 : (if (l1_1.length : Int) > 30 then (impl_Nest_kernelOk.j0 k l2 t299 true l0_0 l0_1 l0_2 l0_3 l0_4 l1_0 l1_1 a1_2 a1_3 l1_4 a1_5 l1_6) else ((impl_codeOk.f k l1_6 (l1_1.length : Int)).bind fun t301 => (impl_Nest_kernelOk.j0 k l2 t299 (!t301) l0_0 l0_1 l0_2 l0_3 l0_4 l1_0 l1_1 a1_2 a1_3 l1_4 a1_5 l1_6))) = some (r1, r2) := by rw [if_pos rfl] at H; exact H
   clear H
   have H := H1
   clear H1
   by_cases c11 : (l1_1.length : Int) > 30
   · as_aux_lemma =>
     rw [if_pos c11] at H
     have c11b0 : decide (30 < (l1_1.length : Int)) = true := decide_eq_true c11
     have c11b1 : decide (30 < l1_1.length) = true := decide_eq_true (by omega)
     clear c11
     (first | rw [c11b0] | (simp only [i64_w, i32_w]; rw [c11b0]) | skip)
     have H' := zK H
     clear H
     have hnb12 := NB298_297.out
     have hnc12 := NB297_298.out
     obtain ⟨hcz13_0, hcz13_1, hcz13_2, hcz13_3, hcz13_4, hcz13_5, hcz13_6, hfz13_0, hfz13_1, hfz13_2, hfz13_3, hfz13_4, hfz13_5, hfz13_6⟩ := zc7 BK298
     go_wp2
     go_meet
     case rel => exact ⟨_, (true), zR, H', ⟨by first | omega | exact Nat.le_refl _⟩, ⟨by (with_reducible repeat (first | apply Kd.V_alloc | apply Kd.V_drewN | apply Kd.V_drew)); exact Kd.V_mono HO1_1.out (fun _ hk => ⟨hk.1.1, ⟨hk.1.2, hk.2⟩⟩)⟩, ⟨by (with_reducible repeat (first | apply Kd.V_alloc | apply Kd.V_drewN | apply Kd.V_drew)); exact Kd.V_mono HO1_4.out (fun _ hk => ⟨hk.1.1, ⟨hk.1.2, hk.2⟩⟩)⟩, ⟨zM BK297⟩, ⟨zM BK298⟩, ⟨zB⟩⟩
   rw [if_neg c11] at H
   have c11b0 : decide (30 < (l1_1.length : Int)) = false := decide_eq_false c11
   have c11b1 : decide (30 < l1_1.length) = false := decide_eq_false (by omega)
   clear c11
   (first | rw [c11b0] | (simp only [i64_w, i32_w]; rw [c11b0]) | skip)
   replace H := Option.bind_eq_some_iff.mp H
   obtain ⟨t301, A140, H⟩ := H
   replace H : (impl_Nest_kernelOk.j0 k l2 t299 (!t301) l0_0 l0_1 l0_2 l0_3 l0_4 l1_0 l1_1 a1_2 a1_3 l1_4 a1_5 l1_6) = some (r1, r2) := H
   have A14 := zK A140
   clear A140
   have H' := zK H
   clear H
   have hnb15 := NB298_297.out
   have hnc15 := NB297_298.out
   obtain ⟨hcz16_0, hcz16_1, hcz16_2, hcz16_3, hcz16_4, hcz16_5, hcz16_6, hfz16_0, hfz16_1, hfz16_2, hfz16_3, hfz16_4, hfz16_5, hfz16_6⟩ := zc7 BK298
   go_wp2_with (first | (go_at_call 152; (with_reducible refine (impl_codeOk.calls k _ _ l1_6 (l1_1.length : Int) t301 _ ?side1 ?side2 A14.out).mono ?_); (case side1 => exact zC (Kd.C_below HR1_6.out HB.out)); (case side2 => exact HC1_6.out); rintro e w17 ⟨rfl, hb⟩; have n0_ := zK (Kd.V_below (zkV HO1_1) hb); have n1_ := zK (Kd.V_below (zkV HO1_4) hb); have n2_ := zK (zg (zM BK297) hb); have n3_ := zK (zg (zM BK298) hb); have n4_ := zK (zp zB hb); clear HO1_1; clear HO1_4; clear BK297; clear BK298; clear HB; have HO1_1 := n0_; have HO1_4 := n1_; have BK297 := n2_; have BK298 := n3_; have HB := n4_; clear n0_ n1_ n2_ n3_ n4_; (try clear hb); (try clear hb2); (try clear hk); (try clear hi)))
   go_meet
   case rel => exact ⟨_, (!t301), zR, H', ⟨by first | omega | exact Nat.le_refl _⟩, ⟨by (with_reducible repeat (first | apply Kd.V_alloc | apply Kd.V_drewN | apply Kd.V_drew)); exact Kd.V_mono HO1_1.out (fun _ hk => ⟨hk.1.1, ⟨hk.1.2, hk.2⟩⟩)⟩, ⟨by (with_reducible repeat (first | apply Kd.V_alloc | apply Kd.V_drewN | apply Kd.V_drew)); exact Kd.V_mono HO1_4.out (fun _ hk => ⟨hk.1.1, ⟨hk.1.2, hk.2⟩⟩)⟩, ⟨zM BK297⟩, ⟨zM BK298⟩, ⟨zB⟩⟩
  case rest =>
   clear HC5
   try clear c1
   try clear c2
   try clear p2
   try clear c8
   try clear c9
   try clear c10
   try clear c11
   try clear c11b0
   try clear c11b1
   try clear c12
   try clear c15
   try clear hcz13_0 hcz13_1 hcz13_2 hcz13_3 hcz13_4 hcz13_5 hcz13_6 hfz13_0 hfz13_1 hfz13_2 hfz13_3 hfz13_4 hfz13_5 hfz13_6
   try clear hcz16_0 hcz16_1 hcz16_2 hcz16_3 hcz16_4 hcz16_5 hcz16_6 hfz16_0 hfz16_1 hfz16_2 hfz16_3 hfz16_4 hfz16_5 hfz16_6
   try clear hcz9_0 hcz9_1 hcz9_2 hcz9_3 hcz9_4 hcz9_5 hcz9_6 hfz9_0 hfz9_1 hfz9_2 hfz9_3 hfz9_4 hfz9_5 hfz9_6
   obtain ⟨kq, x36_4, rfl, HA, HJ4, HO_299001, HO_299004, BK297, BK298, HB⟩ := hcut
   cases kq with
   | zero => exact absurd HA.out (by simp [impl_Nest_kernelOk.j0])
   | succ kj4 =>
    have H := HA.out
    clear HA
    simp only [impl_Nest_kernelOk.j0] at H
    by_cases c18 : x36_4 = true
    · subst c18
      have H1 : (some (0, false)) = some (r1, r2) := by rw [if_pos rfl] at H; exact H
      clear H
      have H := H1
      clear H1
      simp only [Option.some.injEq, Prod.mk.injEq] at H
      obtain ⟨rfl, rfl⟩ := H
      go_wp2
      go_ret2
      exact ⟨zE, zB⟩
    replace c18 := Bool.eq_false_iff.mpr c18
    subst c18
    have H1 : ((impl_Access.f l1_1).bind fun t302 => ((some (([(⟨a1_2, a1_3, l1_4⟩ : S129)] : List (S129)) : List (S129))).bind fun y305 => (if t302.length + y305.length < 3518437208883 then ((some (t302 ++ y305 : List (S129))).bind fun y308 => (impl_Nest_kernelOk.l0 kj4 l2 t299 y308 (y308.length : Int) 0 l0_0 l0_1 l0_2 l0_3 l0_4 l1_0 l1_1 a1_2 a1_3 l1_4 a1_5 l1_6)) else (none)))) = some (r1, r2) := by rw [if_neg (show ¬ (false = true) by decide)] at H; exact H
    clear H
    have H := H1
    clear H1
    replace H := Option.bind_eq_some_iff.mp H
    obtain ⟨t302, A190, H⟩ := H
    replace H : ((some (([(⟨a1_2, a1_3, l1_4⟩ : S129)] : List (S129)) : List (S129))).bind fun y305 => (if t302.length + y305.length < 3518437208883 then ((some (t302 ++ y305 : List (S129))).bind fun y308 => (impl_Nest_kernelOk.l0 kj4 l2 t299 y308 (y308.length : Int) 0 l0_0 l0_1 l0_2 l0_3 l0_4 l1_0 l1_1 a1_2 a1_3 l1_4 a1_5 l1_6)) else (none))) = some (r1, r2) := H
    have A19 := zK A190
    clear A190
    obtain ⟨y305, hy305⟩ : ∃ y_ : List (S129), y_ = (([(⟨a1_2, a1_3, l1_4⟩ : S129)] : List (S129))) := ⟨_, rfl⟩
    replace H : (if t302.length + y305.length < 3518437208883 then ((some (t302 ++ y305 : List (S129))).bind fun y308 => (impl_Nest_kernelOk.l0 kj4 l2 t299 y308 (y308.length : Int) 0 l0_0 l0_1 l0_2 l0_3 l0_4 l1_0 l1_1 a1_2 a1_3 l1_4 a1_5 l1_6)) else (none)) = some (r1, r2) := by first | (rw [hy305]; with_reducible exact H) | (have H2_ := (Option.bind_some _ _).symm.trans H; rw [hy305]; with_reducible exact H2_) | (have H2_ := (Option.bind_some _ _).symm.trans H; with_reducible exact H2_) | with_reducible exact H | (rw [hy305]; exact H) | exact H
    have Ny305 := zK hy305
    clear hy305
    by_cases c20 : t302.length + y305.length < 3518437208883
    rotate_left
    · rw [if_neg c20] at H
      exact absurd H (by simp)
    rw [if_pos c20] at H
    have LMc20 := zK c20
    clear c20
    obtain ⟨y308, hy308⟩ : ∃ y_ : List (S129), y_ = (t302 ++ y305) := ⟨_, rfl⟩
    replace H : (impl_Nest_kernelOk.l0 kj4 l2 t299 y308 (y308.length : Int) 0 l0_0 l0_1 l0_2 l0_3 l0_4 l1_0 l1_1 a1_2 a1_3 l1_4 a1_5 l1_6) = some (r1, r2) := by first | (rw [hy308]; with_reducible exact H) | (have H2_ := (Option.bind_some _ _).symm.trans H; rw [hy308]; with_reducible exact H2_) | (have H2_ := (Option.bind_some _ _).symm.trans H; with_reducible exact H2_) | with_reducible exact H | (rw [hy308]; exact H) | exact H
    have Ny308 := zK hy308
    clear hy308
    have H' := zK H
    clear H
    try go_wp2
    have n0_ := zK (Kd.V_drew HO_299001.out)
    have n1_ := zK (Kd.V_drew HO_299004.out)
    have n2_ := zK (zd BK297.out)
    have n3_ := zK (zd BK298.out)
    have n4_ := zK (ze HB.out)
    clear HO_299001
    clear HO_299004
    clear BK297
    clear BK298
    clear HB
    have HO_299001 := n0_
    have HO_299004 := n1_
    have BK297 := n2_
    have BK298 := n3_
    have HB := n4_
    clear n0_ n1_ n2_ n3_ n4_
    refine start_ (n := 9) (S := fun w' => w'.cell? ⟨gb298, 0, none⟩ = some (.slice A1_0 l1_0.length c1_0) ∧ w'.cell? ⟨gb298, 1, none⟩ = some (.slice A1_1 l1_1.length c1_1) ∧ w'.cell? ⟨gb298, 2, none⟩ = some (.int .i64 a1_2) ∧ w'.cell? ⟨gb298, 3, none⟩ = some (.int .i64 a1_3) ∧ w'.cell? ⟨gb298, 4, none⟩ = some (.slice A1_4 l1_4.length c1_4) ∧ w'.cell? ⟨gb298, 5, none⟩ = some (.bool a1_5) ∧ w'.cell? ⟨gb298, 6, none⟩ = some (.slice A1_6 l1_6.length c1_6)) (ds := []) (bl 9 0) (by kernel_rfl) rfl (by kernel_rfl) ⟨zy BK298 0, zy BK298 1, zy BK298 2, zy BK298 3, zy BK298 4, zy BK298 5, zy BK298 6⟩ (fun hHeld => ?_); refine with_tabW impl_Nest_kernelOk.tab4 impl_Nest_kernelOk.bits4 (fun HT_ HW_ => ?_)
    generalize wc.drew = w21 at HO_299001 HO_299004 BK297 BK298 HB hHeld ⊢
    refine zP 0 37 (bl 9 1) HT_ ?_
    refine zP 3 40 (bl 9 9) HT_ ?_
    refine zP 8 45 (bl 9 265) HT_ ?_
    refine zT 1 38 (bl 9 267) rfl rfl HT_ HW_ hHeld (by rintro w' ⟨s0, s1, s2, s3, s4, s5, s6⟩; go_simp; with_reducible rfl) ?_
    refine zT 4 41 (bl 9 283) rfl rfl HT_ HW_ hHeld (by rintro w' ⟨s0, s1, s2, s3, s4, s5, s6⟩; go_simp; with_reducible rfl) ?_
    refine join_ (σ := Value × Value) 2 (bl 9 319) (fun s_ => [(39, s_.1), (42, s_.2)]) (fun s_ w' => (w'.cell? ⟨gb298, 0, none⟩ = some (.slice A1_0 l1_0.length c1_0) ∧ w'.cell? ⟨gb298, 1, none⟩ = some (.slice A1_1 l1_1.length c1_1) ∧ w'.cell? ⟨gb298, 2, none⟩ = some (.int .i64 a1_2) ∧ w'.cell? ⟨gb298, 3, none⟩ = some (.int .i64 a1_3) ∧ w'.cell? ⟨gb298, 4, none⟩ = some (.slice A1_4 l1_4.length c1_4) ∧ w'.cell? ⟨gb298, 5, none⟩ = some (.bool a1_5) ∧ w'.cell? ⟨gb298, 6, none⟩ = some (.slice A1_6 l1_6.length c1_6)) ∧ (Kd.N k129 129 w' w.heap.size (fun k_ => ((P1_1_ k_ ∨ P1_4_ k_) ∨ w.heap.size ≤ k_) ∧ some k_ ≠ (s_.2 : Value).ownBlock ∧ k_ ≠ gb297 ∧ k_ ≠ gb298) s_.1 t302) ∧ (Kd.N k129 129 w' w.heap.size (fun k_ => ((P1_1_ k_ ∨ P1_4_ k_) ∨ w.heap.size ≤ k_) ∧ some k_ ≠ (s_.1 : Value).ownBlock ∧ k_ ≠ gb297 ∧ k_ ≠ gb298) s_.2 y305) ∧ (Kd.V k129 129 w' w.heap.size (fun k_ => ((P1_1_ k_ ∨ P1_4_ k_) ∨ w.heap.size ≤ k_) ∧ some k_ ≠ (s_.1 : Value).ownBlock ∧ some k_ ≠ (s_.2 : Value).ownBlock ∧ k_ ≠ gb297 ∧ k_ ≠ gb298) (.slice A1_1 l1_1.length c1_1) l1_1) ∧ (Kd.V (Kd.int .i64) 3 w' w.heap.size (fun k_ => ((P1_1_ k_ ∨ P1_4_ k_) ∨ w.heap.size ≤ k_) ∧ some k_ ≠ (s_.1 : Value).ownBlock ∧ some k_ ≠ (s_.2 : Value).ownBlock ∧ k_ ≠ gb297 ∧ k_ ≠ gb298) (.slice A1_4 l1_4.length c1_4) l1_4) ∧ (w'.heap[gb297]? = some (.cells #[.slice A0_0 l0_0.length c0_0, .slice A0_1 l0_1.length c0_1, .slice A0_2 l0_2.length c0_2, .slice A0_3 l0_3.length c0_3, .slice A0_4 l0_4.length c0_4] 70 (0, 0))) ∧ (w'.heap[gb298]? = some (.cells #[.slice A1_0 l1_0.length c1_0, .slice A1_1 l1_1.length c1_1, .int .i64 a1_2, .int .i64 a1_3, .slice A1_4 l1_4.length c1_4, .bool a1_5, .slice A1_6 l1_6.length c1_6] 132 (0, 0))) ∧ (Below w.heap.size w w')) ?_ ?_
    rotate_left
    · as_aux_lemma =>
      intro hCont
      refine two_ (i := 2) (j := 5) (Ni := some 39) (Nj := some 42) (bl 9 287) (bl 9 315) rfl rfl rfl rfl (two_of HT_.out (by kernel_rfl)) (by decide) (by decide) (fun K hK => ?_) (fun K hK => ?_)
      · as_aux_lemma =>
        skip
        refine goes_ Try.func153 (by kernel_rfl) rfl #[.slice A1_1 l1_1.length c1_1] (by rfl) rfl rfl zL ?_
        with_reducible refine (impl_Access.calls (fun k_ => (((P1_1_ k_ ∨ P1_4_ k_) ∨ w.heap.size ≤ k_) ∧ (k_ ≠ gb297 ∧ k_ ≠ gb298))) _ _ l1_1 t302 _ ?side1 A19.out).mono ?_
        (case side1 => exact HO_299001.out)
        rintro e w22 ⟨v303, rfl, ho0, hb⟩
        refine ⟨_, rfl, ?_⟩
        have n0_ := zK (Kd.V_elder' (zkV HO_299001) (Kd.N_base ho0) hb)
        have n1_ := zK (Kd.V_elder' (zkV HO_299004) (Kd.N_base ho0) hb)
        have n2_ := zK (Kd.N_lower (Kd.N_mono (ok' := fun k_ => ((P1_1_ k_ ∨ P1_4_ k_) ∨ w.heap.size ≤ k_) ∧ k_ ≠ gb297 ∧ k_ ≠ gb298) ho0 (fun k_ hk_ => ⟨Or.elim hk_ (fun hs_ => hs_.1) (fun hn_ => (.inr (Nat.le_trans (zz zB) hn_))), Or.elim hk_ (fun hs_ => hs_.2.1) (fun hn_ => (Kd.freshB (zM BK297) k_ hn_)), Or.elim hk_ (fun hs_ => hs_.2.2) (fun hn_ => (Kd.freshB (zM BK298) k_ hn_))⟩)) (zz zB))
        have n3_ := zK (zg (zM BK297) hb)
        have n4_ := zK (zg (zM BK298) hb)
        have n5_ := zK (zp zB hb)
        clear HO_299001
        clear HO_299004
        clear BK297
        clear BK298
        clear HB
        have HO_299001 := n0_
        have HO_299004 := n1_
        have HO304 := n2_
        have BK297 := n3_
        have BK298 := n4_
        have HB := n5_
        clear n0_ n1_ n2_ n3_ n4_ n5_
        (try clear hb)
        (try clear hb2)
        (try clear hk)
        (try clear hi)
        (try clear ho0)
        refine hK.out _ _ ⟨zy BK298 0, zy BK298 1, zy BK298 2, zy BK298 3, zy BK298 4, zy BK298 5, zy BK298 6⟩ (fun hHeld => ?_)
        clear hK K
        refine zU 39 ?_
        refine one_ (i := 5) (N := some 42) (bl 9 319) rfl rfl (one_of HT_.out (by kernel_rfl)) (by decide) (fun K hK => ?_)
        refine Kd.N_lit_step k129 _ 129 ?hg (N' := 42) ?hd (xs := ([(⟨a1_2, a1_3, l1_4⟩ : S129)] : List (S129))) (inner := [.int .i64 a1_2, .int .i64 a1_3, .slice A1_4 l1_4.length c1_4]) (ok := (fun k_ => ((P1_1_ k_ ∨ P1_4_ k_) ∨ w.heap.size ≤ k_) ∧ some k_ ≠ (v303 : Value).ownBlock ∧ k_ ≠ gb297 ∧ k_ ≠ gb298)) (okp := (fun k_ => ((P1_1_ k_ ∨ P1_4_ k_) ∨ w.heap.size ≤ k_) ∧ some k_ ≠ (v303 : Value).ownBlock ∧ k_ ≠ gb297 ∧ k_ ≠ gb298)) ?hr ?hp (fun _ hk => hk) ((show ∀ k_, w22.heap.size ≤ k_ → (fun k_ => ((P1_1_ k_ ∨ P1_4_ k_) ∨ w.heap.size ≤ k_) ∧ some k_ ≠ (v303 : Value).ownBlock ∧ k_ ≠ gb297 ∧ k_ ≠ gb298) k_ from fun k_ hk => ⟨(.inr (Nat.le_trans (zz zB) hk)), Kd.fresh' (Kd.N_lt (zkN HO304)) k_ hk, Kd.freshB (zM BK297) k_ hk, Kd.freshB (zM BK298) k_ hk⟩) _ (Nat.le_refl _)) (Below.refl _ _) (Nat.le_refl _) (by simp) ?_; (case hd => rfl); (case hg => rfl); (case hr => first | (go_simp; done) | (go_simp; rfl)); (case hp => exact (Reps.c3 (show Kd.FK k129 _ _ (⟨a1_2, a1_3, l1_4⟩ : S129) [.int .i64 a1_2, .int .i64 a1_3, .slice A1_4 l1_4.length c1_4] from (k129_mkF _ _ (⟨a1_2, a1_3, l1_4⟩ : S129) (Kd.V_reads' (Kd.V_mono (ok' := (fun k_ => ((P1_1_ k_ ∨ P1_4_ k_) ∨ w.heap.size ≤ k_) ∧ some k_ ≠ (v303 : Value).ownBlock ∧ k_ ≠ gb297 ∧ k_ ≠ gb298)) (HO_299004.out) (fun k_ hk => ⟨hk.1.1, ⟨hk.2, ⟨hk.1.2.1, hk.1.2.2⟩⟩⟩))).2.1 (Kd.V_F (Kd.V_mono (ok' := (fun k_ => ((P1_1_ k_ ∨ P1_4_ k_) ∨ w.heap.size ≤ k_) ∧ some k_ ≠ (v303 : Value).ownBlock ∧ k_ ≠ gb297 ∧ k_ ≠ gb298)) (HO_299004.out) (fun k_ hk => ⟨hk.1.1, ⟨hk.2, ⟨hk.1.2.1, hk.1.2.2⟩⟩⟩))))) (Reps.none _ _)))
        intro v306 w23 ho24 hb hg_ hnew_
        clear hg_ hnew_
        (first | rw [← Ny305.out] at ho24 | (simp only [Int.reduceToNat] at ho24; rw [← Ny305.out] at ho24))
        have n0_ := zK (Kd.V_elder' (zkV HO_299001) (Kd.N_base ho24) hb)
        have n1_ := zK (Kd.V_elder' (zkV HO_299004) (Kd.N_base ho24) hb)
        have n2_ := zK (Kd.N_elder' (zkN HO304) (Kd.N_base ho24) hb)
        have n3_ := zK (Kd.N_lower ho24 (zz zB))
        have n4_ := zK (zg (zM BK297) hb)
        have n5_ := zK (zg (zM BK298) hb)
        have n6_ := zK (zp zB hb)
        clear HO_299001
        clear HO_299004
        clear HO304
        clear BK297
        clear BK298
        clear HB
        have HO_299001 := n0_
        have HO_299004 := n1_
        have HO304 := n2_
        have HO307 := n3_
        have BK297 := n4_
        have BK298 := n5_
        have HB := n6_
        clear n0_ n1_ n2_ n3_ n4_ n5_ n6_
        clear hb ho24
        refine hK.out _ _ ⟨zy BK298 0, zy BK298 1, zy BK298 2, zy BK298 3, zy BK298 4, zy BK298 5, zy BK298 6⟩ (fun hHeld => ?_)
        clear hK K
        refine zU 42 ?_
        exact norm_ (by simp only [putAll, Act.put, zq1, zq2, zq3]) (hCont (v303, v306) _ ⟨hHeld, (by (with_reducible repeat (first | apply Kd.N_alloc | apply Kd.N_drewN | apply Kd.N_drew)); exact Kd.N_mono HO304.out (fun _ hk => ⟨hk.1.1, ⟨hk.2, ⟨hk.1.2.1, hk.1.2.2⟩⟩⟩)), (zkN HO307), (by (with_reducible repeat (first | apply Kd.V_alloc | apply Kd.V_drewN | apply Kd.V_drew)); exact Kd.V_mono HO_299001.out (fun _ hk => ⟨hk.1.1.1, ⟨hk.1.2, ⟨hk.2, ⟨hk.1.1.2.1, hk.1.1.2.2⟩⟩⟩⟩)), (by (with_reducible repeat (first | apply Kd.V_alloc | apply Kd.V_drewN | apply Kd.V_drew)); exact Kd.V_mono HO_299004.out (fun _ hk => ⟨hk.1.1.1, ⟨hk.1.2, ⟨hk.2, ⟨hk.1.1.2.1, hk.1.1.2.2⟩⟩⟩⟩)), (zM BK297), (zM BK298), zB⟩)
      · as_aux_lemma =>
        skip
        refine Kd.N_lit_step k129 _ 129 ?hg (N' := 42) ?hd (xs := ([(⟨a1_2, a1_3, l1_4⟩ : S129)] : List (S129))) (inner := [.int .i64 a1_2, .int .i64 a1_3, .slice A1_4 l1_4.length c1_4]) (ok := (fun k_ => ((P1_1_ k_ ∨ P1_4_ k_) ∨ w.heap.size ≤ k_) ∧ k_ ≠ gb297 ∧ k_ ≠ gb298)) (okp := (fun k_ => ((P1_1_ k_ ∨ P1_4_ k_) ∨ w.heap.size ≤ k_) ∧ k_ ≠ gb297 ∧ k_ ≠ gb298)) ?hr ?hp (fun _ hk => hk) ((show ∀ k_, w21.heap.size ≤ k_ → (fun k_ => ((P1_1_ k_ ∨ P1_4_ k_) ∨ w.heap.size ≤ k_) ∧ k_ ≠ gb297 ∧ k_ ≠ gb298) k_ from fun k_ hk => ⟨(.inr (Nat.le_trans (zz zB) hk)), Kd.freshB (zM BK297) k_ hk, Kd.freshB (zM BK298) k_ hk⟩) _ (Nat.le_refl _)) (Below.refl _ _) (Nat.le_refl _) (by simp) ?_; (case hd => rfl); (case hg => rfl); (case hr => first | (go_simp; done) | (go_simp; rfl)); (case hp => exact (Reps.c3 (show Kd.FK k129 _ _ (⟨a1_2, a1_3, l1_4⟩ : S129) [.int .i64 a1_2, .int .i64 a1_3, .slice A1_4 l1_4.length c1_4] from (k129_mkF _ _ (⟨a1_2, a1_3, l1_4⟩ : S129) (Kd.V_reads' (Kd.V_mono (ok' := (fun k_ => ((P1_1_ k_ ∨ P1_4_ k_) ∨ w.heap.size ≤ k_) ∧ k_ ≠ gb297 ∧ k_ ≠ gb298)) (HO_299004.out) (fun k_ hk => ⟨hk.1, ⟨hk.2.1, hk.2.2⟩⟩))).2.1 (Kd.V_F (Kd.V_mono (ok' := (fun k_ => ((P1_1_ k_ ∨ P1_4_ k_) ∨ w.heap.size ≤ k_) ∧ k_ ≠ gb297 ∧ k_ ≠ gb298)) (HO_299004.out) (fun k_ hk => ⟨hk.1, ⟨hk.2.1, hk.2.2⟩⟩))))) (Reps.none _ _)))
        intro v306 w22 ho23 hb hg_ hnew_
        clear hg_ hnew_
        (first | rw [← Ny305.out] at ho23 | (simp only [Int.reduceToNat] at ho23; rw [← Ny305.out] at ho23))
        have n0_ := zK (Kd.V_elder' (zkV HO_299001) (Kd.N_base ho23) hb)
        have n1_ := zK (Kd.V_elder' (zkV HO_299004) (Kd.N_base ho23) hb)
        have n2_ := zK (Kd.N_lower ho23 (zz zB))
        have n3_ := zK (zg (zM BK297) hb)
        have n4_ := zK (zg (zM BK298) hb)
        have n5_ := zK (zp zB hb)
        clear HO_299001
        clear HO_299004
        clear BK297
        clear BK298
        clear HB
        have HO_299001 := n0_
        have HO_299004 := n1_
        have HO307 := n2_
        have BK297 := n3_
        have BK298 := n4_
        have HB := n5_
        clear n0_ n1_ n2_ n3_ n4_ n5_
        clear hb ho23
        refine hK.out _ _ ⟨zy BK298 0, zy BK298 1, zy BK298 2, zy BK298 3, zy BK298 4, zy BK298 5, zy BK298 6⟩ (fun hHeld => ?_)
        clear hK K
        refine zU 42 ?_
        refine one_ (i := 2) (N := some 39) (bl 9 319) rfl rfl (one_of HT_.out (by kernel_rfl)) (by decide) (fun K hK => ?_)
        refine goes_ Try.func153 (by kernel_rfl) rfl #[.slice A1_1 l1_1.length c1_1] (by rfl) rfl rfl zL ?_
        with_reducible refine (impl_Access.calls (fun k_ => ((((P1_1_ k_ ∨ P1_4_ k_) ∨ w.heap.size ≤ k_) ∧ (k_ ≠ gb297 ∧ k_ ≠ gb298)) ∧ some k_ ≠ (v306 : Value).ownBlock)) _ _ l1_1 t302 _ ?side1 A19.out).mono ?_
        (case side1 => exact HO_299001.out)
        rintro e w24 ⟨v303, rfl, ho0, hb⟩
        refine ⟨_, rfl, ?_⟩
        have n0_ := zK (Kd.V_elder' (zkV HO_299001) (Kd.N_base ho0) hb)
        have n1_ := zK (Kd.V_elder' (zkV HO_299004) (Kd.N_base ho0) hb)
        have n2_ := zK (Kd.N_elder' (zkN HO307) (Kd.N_base ho0) hb)
        have n3_ := zK (Kd.N_lower (Kd.N_mono (ok' := fun k_ => ((P1_1_ k_ ∨ P1_4_ k_) ∨ w.heap.size ≤ k_) ∧ some k_ ≠ (v306 : Value).ownBlock ∧ k_ ≠ gb297 ∧ k_ ≠ gb298) ho0 (fun k_ hk_ => ⟨Or.elim hk_ (fun hs_ => hs_.1.1) (fun hn_ => (.inr (Nat.le_trans (zz zB) hn_))), Or.elim hk_ (fun hs_ => hs_.2) (fun hn_ => (Kd.fresh' (Kd.N_lt (zkN HO307)) k_ hn_)), Or.elim hk_ (fun hs_ => hs_.1.2.1) (fun hn_ => (Kd.freshB (zM BK297) k_ hn_)), Or.elim hk_ (fun hs_ => hs_.1.2.2) (fun hn_ => (Kd.freshB (zM BK298) k_ hn_))⟩)) (zz zB))
        have n4_ := zK (zg (zM BK297) hb)
        have n5_ := zK (zg (zM BK298) hb)
        have n6_ := zK (zp zB hb)
        clear HO_299001
        clear HO_299004
        clear HO307
        clear BK297
        clear BK298
        clear HB
        have HO_299001 := n0_
        have HO_299004 := n1_
        have HO307 := n2_
        have HO304 := n3_
        have BK297 := n4_
        have BK298 := n5_
        have HB := n6_
        clear n0_ n1_ n2_ n3_ n4_ n5_ n6_
        (try clear hb)
        (try clear hb2)
        (try clear hk)
        (try clear hi)
        (try clear ho0)
        refine hK.out _ _ ⟨zy BK298 0, zy BK298 1, zy BK298 2, zy BK298 3, zy BK298 4, zy BK298 5, zy BK298 6⟩ (fun hHeld => ?_)
        clear hK K
        refine zU 39 ?_
        exact norm_ (by simp only [putAll, Act.put, zq1, zq2, zq3]) (hCont (v303, v306) _ ⟨hHeld, (zkN HO304), (by (with_reducible repeat (first | apply Kd.N_alloc | apply Kd.N_drewN | apply Kd.N_drew)); exact Kd.N_mono HO307.out (fun _ hk => ⟨hk.1.1, ⟨hk.2, ⟨hk.1.2.1, hk.1.2.2⟩⟩⟩)), (by (with_reducible repeat (first | apply Kd.V_alloc | apply Kd.V_drewN | apply Kd.V_drew)); exact Kd.V_mono HO_299001.out (fun _ hk => ⟨hk.1.1.1, ⟨hk.2, ⟨hk.1.2, ⟨hk.1.1.2.1, hk.1.1.2.2⟩⟩⟩⟩)), (by (with_reducible repeat (first | apply Kd.V_alloc | apply Kd.V_drewN | apply Kd.V_drew)); exact Kd.V_mono HO_299004.out (fun _ hk => ⟨hk.1.1.1, ⟨hk.2, ⟨hk.1.2, ⟨hk.1.1.2.1, hk.1.1.2.2⟩⟩⟩⟩)), (zM BK297), (zM BK298), zB⟩)
    rintro ⟨v303, v306⟩ w25 ⟨hS_, h0_, h1_, h2_, h3_, h4_, h5_, h6_⟩
    have n0_ : Aside0 (Kd.N k129 129 w25 w.heap.size (fun k_ => ((P1_1_ k_ ∨ P1_4_ k_) ∨ w.heap.size ≤ k_) ∧ some k_ ≠ (v306 : Value).ownBlock ∧ k_ ≠ gb297 ∧ k_ ≠ gb298) v303 t302) := ⟨h0_⟩
    have n1_ : Aside0 (Kd.N k129 129 w25 w.heap.size (fun k_ => ((P1_1_ k_ ∨ P1_4_ k_) ∨ w.heap.size ≤ k_) ∧ some k_ ≠ (v303 : Value).ownBlock ∧ k_ ≠ gb297 ∧ k_ ≠ gb298) v306 y305) := ⟨h1_⟩
    have n2_ : Aside0 (Kd.V k129 129 w25 w.heap.size (fun k_ => ((P1_1_ k_ ∨ P1_4_ k_) ∨ w.heap.size ≤ k_) ∧ some k_ ≠ (v303 : Value).ownBlock ∧ some k_ ≠ (v306 : Value).ownBlock ∧ k_ ≠ gb297 ∧ k_ ≠ gb298) (.slice A1_1 l1_1.length c1_1) l1_1) := ⟨h2_⟩
    have n3_ : Aside0 (Kd.V (Kd.int .i64) 3 w25 w.heap.size (fun k_ => ((P1_1_ k_ ∨ P1_4_ k_) ∨ w.heap.size ≤ k_) ∧ some k_ ≠ (v303 : Value).ownBlock ∧ some k_ ≠ (v306 : Value).ownBlock ∧ k_ ≠ gb297 ∧ k_ ≠ gb298) (.slice A1_4 l1_4.length c1_4) l1_4) := ⟨h3_⟩
    have n4_ : Aside0 (w25.heap[gb297]? = some (.cells #[.slice A0_0 l0_0.length c0_0, .slice A0_1 l0_1.length c0_1, .slice A0_2 l0_2.length c0_2, .slice A0_3 l0_3.length c0_3, .slice A0_4 l0_4.length c0_4] 70 (0, 0))) := ⟨h4_⟩
    have n5_ : Aside0 (w25.heap[gb298]? = some (.cells #[.slice A1_0 l1_0.length c1_0, .slice A1_1 l1_1.length c1_1, .int .i64 a1_2, .int .i64 a1_3, .slice A1_4 l1_4.length c1_4, .bool a1_5, .slice A1_6 l1_6.length c1_6] 132 (0, 0))) := ⟨h5_⟩
    have n6_ : Aside0 (Below w.heap.size w w25) := ⟨h6_⟩
    clear HO_299001
    clear HO_299004
    clear BK297
    clear BK298
    clear HB
    clear h0_ h1_ h2_ h3_ h4_ h5_ h6_
    have HO304 := n0_
    have HO307 := n1_
    have HO_299001 := n2_
    have HO_299004 := n3_
    have BK297 := n4_
    have BK298 := n5_
    have HB := n6_
    clear n0_ n1_ n2_ n3_ n4_ n5_ n6_
    have hHeld : w25.cell? ⟨gb298, 0, none⟩ = some (.slice A1_0 l1_0.length c1_0) ∧ w25.cell? ⟨gb298, 1, none⟩ = some (.slice A1_1 l1_1.length c1_1) ∧ w25.cell? ⟨gb298, 2, none⟩ = some (.int .i64 a1_2) ∧ w25.cell? ⟨gb298, 3, none⟩ = some (.int .i64 a1_3) ∧ w25.cell? ⟨gb298, 4, none⟩ = some (.slice A1_4 l1_4.length c1_4) ∧ w25.cell? ⟨gb298, 5, none⟩ = some (.bool a1_5) ∧ w25.cell? ⟨gb298, 6, none⟩ = some (.slice A1_6 l1_6.length c1_6) := hS_
    obtain ⟨Ao27, co27, eo27⟩ := Kd.N_slice HO307.out
    (first | subst eo27 | (injection eo27 with f1_ f2_ f3_; have f4_ := f1_.symm; have f5_ := f3_.symm; clear f1_ f2_ f3_; subst f4_; subst f5_))
    refine norm_ (a' := ?_) ?_ ?_
    rotate_left
    · simp only [putAll, Act.put, zq1, zq2, zq3]
      rfl
    refine one_ (i := 6) (N := some 43) (bl 9 383) rfl rfl (one_of HT_.out (by kernel_rfl)) (by decide) (fun K hK => ?_)
    refine Kd.N_append_rows_step k129 (w0 := w) w.heap.size (by rfl) (.tmp 39) (.tmp 42) 127 129 (.agg #[(.int .i64 0), (.int .i64 0), (.slice none 0 0)]) 40 rfl Try.underlying127 info129 rfl (by decide) (by omega) v303 t302 y305 _ _ _ (fun k_ => ((P1_1_ k_ ∨ P1_4_ k_) ∨ w.heap.size ≤ k_) ∧ k_ ≠ gb297 ∧ k_ ≠ gb298) (fun k_ => ((fun k_ => ((P1_1_ k_ ∨ P1_4_ k_) ∨ w.heap.size ≤ k_) ∧ k_ ≠ gb297 ∧ k_ ≠ gb298)) k_ ∧ some k_ ≠ (v303 : Value).ownBlock) rfl rfl ?aO ?aR (fun _ hk => hk) ?aF ?aB ?aS ?aL ?_
    (case aR => exact (by skip; exact Kd.N_F (Kd.N_mono (ok' := (fun k_ => ((fun k_ => ((P1_1_ k_ ∨ P1_4_ k_) ∨ w.heap.size ≤ k_) ∧ k_ ≠ gb297 ∧ k_ ≠ gb298)) k_ ∧ some k_ ≠ (v303 : Value).ownBlock)) (HO307.out) (fun k_ hk => ⟨⟨hk.1, ⟨hk.2.2.1, hk.2.2.2⟩⟩, hk.2.1⟩))))
    (case aB => exact zB)
    (case aF => exact (fun k_ hk => ⟨(.inr (Nat.le_trans (zz zB) hk)), Kd.freshB (zM BK297) k_ hk, Kd.freshB (zM BK298) k_ hk⟩))
    (case aO => exact (by (with_reducible repeat (first | apply Kd.N_alloc | apply Kd.N_drewN | apply Kd.N_drew)); exact Kd.N_mono HO304.out (fun _ hk => ⟨hk.1, ⟨hk.2.2.1, hk.2.2.2⟩⟩)))
    (case aS => exact (zz zB))
    (case aL => have := LMc20.out; omega)
    intro v309 w26 ho hb hg hat
    rw [← Ny308.out] at ho
    have n0_ := zK (Kd.V_afterv (ok := (fun k_ => ((P1_1_ k_ ∨ P1_4_ k_) ∨ w.heap.size ≤ k_) ∧ some k_ ≠ (.slice Ao27 y305.length co27 : Value).ownBlock ∧ k_ ≠ gb297 ∧ k_ ≠ gb298)) (by (with_reducible repeat (first | apply Kd.V_alloc | apply Kd.V_drewN | apply Kd.V_drew)); exact Kd.V_mono HO_299001.out (fun _ hk => ⟨⟨hk.1, ⟨hk.2.2.1, ⟨hk.2.2.2.1, hk.2.2.2.2⟩⟩⟩, hk.2.1⟩)) hg hat)
    have n1_ := zK (Kd.V_afterv (ok := (fun k_ => ((P1_1_ k_ ∨ P1_4_ k_) ∨ w.heap.size ≤ k_) ∧ some k_ ≠ (.slice Ao27 y305.length co27 : Value).ownBlock ∧ k_ ≠ gb297 ∧ k_ ≠ gb298)) (by (with_reducible repeat (first | apply Kd.V_alloc | apply Kd.V_drewN | apply Kd.V_drew)); exact Kd.V_mono HO_299004.out (fun _ hk => ⟨⟨hk.1, ⟨hk.2.2.1, ⟨hk.2.2.2.1, hk.2.2.2.2⟩⟩⟩, hk.2.1⟩)) hg hat)
    have n2_ := zK (blk_grown (zM BK297) hg (Kd.N_ne HO304.out BK297.out (by decide)))
    have n3_ := zK (blk_grown (zM BK298) hg (Kd.N_ne HO304.out BK298.out (by decide)))
    have n4_ := zK (Kd.N_afterv (ok := (fun k_ => ((P1_1_ k_ ∨ P1_4_ k_) ∨ w.heap.size ≤ k_) ∧ k_ ≠ gb297 ∧ k_ ≠ gb298)) (by (with_reducible repeat (first | apply Kd.N_alloc | apply Kd.N_drewN | apply Kd.N_drew)); exact Kd.N_mono HO307.out (fun _ hk => ⟨⟨hk.1, ⟨hk.2.2.1, hk.2.2.2⟩⟩, hk.2.1⟩)) hg hat)
    have n5_ := zK (hb)
    have n6_ := zK (ho)
    clear HO_299001
    clear HO_299004
    clear BK297
    clear BK298
    clear HO307
    clear HB
    clear HO304
    have HO_299001 := n0_
    have HO_299004 := n1_
    have BK297 := n2_
    have BK298 := n3_
    have HO307 := n4_
    have HB := n5_
    have HO310 := n6_
    clear n0_ n1_ n2_ n3_ n4_ n5_ n6_
    clear ho hb hg hat
    obtain ⟨Ao28, co28, eo28⟩ := Kd.N_slice HO310.out
    (first | subst eo28 | (injection eo28 with f1_ f2_ f3_; have f4_ := f1_.symm; have f5_ := f3_.symm; clear f1_ f2_ f3_; subst f4_; subst f5_))
    refine hK.out _ _ ⟨zy BK298 0, zy BK298 1, zy BK298 2, zy BK298 3, zy BK298 4, zy BK298 5, zy BK298 6⟩ (fun hHeld => ?_)
    clear hK K
    refine zU 43 ?_
    refine zP 7 44 (bl 9 511) HT_ ?_
    refine done_ (done_of HT_.out (by kernel_rfl)) ?_
    try go_wp2
    go_loopg [45] kj4 (fun kq v45 w' => ∃ (x45_2 : Int), v45 = .int .i64 x45_2 ∧ Aside0 (impl_Nest_kernelOk.l0 kq l2 t299 y308 (y308.length : Int) x45_2 l0_0 l0_1 l0_2 l0_3 l0_4 l1_0 l1_1 a1_2 a1_3 l1_4 a1_5 l1_6 = some (r1, r2)) ∧ Aside0 (kq ≤ kj4) ∧ Aside0 (Kd.N k129 129 w' w.heap.size (fun k_ => ((P1_1_ k_ ∨ P1_4_ k_) ∨ w.heap.size ≤ k_) ∧ k_ ≠ gb297 ∧ k_ ≠ gb298) (.slice Ao28 y308.length co28) y308) ∧ Aside0 (Kd.V k129 129 w' w.heap.size (fun k_ => ((P1_1_ k_ ∨ P1_4_ k_) ∨ w.heap.size ≤ k_) ∧ some k_ ≠ ((.slice Ao28 y308.length co28) : Value).ownBlock ∧ k_ ≠ gb297 ∧ k_ ≠ gb298) (.slice A1_1 l1_1.length c1_1) l1_1) ∧ Aside0 (Kd.V (Kd.int .i64) 3 w' w.heap.size (fun k_ => ((P1_1_ k_ ∨ P1_4_ k_) ∨ w.heap.size ≤ k_) ∧ some k_ ≠ ((.slice Ao28 y308.length co28) : Value).ownBlock ∧ k_ ≠ gb297 ∧ k_ ≠ gb298) (.slice A1_4 l1_4.length c1_4) l1_4) ∧ Aside0 (w'.heap[gb297]? = some (.cells #[(.slice A0_0 l0_0.length c0_0), (.slice A0_1 l0_1.length c0_1), (.slice A0_2 l0_2.length c0_2), (.slice A0_3 l0_3.length c0_3), (.slice A0_4 l0_4.length c0_4)] 70 (0, 0))) ∧ Aside0 (w'.heap[gb298]? = some (.cells #[(.slice A1_0 l1_0.length c1_0), (.slice A1_1 l1_1.length c1_1), .int .i64 a1_2, .int .i64 a1_3, (.slice A1_4 l1_4.length c1_4), .bool a1_5, (.slice A1_6 l1_6.length c1_6)] 132 (0, 0))) ∧ Aside0 (Below w.heap.size w w'))
    case atStart => exact ⟨(0), zR, H', ⟨Nat.le_refl _⟩, ⟨zkN HO310⟩, ⟨by (with_reducible repeat (first | apply Kd.V_alloc | apply Kd.V_drewN | apply Kd.V_drew)); exact Kd.V_mono HO_299001.out (fun _ hk => ⟨hk.1.1, ⟨hk.2, ⟨hk.1.2.2.1, hk.1.2.2.2⟩⟩⟩)⟩, ⟨by (with_reducible repeat (first | apply Kd.V_alloc | apply Kd.V_drewN | apply Kd.V_drew)); exact Kd.V_mono HO_299004.out (fun _ hk => ⟨hk.1.1, ⟨hk.2, ⟨hk.1.2.2.1, hk.1.2.2.2⟩⟩⟩)⟩, ⟨zM BK297⟩, ⟨zM BK298⟩, ⟨zB⟩⟩
    clear H'
    try clear c1
    try clear c2
    try clear p2
    try clear c3
    try clear c8
    try clear c9
    try clear c10
    try clear c11
    try clear c11b0
    try clear c11b1
    try clear c12
    try clear c15
    try clear c18
    try clear c20
    try clear hcz13_0 hcz13_1 hcz13_2 hcz13_3 hcz13_4 hcz13_5 hcz13_6 hfz13_0 hfz13_1 hfz13_2 hfz13_3 hfz13_4 hfz13_5 hfz13_6
    try clear hcz16_0 hcz16_1 hcz16_2 hcz16_3 hcz16_4 hcz16_5 hcz16_6 hfz16_0 hfz16_1 hfz16_2 hfz16_3 hfz16_4 hfz16_5 hfz16_6
    try clear hcz9_0 hcz9_1 hcz9_2 hcz9_3 hcz9_4 hcz9_5 hcz9_6 hfz9_0 hfz9_1 hfz9_2 hfz9_3 hfz9_4 hfz9_5 hfz9_6
    try clear p2
    obtain ⟨x45_2, rfl, HA, HK2, HO_43, HO_299001, HO_299004, BK297, BK298, HB⟩ := hrel
    rcases gk with _ | k2
    · exact absurd HA.out (by simp [impl_Nest_kernelOk.l0])
    have H := HA.out
    clear HA
    simp only [impl_Nest_kernelOk.l0] at H
    by_cases c29 : x45_2 < (y308.length : Int)
    rotate_left
    · as_aux_lemma =>
      rw [if_neg c29] at H
      have c29b0 : decide (x45_2 < (y308.length : Int)) = false := decide_eq_false c29
      clear c29
      have H' := zK H
      clear H
      have hnb50 := NB298_297.out
      have hnc50 := NB297_298.out
      obtain ⟨hcz51_0, hcz51_1, hcz51_2, hcz51_3, hcz51_4, hcz51_5, hcz51_6, hfz51_0, hfz51_1, hfz51_2, hfz51_3, hfz51_4, hfz51_5, hfz51_6⟩ := zc7 BK298
      go_wp2
      go_loopg [77] k2 (fun kq v77 w' => ∃ (x77_3 : Int), v77 = .int .i64 x77_3 ∧ Aside0 (impl_Nest_kernelOk.l1 kq l2 t299 l1_1 (l1_1.length : Int) x77_3 l1_0 l1_1 a1_2 a1_3 l1_4 a1_5 l1_6 = some (r1, r2)) ∧ Aside0 (kq ≤ k2) ∧ Aside0 (Kd.V k129 129 w' w.heap.size (fun k_ => ((P1_1_ k_ ∨ P1_4_ k_) ∨ w.heap.size ≤ k_) ∧ k_ ≠ gb297 ∧ k_ ≠ gb298) (.slice A1_1 l1_1.length c1_1) l1_1) ∧ Aside0 (Kd.V k129 129 w' w.heap.size (fun k_ => ((P1_1_ k_ ∨ P1_4_ k_) ∨ w.heap.size ≤ k_) ∧ k_ ≠ gb297 ∧ k_ ≠ gb298) (.slice A1_1 l1_1.length c1_1) l1_1) ∧ Aside0 (Kd.V (Kd.int .i64) 3 w' w.heap.size (fun k_ => ((P1_1_ k_ ∨ P1_4_ k_) ∨ w.heap.size ≤ k_) ∧ k_ ≠ gb297 ∧ k_ ≠ gb298) (.slice A1_4 l1_4.length c1_4) l1_4) ∧ Aside0 (w'.heap[gb297]? = some (.cells #[(.slice A0_0 l0_0.length c0_0), (.slice A0_1 l0_1.length c0_1), (.slice A0_2 l0_2.length c0_2), (.slice A0_3 l0_3.length c0_3), (.slice A0_4 l0_4.length c0_4)] 70 (0, 0))) ∧ Aside0 (w'.heap[gb298]? = some (.cells #[(.slice A1_0 l1_0.length c1_0), (.slice A1_1 l1_1.length c1_1), .int .i64 a1_2, .int .i64 a1_3, (.slice A1_4 l1_4.length c1_4), .bool a1_5, (.slice A1_6 l1_6.length c1_6)] 132 (0, 0))) ∧ Aside0 (Below w.heap.size w w'))
      case atStart => exact ⟨(0), zR, H', ⟨Nat.le_refl _⟩, ⟨by (with_reducible repeat (first | apply Kd.V_alloc | apply Kd.V_drewN | apply Kd.V_drew)); exact Kd.V_mono HO_299001.out (fun _ hk => ⟨hk.1, ⟨hk.2.2.1, hk.2.2.2⟩⟩)⟩, ⟨by (with_reducible repeat (first | apply Kd.V_alloc | apply Kd.V_drewN | apply Kd.V_drew)); exact Kd.V_mono HO_299001.out (fun _ hk => ⟨hk.1, ⟨hk.2.2.1, hk.2.2.2⟩⟩)⟩, ⟨by (with_reducible repeat (first | apply Kd.V_alloc | apply Kd.V_drewN | apply Kd.V_drew)); exact Kd.V_mono HO_299004.out (fun _ hk => ⟨hk.1, ⟨hk.2.2.1, hk.2.2.2⟩⟩)⟩, ⟨zM BK297⟩, ⟨zM BK298⟩, ⟨zB⟩⟩
      clear H'
      try clear c1
      try clear c2
      try clear p2
      try clear c3
      try clear p3
      try clear q3
      try clear hx3
      try clear c4
      try clear c5
      try clear p6
      try clear c15
      try clear c29
      try clear c29b0
      try clear c30
      try clear c31
      try clear p31
      try clear q31
      try clear hx31
      try clear c37
      try clear c37b0
      try clear c40
      try clear c40b0
      try clear c43
      try clear c43b0
      try clear c44
      try clear c44b0
      try clear c49
      try clear c50
      try clear hcz51_0 hcz51_1 hcz51_2 hcz51_3 hcz51_4 hcz51_5 hcz51_6 hfz51_0 hfz51_1 hfz51_2 hfz51_3 hfz51_4 hfz51_5 hfz51_6
      try clear hx313_0
      try clear p2
      try clear p3
      try clear p31
      try clear p313
      try clear q3
      try clear q31
      try clear q313
      obtain ⟨x77_3, rfl, HA, HK3, HO_75, HO_299001, HO_299004, BK297, BK298, HB⟩ := hrel
      rcases gk with _ | k3
      · exact absurd HA.out (by simp [impl_Nest_kernelOk.l1])
      have H := HA.out
      clear HA
      simp only [impl_Nest_kernelOk.l1] at H
      by_cases c52 : x77_3 < (l1_1.length : Int)
      rotate_left
      · as_aux_lemma =>
        rw [if_neg c52] at H
        have c52b0 : decide (x77_3 < (l1_1.length : Int)) = false := decide_eq_false c52
        clear c52
        by_cases c68 : 0 ≤ a1_2
        rotate_left
        · rw [if_neg c68] at H
          exact absurd H (by simp)
        rw [if_pos c68] at H
        have c68b0 : decide (0 ≤ a1_2) = true := decide_eq_true c68
        clear c68
        by_cases c69 : a1_2 < (l2.length : Int)
        rotate_left
        · rw [if_neg c69] at H
          exact absurd H (by simp)
        rw [if_pos c69] at H
        have c69b0 : decide (a1_2 < (l2.length : Int)) = true := decide_eq_true c69
        clear c69
        simp only [Option.some.injEq, Prod.mk.injEq] at H
        obtain ⟨rfl, rfl⟩ := H
        try go_wp2
        have n0_ := zK (Kd.V_drew HO_75.out)
        have n1_ := zK (Kd.V_drew HO_299001.out)
        have n2_ := zK (Kd.V_drew HO_299004.out)
        have n3_ := zK (zd BK297.out)
        have n4_ := zK (zd BK298.out)
        have n5_ := zK (ze HB.out)
        clear HO_75
        clear HO_299001
        clear HO_299004
        clear BK297
        clear BK298
        clear HB
        have HO_75 := n0_
        have HO_299001 := n1_
        have HO_299004 := n2_
        have BK297 := n3_
        have BK298 := n4_
        have HB := n5_
        clear n0_ n1_ n2_ n3_ n4_ n5_
        have p315 : 0 ≤ (a1_2 : Int) := of_decide_eq_true zA
        have q315 : a1_2 < (l2.length : Int) := of_decide_eq_true zA
        obtain ⟨ad315, e315, hx315_0⟩ := Kd.at_bool HR2.out a1_2 p315 q315
        have hw315_0 := hx315_0
        cases e315
        (try replace hx315_0 := zX HB hx315_0)
        replace p315 := eq_true p315
        replace q315 := eq_true q315
        refine start_ (n := 10) (S := fun w' => w'.cell? ⟨gb298, 0, none⟩ = some (.slice A1_0 l1_0.length c1_0) ∧ w'.cell? ⟨gb298, 1, none⟩ = some (.slice A1_1 l1_1.length c1_1) ∧ w'.cell? ⟨gb298, 2, none⟩ = some (.int .i64 a1_2) ∧ w'.cell? ⟨gb298, 3, none⟩ = some (.int .i64 a1_3) ∧ w'.cell? ⟨gb298, 4, none⟩ = some (.slice A1_4 l1_4.length c1_4) ∧ w'.cell? ⟨gb298, 5, none⟩ = some (.bool a1_5) ∧ w'.cell? ⟨gb298, 6, none⟩ = some (.slice A1_6 l1_6.length c1_6) ∧ w'.cell? (ad315.add (a1_2).toNat) = some (.bool (rdOf false l2 a1_2))) (ds := []) (bl 10 0) (by kernel_rfl) rfl (by kernel_rfl) ⟨zy BK298 0, zy BK298 1, zy BK298 2, zy BK298 3, zy BK298 4, zy BK298 5, zy BK298 6, (zX HB hw315_0)⟩ (fun hHeld => ?_); refine with_tabW impl_Nest_kernelOk.tab16 impl_Nest_kernelOk.bits16 (fun HT_ HW_ => ?_)
        generalize wr.drew = w70 at HO_75 HO_299001 HO_299004 BK297 BK298 HB hx315_0 hHeld ⊢
        refine zP 0 88 (bl 10 1) HT_ ?_
        refine zP 1 89 (bl 10 3) HT_ ?_
        refine zP 2 90 (bl 10 7) HT_ ?_
        refine zP 3 91 (bl 10 15) HT_ ?_
        refine zP 8 6 (bl 10 271) HT_ ?_
        refine zT 4 92 (bl 10 287) rfl rfl HT_ HW_ hHeld (by rintro w' ⟨s0, s1, s2, s3, s4, s5, s6, s7⟩; go_simp; with_reducible rfl) ?_
        refine zP 5 93 (bl 10 319) HT_ ?_
        refine zT 6 94 (bl 10 383) rfl rfl HT_ HW_ hHeld (by rintro w' ⟨s0, s1, s2, s3, s4, s5, s6, s7⟩; go_simp; with_reducible rfl) ?_
        refine zP 7 95 (bl 10 511) HT_ ?_
        refine zP 9 7 (bl 10 1023) HT_ ?_
        refine done_ (done_of HT_.out (by kernel_rfl)) ?_
        try go_wp2
        go_ret2
        exact ⟨zE, zB⟩
      rw [if_pos c52] at H
      have c52b0 : decide (x77_3 < (l1_1.length : Int)) = true := decide_eq_true c52
      clear c52
      by_cases c53 : 0 ≤ x77_3
      rotate_left
      · rw [if_neg c53] at H
        exact absurd H (by simp)
      rw [if_pos c53] at H
      have c53b0 : decide (0 ≤ x77_3) = true := decide_eq_true c53
      clear c53
      by_cases c54 : x77_3 < (l1_1.length : Int)
      rotate_left
      · rw [if_neg c54] at H
        exact absurd H (by simp)
      rw [if_pos c54] at H
      have c54b0 : decide (x77_3 < (l1_1.length : Int)) = true := decide_eq_true c54
      clear c54
      by_cases c55 : ((rd_T129 l1_1 x77_3).f0) = a1_2
      · as_aux_lemma =>
        rw [if_pos c55] at H
        have c55b0 : (((rd_T129 l1_1 x77_3).f0) == a1_2) = true := beq_iff_eq.mpr c55
        have c55b1 : (((rd_T129 l1_1 x77_3).f0) != a1_2) = false := bne_eq_false_iff_eq.mpr c55
        clear c55
        simp only [Option.some.injEq, Prod.mk.injEq] at H
        obtain ⟨rfl, rfl⟩ := H
        have p316 : 0 ≤ (x77_3 : Int) := of_decide_eq_true zA
        have q316 : x77_3 < (l1_1.length : Int) := of_decide_eq_true zA
        obtain ⟨ad316, A316_2, c316_2, e316, hx316_0, hx316_1, hx316_2, hl316_2, hi316_2⟩ := at_T129 (Kd.V_reads' HO_75.out).2.2 x77_3 p316 q316
        cases e316
        obtain ⟨ce316, hce316, hMe316, hcc316⟩ := Kd.V_get HO_75.out z129 x77_3 p316 (by first | exact q316 | exact of_decide_eq_true zA | (have e_ := (Kd.V_reads' HO_75.out).1; omega))
        obtain ⟨ua316_2, uc316_2, rfl, ul316_2, ge316_2⟩ := k129_openF hMe316
        have hv316_2 := hcc316 2 _ rfl
        rw [add_field _ _ 2 (by omega)] at hv316_2
        replace hv316_2 := Option.some.inj (hv316_2.symm.trans hx316_2)
        injection hv316_2 with hva_ hvn_ hvc_
        rw [hva_] at ge316_2
        rw [hvc_] at ul316_2
        have HL316_2 := zK (show Kd.V (Kd.int .i64) 3 _ w.heap.size _ _ ((rd_T129 l1_1 x77_3).f2) from Kd.V_mk ul316_2 ge316_2)
        clear hva_ hvn_ hvc_ ge316_2 ul316_2
        clear hcc316 hce316
        have HR316_2 := zK hi316_2
        have HC316_2 := zK hl316_2
        clear hi316_2 hl316_2
        replace p316 := eq_true p316
        replace q316 := eq_true q316
        go_wp2_with (first | ((with_reducible refine gate_dst (N := 13) rfl ?_); (try (refine gate_guard (by rfl) ?_; dsimp only)); refine zJ 13 #[.int .i64 0, .int .i64 0, .slice none 0 0] 129 ?_; intro gb317 hg w56 hbox hb; have n0_ := zK (Kd.V_below (Kd.V_elderB (zkV HO_75) gb317 (Nat.le_of_eq hg.symm)) hb); have n1_ := zK (Kd.V_below (Kd.V_elderB (zkV HO_299001) gb317 (Nat.le_of_eq hg.symm)) hb); have n2_ := zK (Kd.V_below (Kd.V_elderB (zkV HO_299004) gb317 (Nat.le_of_eq hg.symm)) hb); have n3_ := zK (Kd.V_below (Kd.V_elderB (zkV HL316_2) gb317 (Nat.le_of_eq hg.symm)) hb); have n4_ := zK (zg (zM BK297) hb); have n5_ := zK (zg (zM BK298) hb); have n6_ := zK (Kd.C_below (by repeat (first | (with_reducible exact HR316_2.out) | (with_reducible refine Kd.C_alloc ?_ _) | (with_reducible refine Kd.C_drewN ?_ _) | (with_reducible refine Kd.C_drew ?_) | exact HR316_2.out)) hb); have n7_ := zK (zp zB hb); have n8_ := zK (hbox); have n9_ := zK (zI hg zB); have n10_ := zK (zI hg zB); have n11_ := zK (zH hg (zM BK297)); have n12_ := zK (zG hg (zM BK297)); have n13_ := zK (zH hg (zM BK298)); have n14_ := zK (zG hg (zM BK298)); clear HO_75; clear HO_299001; clear HO_299004; clear HL316_2; clear BK297; clear BK298; clear HR316_2; clear HB; have HO_75 := n0_; have HO_299001 := n1_; have HO_299004 := n2_; have HL316_2 := n3_; have BK297 := n4_; have BK298 := n5_; have HR316_2 := n6_; have HB := n7_; have BK317 := n8_; have GW317 := n9_; have GE317 := n10_; have NB297_317 := n11_; have NB317_297 := n12_; have NB298_317 := n13_; have NB317_298 := n14_; clear n0_ n1_ n2_ n3_ n4_ n5_ n6_ n7_ n8_ n9_ n10_ n11_ n12_ n13_ n14_; clear hb hbox hg; have hnb57 := NB317_297.out; have hnc57 := NB297_317.out; have hnb58 := NB317_298.out; have hnc58 := NB298_317.out; obtain ⟨hcz59_0, hcz59_1, hcz59_2, hfz59_0, hfz59_1, hfz59_2⟩ := zc3 BK317; have hnb60 := NB298_297.out; have hnc60 := NB297_298.out; obtain ⟨hcz61_0, hcz61_1, hcz61_2, hcz61_3, hcz61_4, hcz61_5, hcz61_6, hfz61_0, hfz61_1, hfz61_2, hfz61_3, hfz61_4, hfz61_5, hfz61_6⟩ := zc7 BK298))
        go_ret2
        exact ⟨zE, zB⟩
      rw [if_neg c55] at H
      have c55b0 : (((rd_T129 l1_1 x77_3).f0) == a1_2) = false := beq_eq_false_iff_ne.mpr c55
      have c55b1 : (((rd_T129 l1_1 x77_3).f0) != a1_2) = true := bne_iff_ne.mpr c55
      have H' := zK H
      clear H
      have p316 : 0 ≤ (x77_3 : Int) := of_decide_eq_true zA
      have q316 : x77_3 < (l1_1.length : Int) := of_decide_eq_true zA
      obtain ⟨ad316, A316_2, c316_2, e316, hx316_0, hx316_1, hx316_2, hl316_2, hi316_2⟩ := at_T129 (Kd.V_reads' HO_75.out).2.2 x77_3 p316 q316
      cases e316
      obtain ⟨ce316, hce316, hMe316, hcc316⟩ := Kd.V_get HO_75.out z129 x77_3 p316 (by first | exact q316 | exact of_decide_eq_true zA | (have e_ := (Kd.V_reads' HO_75.out).1; omega))
      obtain ⟨ua316_2, uc316_2, rfl, ul316_2, ge316_2⟩ := k129_openF hMe316
      have hv316_2 := hcc316 2 _ rfl
      rw [add_field _ _ 2 (by omega)] at hv316_2
      replace hv316_2 := Option.some.inj (hv316_2.symm.trans hx316_2)
      injection hv316_2 with hva_ hvn_ hvc_
      rw [hva_] at ge316_2
      rw [hvc_] at ul316_2
      have HL316_2 := zK (show Kd.V (Kd.int .i64) 3 _ w.heap.size _ _ ((rd_T129 l1_1 x77_3).f2) from Kd.V_mk ul316_2 ge316_2)
      clear hva_ hvn_ hvc_ ge316_2 ul316_2
      clear hcc316 hce316
      have HR316_2 := zK hi316_2
      have HC316_2 := zK hl316_2
      clear hi316_2 hl316_2
      replace p316 := eq_true p316
      replace q316 := eq_true q316
      go_wp2_with (first | ((with_reducible refine gate_dst (N := 13) rfl ?_); (try (refine gate_guard (by rfl) ?_; dsimp only)); refine zJ 13 #[.int .i64 0, .int .i64 0, .slice none 0 0] 129 ?_; intro gb317 hg w62 hbox hb; have n0_ := zK (Kd.V_below (Kd.V_elderB (zkV HO_75) gb317 (Nat.le_of_eq hg.symm)) hb); have n1_ := zK (Kd.V_below (Kd.V_elderB (zkV HO_299001) gb317 (Nat.le_of_eq hg.symm)) hb); have n2_ := zK (Kd.V_below (Kd.V_elderB (zkV HO_299004) gb317 (Nat.le_of_eq hg.symm)) hb); have n3_ := zK (Kd.V_below (Kd.V_elderB (zkV HL316_2) gb317 (Nat.le_of_eq hg.symm)) hb); have n4_ := zK (zg (zM BK297) hb); have n5_ := zK (zg (zM BK298) hb); have n6_ := zK (Kd.C_below (by repeat (first | (with_reducible exact HR316_2.out) | (with_reducible refine Kd.C_alloc ?_ _) | (with_reducible refine Kd.C_drewN ?_ _) | (with_reducible refine Kd.C_drew ?_) | exact HR316_2.out)) hb); have n7_ := zK (zp zB hb); have n8_ := zK (hbox); have n9_ := zK (zI hg zB); have n10_ := zK (zI hg zB); have n11_ := zK (zH hg (zM BK297)); have n12_ := zK (zG hg (zM BK297)); have n13_ := zK (zH hg (zM BK298)); have n14_ := zK (zG hg (zM BK298)); clear HO_75; clear HO_299001; clear HO_299004; clear HL316_2; clear BK297; clear BK298; clear HR316_2; clear HB; have HO_75 := n0_; have HO_299001 := n1_; have HO_299004 := n2_; have HL316_2 := n3_; have BK297 := n4_; have BK298 := n5_; have HR316_2 := n6_; have HB := n7_; have BK317 := n8_; have GW317 := n9_; have GE317 := n10_; have NB297_317 := n11_; have NB317_297 := n12_; have NB298_317 := n13_; have NB317_298 := n14_; clear n0_ n1_ n2_ n3_ n4_ n5_ n6_ n7_ n8_ n9_ n10_ n11_ n12_ n13_ n14_; clear hb hbox hg; have hnb63 := NB317_297.out; have hnc63 := NB297_317.out; have hnb64 := NB317_298.out; have hnc64 := NB298_317.out; obtain ⟨hcz65_0, hcz65_1, hcz65_2, hfz65_0, hfz65_1, hfz65_2⟩ := zc3 BK317; have hnb66 := NB298_297.out; have hnc66 := NB297_298.out; obtain ⟨hcz67_0, hcz67_1, hcz67_2, hcz67_3, hcz67_4, hcz67_5, hcz67_6, hfz67_0, hfz67_1, hfz67_2, hfz67_3, hfz67_4, hfz67_5, hfz67_6⟩ := zc7 BK298))
      go_roundg k3
      case measure => have := HJ4.out; have := HK2.out; have := HK3.out; omega
      case rel => exact ⟨(wrap64 (x77_3 + 1)), zR, H', ⟨by have := HJ4.out; have := HK2.out; have := HK3.out; omega⟩, ⟨by (with_reducible repeat (first | apply Kd.V_alloc | apply Kd.V_drewN | apply Kd.V_drew)); exact Kd.V_mono (Kd.V_far (p := ⟨gb317, 2, none⟩) (Kd.V_far (p := ⟨gb317, 1, none⟩) (Kd.V_far (p := ⟨gb317, 0, none⟩) (Kd.V_mono HO_75.out (fun k_ hk => (⟨hk, hk.2⟩ : _ ∧ k_ ≠ gb317))) (fun _ hk => hk.2) (.int .i64 ((rd_T129 l1_1 x77_3).f0))) (fun _ hk => hk.2) (.int .i64 ((rd_T129 l1_1 x77_3).f1))) (fun _ hk => hk.2) (.slice A316_2 ((rd_T129 l1_1 x77_3).f2).length c316_2)) (fun _ hk => ⟨hk.1.1.1, ⟨hk.1.1.2.1, hk.1.1.2.2⟩⟩)⟩, ⟨by (with_reducible repeat (first | apply Kd.V_alloc | apply Kd.V_drewN | apply Kd.V_drew)); exact Kd.V_mono (Kd.V_far (p := ⟨gb317, 2, none⟩) (Kd.V_far (p := ⟨gb317, 1, none⟩) (Kd.V_far (p := ⟨gb317, 0, none⟩) (Kd.V_mono HO_299001.out (fun k_ hk => (⟨hk, hk.2⟩ : _ ∧ k_ ≠ gb317))) (fun _ hk => hk.2) (.int .i64 ((rd_T129 l1_1 x77_3).f0))) (fun _ hk => hk.2) (.int .i64 ((rd_T129 l1_1 x77_3).f1))) (fun _ hk => hk.2) (.slice A316_2 ((rd_T129 l1_1 x77_3).f2).length c316_2)) (fun _ hk => ⟨hk.1.1.1, ⟨hk.1.1.2.1, hk.1.1.2.2⟩⟩)⟩, ⟨by (with_reducible repeat (first | apply Kd.V_alloc | apply Kd.V_drewN | apply Kd.V_drew)); exact Kd.V_mono (Kd.V_far (p := ⟨gb317, 2, none⟩) (Kd.V_far (p := ⟨gb317, 1, none⟩) (Kd.V_far (p := ⟨gb317, 0, none⟩) (Kd.V_mono HO_299004.out (fun k_ hk => (⟨hk, hk.2⟩ : _ ∧ k_ ≠ gb317))) (fun _ hk => hk.2) (.int .i64 ((rd_T129 l1_1 x77_3).f0))) (fun _ hk => hk.2) (.int .i64 ((rd_T129 l1_1 x77_3).f1))) (fun _ hk => hk.2) (.slice A316_2 ((rd_T129 l1_1 x77_3).f2).length c316_2)) (fun _ hk => ⟨hk.1.1.1, ⟨hk.1.1.2.1, hk.1.1.2.2⟩⟩)⟩, ⟨by (with_reducible repeat (first | refine zn ?_ _ | refine zd ?_ | refine za ?_ _)); refine blk_far ?_ NB297_317.out _; (with_reducible repeat (first | refine zn ?_ _ | refine zd ?_ | refine za ?_ _)); refine blk_far ?_ NB297_317.out _; (with_reducible repeat (first | refine zn ?_ _ | refine zd ?_ | refine za ?_ _)); refine blk_far ?_ NB297_317.out _; (with_reducible repeat (first | refine zn ?_ _ | refine zd ?_ | refine za ?_ _)); exact BK297.out⟩, ⟨by (with_reducible repeat (first | refine zn ?_ _ | refine zd ?_ | refine za ?_ _)); refine blk_far ?_ NB298_317.out _; (with_reducible repeat (first | refine zn ?_ _ | refine zd ?_ | refine za ?_ _)); refine blk_far ?_ NB298_317.out _; (with_reducible repeat (first | refine zn ?_ _ | refine zd ?_ | refine za ?_ _)); refine blk_far ?_ NB298_317.out _; (with_reducible repeat (first | refine zn ?_ _ | refine zd ?_ | refine za ?_ _)); exact BK298.out⟩, ⟨zB⟩⟩
    rw [if_pos c29] at H
    have c29b0 : decide (x45_2 < (y308.length : Int)) = true := decide_eq_true c29
    clear c29
    by_cases c30 : 0 ≤ x45_2
    rotate_left
    · rw [if_neg c30] at H
      exact absurd H (by simp)
    rw [if_pos c30] at H
    have c30b0 : decide (0 ≤ x45_2) = true := decide_eq_true c30
    clear c30
    by_cases c31 : x45_2 < (y308.length : Int)
    rotate_left
    · rw [if_neg c31] at H
      exact absurd H (by simp)
    rw [if_pos c31] at H
    have c31b0 : decide (x45_2 < (y308.length : Int)) = true := decide_eq_true c31
    clear c31
    have HC32 := zK H
    clear H
    have p311 : 0 ≤ (x45_2 : Int) := of_decide_eq_true zA
    have q311 : x45_2 < (y308.length : Int) := of_decide_eq_true zA
    obtain ⟨ad311, A311_2, c311_2, e311, hx311_0, hx311_1, hx311_2, hl311_2, hi311_2⟩ := at_T129 (Kd.N_reads' HO_43.out).2.2 x45_2 p311 q311
    cases e311
    obtain ⟨ce311, hce311, hMe311, hcc311⟩ := Kd.N_get HO_43.out z129 x45_2 p311 (by first | exact q311 | exact of_decide_eq_true zA | (have e_ := (Kd.N_reads' HO_43.out).1; omega))
    obtain ⟨ua311_2, uc311_2, rfl, ul311_2, ge311_2⟩ := k129_openF hMe311
    have hv311_2 := hcc311 2 _ rfl
    rw [add_field _ _ 2 (by omega)] at hv311_2
    replace hv311_2 := Option.some.inj (hv311_2.symm.trans hx311_2)
    injection hv311_2 with hva_ hvn_ hvc_
    rw [hva_] at ge311_2
    rw [hvc_] at ul311_2
    have HL311_2 := zK (show Kd.V (Kd.int .i64) 3 _ w.heap.size _ _ ((rd_T129 y308 x45_2).f2) from Kd.V_mk ul311_2 ge311_2)
    clear hva_ hvn_ hvc_ ge311_2 ul311_2
    clear hcc311 hce311
    have HR311_2 := zK hi311_2
    have HC311_2 := zK hl311_2
    clear hi311_2 hl311_2
    replace p311 := eq_true p311
    replace q311 := eq_true q311
    go_upto_region 7 with (first | ((with_reducible refine gate_dst (N := 11) rfl ?_); (try (refine gate_guard (by rfl) ?_; dsimp only)); refine zJ 11 #[.int .i64 0, .int .i64 0, .slice none 0 0] 129 ?_; intro gb312 hg w33 hbox hb; have n0_ := zK (Kd.N_below (Kd.N_elderB (zkN HO_43) gb312 (Nat.le_of_eq hg.symm)) hb); have n1_ := zK (Kd.V_below (Kd.V_elderB (zkV HO_299001) gb312 (Nat.le_of_eq hg.symm)) hb); have n2_ := zK (Kd.V_below (Kd.V_elderB (zkV HO_299004) gb312 (Nat.le_of_eq hg.symm)) hb); have n3_ := zK (Kd.V_below (Kd.V_elderB (zkV HL311_2) gb312 (Nat.le_of_eq hg.symm)) hb); have n4_ := zK (zg (zM BK297) hb); have n5_ := zK (zg (zM BK298) hb); have n6_ := zK (Kd.C_below (by repeat (first | (with_reducible exact HR311_2.out) | (with_reducible refine Kd.C_alloc ?_ _) | (with_reducible refine Kd.C_drewN ?_ _) | (with_reducible refine Kd.C_drew ?_) | exact HR311_2.out)) hb); have n7_ := zK (zp zB hb); have n8_ := zK (hbox); have n9_ := zK (zI hg zB); have n10_ := zK (zI hg zB); have n11_ := zK (zH hg (zM BK297)); have n12_ := zK (zG hg (zM BK297)); have n13_ := zK (zH hg (zM BK298)); have n14_ := zK (zG hg (zM BK298)); clear HO_43; clear HO_299001; clear HO_299004; clear HL311_2; clear BK297; clear BK298; clear HR311_2; clear HB; have HO_43 := n0_; have HO_299001 := n1_; have HO_299004 := n2_; have HL311_2 := n3_; have BK297 := n4_; have BK298 := n5_; have HR311_2 := n6_; have HB := n7_; have BK312 := n8_; have GW312 := n9_; have GE312 := n10_; have NB297_312 := n11_; have NB312_297 := n12_; have NB298_312 := n13_; have NB312_298 := n14_; clear n0_ n1_ n2_ n3_ n4_ n5_ n6_ n7_ n8_ n9_ n10_ n11_ n12_ n13_ n14_; clear hb hbox hg; have hnb34 := NB312_297.out; have hnc34 := NB297_312.out; have hnb35 := NB312_298.out; have hnc35 := NB298_312.out; obtain ⟨hcz36_0, hcz36_1, hcz36_2, hfz36_0, hfz36_1, hfz36_2⟩ := zc3 BK312))
    (try simp only [Act.put, zq1, zq2, zq3])
    go_cut [72] (fun v72 wc => ∃ (kq : Nat) (x72_31 : Bool), v72 = .bool x72_31 ∧ Aside0 (impl_Nest_kernelOk.j2 kq l2 t299 y308 (y308.length : Int) x45_2 x72_31 l0_0 l0_1 l0_2 l0_3 l0_4 l1_0 l1_1 a1_2 a1_3 l1_4 a1_5 l1_6 = some (r1, r2)) ∧ Aside0 (kq ≤ k2) ∧ Aside0 (Kd.N k129 129 wc w.heap.size (fun k_ => ((P1_1_ k_ ∨ P1_4_ k_) ∨ w.heap.size ≤ k_) ∧ k_ ≠ gb297 ∧ k_ ≠ gb298) (.slice (some ad311) y308.length co28) y308) ∧ Aside0 (Kd.V k129 129 wc w.heap.size (fun k_ => ((P1_1_ k_ ∨ P1_4_ k_) ∨ w.heap.size ≤ k_) ∧ some k_ ≠ ((.slice (some ad311) y308.length co28) : Value).ownBlock ∧ k_ ≠ gb297 ∧ k_ ≠ gb298) (.slice A1_1 l1_1.length c1_1) l1_1) ∧ Aside0 (Kd.V (Kd.int .i64) 3 wc w.heap.size (fun k_ => ((P1_1_ k_ ∨ P1_4_ k_) ∨ w.heap.size ≤ k_) ∧ some k_ ≠ ((.slice (some ad311) y308.length co28) : Value).ownBlock ∧ k_ ≠ gb297 ∧ k_ ≠ gb298) (.slice A1_4 l1_4.length c1_4) l1_4) ∧ Aside0 (wc.heap[gb297]? = some (.cells #[(.slice A0_0 l0_0.length c0_0), (.slice A0_1 l0_1.length c0_1), (.slice A0_2 l0_2.length c0_2), (.slice A0_3 l0_3.length c0_3), (.slice A0_4 l0_4.length c0_4)] 70 (0, 0))) ∧ Aside0 (wc.heap[gb298]? = some (.cells #[(.slice A1_0 l1_0.length c1_0), (.slice A1_1 l1_1.length c1_1), .int .i64 a1_2, .int .i64 a1_3, (.slice A1_4 l1_4.length c1_4), .bool a1_5, (.slice A1_6 l1_6.length c1_6)] 132 (0, 0))) ∧ Aside0 (Below w.heap.size w wc))
    case first =>
     have H := HC32.out
     clear HC32
     by_cases c37 : ((rd_T129 y308 x45_2).f0) < 0
     · as_aux_lemma =>
       rw [if_pos c37] at H
       have c37b0 : decide (((rd_T129 y308 x45_2).f0) < 0) = true := decide_eq_true c37
       clear c37
       (first | rw [c37b0] | (simp only [i64_w, i32_w]; rw [c37b0]) | skip)
       have H' := zK H
       clear H
       try go_wp2
       have n0_ : Aside0 (Kd.N k129 129 (((w33.setCell ⟨gb312, 0, none⟩ (.int .i64 ((rd_T129 y308 x45_2).f0))).setCell ⟨gb312, 1, none⟩ (.int .i64 ((rd_T129 y308 x45_2).f1))).setCell ⟨gb312, 2, none⟩ (.slice A311_2 ((rd_T129 y308 x45_2).f2).length c311_2)) w.heap.size (fun k_ => ((P1_1_ k_ ∨ P1_4_ k_) ∨ w.heap.size ≤ k_) ∧ k_ ≠ gb297 ∧ k_ ≠ gb298 ∧ k_ ≠ gb312) (.slice (some ad311) y308.length co28) y308) := ⟨by (with_reducible repeat (first | apply Kd.N_alloc | apply Kd.N_drewN | apply Kd.N_drew)); exact Kd.N_mono (Kd.N_far (p := ⟨gb312, 2, none⟩) (Kd.N_far (p := ⟨gb312, 1, none⟩) (Kd.N_far (p := ⟨gb312, 0, none⟩) (Kd.N_mono HO_43.out (fun k_ hk => (⟨hk, hk.2⟩ : _ ∧ k_ ≠ gb312))) (fun _ hk => hk.2) (.int .i64 ((rd_T129 y308 x45_2).f0))) (fun _ hk => hk.2) (.int .i64 ((rd_T129 y308 x45_2).f1))) (fun _ hk => hk.2) (.slice A311_2 ((rd_T129 y308 x45_2).f2).length c311_2)) (fun _ hk => ⟨hk.1.1.1, ⟨hk.1.1.2.1, ⟨hk.1.1.2.2, hk.1.2⟩⟩⟩)⟩
       have n1_ : Aside0 (Kd.V k129 129 (((w33.setCell ⟨gb312, 0, none⟩ (.int .i64 ((rd_T129 y308 x45_2).f0))).setCell ⟨gb312, 1, none⟩ (.int .i64 ((rd_T129 y308 x45_2).f1))).setCell ⟨gb312, 2, none⟩ (.slice A311_2 ((rd_T129 y308 x45_2).f2).length c311_2)) w.heap.size (fun k_ => ((P1_1_ k_ ∨ P1_4_ k_) ∨ w.heap.size ≤ k_) ∧ some k_ ≠ (.slice (some ad311) y308.length co28 : Value).ownBlock ∧ k_ ≠ gb297 ∧ k_ ≠ gb298 ∧ k_ ≠ gb312) (.slice A1_1 l1_1.length c1_1) l1_1) := ⟨by (with_reducible repeat (first | apply Kd.V_alloc | apply Kd.V_drewN | apply Kd.V_drew)); exact Kd.V_mono (Kd.V_far (p := ⟨gb312, 2, none⟩) (Kd.V_far (p := ⟨gb312, 1, none⟩) (Kd.V_far (p := ⟨gb312, 0, none⟩) (Kd.V_mono HO_299001.out (fun k_ hk => (⟨hk, hk.2⟩ : _ ∧ k_ ≠ gb312))) (fun _ hk => hk.2) (.int .i64 ((rd_T129 y308 x45_2).f0))) (fun _ hk => hk.2) (.int .i64 ((rd_T129 y308 x45_2).f1))) (fun _ hk => hk.2) (.slice A311_2 ((rd_T129 y308 x45_2).f2).length c311_2)) (fun _ hk => ⟨hk.1.1.1, ⟨hk.1.1.2.1, ⟨hk.1.1.2.2.1, ⟨hk.1.1.2.2.2, hk.1.2⟩⟩⟩⟩)⟩
       have n2_ : Aside0 (Kd.V (Kd.int .i64) 3 (((w33.setCell ⟨gb312, 0, none⟩ (.int .i64 ((rd_T129 y308 x45_2).f0))).setCell ⟨gb312, 1, none⟩ (.int .i64 ((rd_T129 y308 x45_2).f1))).setCell ⟨gb312, 2, none⟩ (.slice A311_2 ((rd_T129 y308 x45_2).f2).length c311_2)) w.heap.size (fun k_ => ((P1_1_ k_ ∨ P1_4_ k_) ∨ w.heap.size ≤ k_) ∧ some k_ ≠ (.slice (some ad311) y308.length co28 : Value).ownBlock ∧ k_ ≠ gb297 ∧ k_ ≠ gb298 ∧ k_ ≠ gb312) (.slice A1_4 l1_4.length c1_4) l1_4) := ⟨by (with_reducible repeat (first | apply Kd.V_alloc | apply Kd.V_drewN | apply Kd.V_drew)); exact Kd.V_mono (Kd.V_far (p := ⟨gb312, 2, none⟩) (Kd.V_far (p := ⟨gb312, 1, none⟩) (Kd.V_far (p := ⟨gb312, 0, none⟩) (Kd.V_mono HO_299004.out (fun k_ hk => (⟨hk, hk.2⟩ : _ ∧ k_ ≠ gb312))) (fun _ hk => hk.2) (.int .i64 ((rd_T129 y308 x45_2).f0))) (fun _ hk => hk.2) (.int .i64 ((rd_T129 y308 x45_2).f1))) (fun _ hk => hk.2) (.slice A311_2 ((rd_T129 y308 x45_2).f2).length c311_2)) (fun _ hk => ⟨hk.1.1.1, ⟨hk.1.1.2.1, ⟨hk.1.1.2.2.1, ⟨hk.1.1.2.2.2, hk.1.2⟩⟩⟩⟩)⟩
       have n3_ : Aside0 (Kd.V (Kd.int .i64) 3 (((w33.setCell ⟨gb312, 0, none⟩ (.int .i64 ((rd_T129 y308 x45_2).f0))).setCell ⟨gb312, 1, none⟩ (.int .i64 ((rd_T129 y308 x45_2).f1))).setCell ⟨gb312, 2, none⟩ (.slice A311_2 ((rd_T129 y308 x45_2).f2).length c311_2)) w.heap.size (fun k_ => ((P1_1_ k_ ∨ P1_4_ k_) ∨ w.heap.size ≤ k_) ∧ some k_ ≠ (.slice (some ad311) y308.length co28 : Value).ownBlock ∧ k_ ≠ gb297 ∧ k_ ≠ gb298 ∧ k_ ≠ gb312) (.slice A311_2 ((rd_T129 y308 x45_2).f2).length c311_2) ((rd_T129 y308 x45_2).f2)) := ⟨by (with_reducible repeat (first | apply Kd.V_alloc | apply Kd.V_drewN | apply Kd.V_drew)); exact Kd.V_mono (Kd.V_far (p := ⟨gb312, 2, none⟩) (Kd.V_far (p := ⟨gb312, 1, none⟩) (Kd.V_far (p := ⟨gb312, 0, none⟩) (Kd.V_mono HL311_2.out (fun k_ hk => (⟨hk, hk.2⟩ : _ ∧ k_ ≠ gb312))) (fun _ hk => hk.2) (.int .i64 ((rd_T129 y308 x45_2).f0))) (fun _ hk => hk.2) (.int .i64 ((rd_T129 y308 x45_2).f1))) (fun _ hk => hk.2) (.slice A311_2 ((rd_T129 y308 x45_2).f2).length c311_2)) (fun _ hk => ⟨hk.1.1.1.1, ⟨hk.1.1.2, ⟨hk.1.1.1.2.1, ⟨hk.1.1.1.2.2, hk.1.2⟩⟩⟩⟩)⟩
       have n4_ : Aside0 ((((w33.setCell ⟨gb312, 0, none⟩ (.int .i64 ((rd_T129 y308 x45_2).f0))).setCell ⟨gb312, 1, none⟩ (.int .i64 ((rd_T129 y308 x45_2).f1))).setCell ⟨gb312, 2, none⟩ (.slice A311_2 ((rd_T129 y308 x45_2).f2).length c311_2)).heap[gb297]? = some (.cells #[.slice A0_0 l0_0.length c0_0, .slice A0_1 l0_1.length c0_1, .slice A0_2 l0_2.length c0_2, .slice A0_3 l0_3.length c0_3, .slice A0_4 l0_4.length c0_4] 70 (0, 0))) := ⟨by (with_reducible repeat (first | refine zn ?_ _ | refine zd ?_ | refine za ?_ _)); refine blk_far ?_ NB297_312.out _; (with_reducible repeat (first | refine zn ?_ _ | refine zd ?_ | refine za ?_ _)); refine blk_far ?_ NB297_312.out _; (with_reducible repeat (first | refine zn ?_ _ | refine zd ?_ | refine za ?_ _)); refine blk_far ?_ NB297_312.out _; (with_reducible repeat (first | refine zn ?_ _ | refine zd ?_ | refine za ?_ _)); exact BK297.out⟩
       have n5_ : Aside0 ((((w33.setCell ⟨gb312, 0, none⟩ (.int .i64 ((rd_T129 y308 x45_2).f0))).setCell ⟨gb312, 1, none⟩ (.int .i64 ((rd_T129 y308 x45_2).f1))).setCell ⟨gb312, 2, none⟩ (.slice A311_2 ((rd_T129 y308 x45_2).f2).length c311_2)).heap[gb298]? = some (.cells #[.slice A1_0 l1_0.length c1_0, .slice A1_1 l1_1.length c1_1, .int .i64 a1_2, .int .i64 a1_3, .slice A1_4 l1_4.length c1_4, .bool a1_5, .slice A1_6 l1_6.length c1_6] 132 (0, 0))) := ⟨by (with_reducible repeat (first | refine zn ?_ _ | refine zd ?_ | refine za ?_ _)); refine blk_far ?_ NB298_312.out _; (with_reducible repeat (first | refine zn ?_ _ | refine zd ?_ | refine za ?_ _)); refine blk_far ?_ NB298_312.out _; (with_reducible repeat (first | refine zn ?_ _ | refine zd ?_ | refine za ?_ _)); refine blk_far ?_ NB298_312.out _; (with_reducible repeat (first | refine zn ?_ _ | refine zd ?_ | refine za ?_ _)); exact BK298.out⟩
       have n6_ : Aside0 ((((w33.setCell ⟨gb312, 0, none⟩ (.int .i64 ((rd_T129 y308 x45_2).f0))).setCell ⟨gb312, 1, none⟩ (.int .i64 ((rd_T129 y308 x45_2).f1))).setCell ⟨gb312, 2, none⟩ (.slice A311_2 ((rd_T129 y308 x45_2).f2).length c311_2)).heap[gb312]? = some (.cells #[.int .i64 ((rd_T129 y308 x45_2).f0), .int .i64 ((rd_T129 y308 x45_2).f1), .slice A311_2 ((rd_T129 y308 x45_2).f2).length c311_2] 129 (0, 0))) := ⟨by (with_reducible repeat (first | refine zn ?_ _ | refine zd ?_ | refine za ?_ _)); refine blk_put (cs := #[.int .i64 ((rd_T129 y308 x45_2).f0), .int .i64 ((rd_T129 y308 x45_2).f1), .slice none 0 0]) ?_ 2 _ rfl; (with_reducible repeat (first | refine zn ?_ _ | refine zd ?_ | refine za ?_ _)); refine blk_put (cs := #[.int .i64 ((rd_T129 y308 x45_2).f0), .int .i64 0, .slice none 0 0]) ?_ 1 _ rfl; (with_reducible repeat (first | refine zn ?_ _ | refine zd ?_ | refine za ?_ _)); refine blk_put (cs := #[.int .i64 0, .int .i64 0, .slice none 0 0]) ?_ 0 _ rfl; (with_reducible repeat (first | refine zn ?_ _ | refine zd ?_ | refine za ?_ _)); exact BK312.out⟩
       have n7_ : Aside0 (Below w.heap.size w (((w33.setCell ⟨gb312, 0, none⟩ (.int .i64 ((rd_T129 y308 x45_2).f0))).setCell ⟨gb312, 1, none⟩ (.int .i64 ((rd_T129 y308 x45_2).f1))).setCell ⟨gb312, 2, none⟩ (.slice A311_2 ((rd_T129 y308 x45_2).f2).length c311_2))) := ⟨zB⟩
       (try clear HO_43)
       (try clear HO_299001)
       (try clear HO_299004)
       (try clear HL311_2)
       (try clear BK297)
       (try clear BK298)
       (try clear BK312)
       (try clear HB)
       generalize (((w33.setCell ⟨gb312, 0, none⟩ (.int .i64 ((rd_T129 y308 x45_2).f0))).setCell ⟨gb312, 1, none⟩ (.int .i64 ((rd_T129 y308 x45_2).f1))).setCell ⟨gb312, 2, none⟩ (.slice A311_2 ((rd_T129 y308 x45_2).f2).length c311_2)) = w38 at n0_ n1_ n2_ n3_ n4_ n5_ n6_ n7_ ⊢
       have HO_43 := n0_
       have HO_299001 := n1_
       have HO_299004 := n2_
       have HL311_2 := n3_
       have BK297 := n4_
       have BK298 := n5_
       have BK312 := n6_
       have HB := n7_
       clear n0_ n1_ n2_ n3_ n4_ n5_ n6_ n7_
       have n0_ := zK (Kd.N_drew HO_43.out)
       have n1_ := zK (Kd.V_drew HO_299001.out)
       have n2_ := zK (Kd.V_drew HO_299004.out)
       have n3_ := zK (Kd.V_drew HL311_2.out)
       have n4_ := zK (zd BK297.out)
       have n5_ := zK (zd BK298.out)
       have n6_ := zK (zd BK312.out)
       have n7_ := zK (ze HB.out)
       clear HO_43
       clear HO_299001
       clear HO_299004
       clear HL311_2
       clear BK297
       clear BK298
       clear BK312
       clear HB
       have HO_43 := n0_
       have HO_299001 := n1_
       have HO_299004 := n2_
       have HL311_2 := n3_
       have BK297 := n4_
       have BK298 := n5_
       have BK312 := n6_
       have HB := n7_
       clear n0_ n1_ n2_ n3_ n4_ n5_ n6_ n7_
       refine start_ (n := 24) (S := fun w' => w'.cell? ⟨gb312, 0, none⟩ = some (.int .i64 ((rd_T129 y308 x45_2).f0)) ∧ w'.cell? ⟨gb312, 1, none⟩ = some (.int .i64 ((rd_T129 y308 x45_2).f1)) ∧ w'.cell? ⟨gb312, 2, none⟩ = some (.slice A311_2 ((rd_T129 y308 x45_2).f2).length c311_2)) (ds := []) (bl 24 0) (by kernel_rfl) rfl (by kernel_rfl) ⟨zy BK312 0, zy BK312 1, zy BK312 2⟩ (fun hHeld => ?_); refine with_tabW impl_Nest_kernelOk.tab7 impl_Nest_kernelOk.bits7 (fun HT_ HW_ => ?_)
       generalize w38.drew = w39 at HO_43 HO_299001 HO_299004 HL311_2 BK297 BK298 BK312 HB hHeld ⊢
       refine zP 0 49 (bl 24 1) HT_ ?_
       refine zT 1 50 (bl 24 3) rfl rfl HT_ HW_ hHeld (by rintro w' ⟨s0, s1, s2⟩; go_simp; with_reducible rfl) ?_
       refine zP 2 51 (bl 24 7) HT_ ?_
       refine zP 3 52 (bl 24 15) HT_ ?_
       refine zO 4 53 (bl 24 31) HT_ ?_
       refine zO 5 54 (bl 24 63) HT_ ?_
       refine zO 6 55 (bl 24 127) HT_ ?_
       refine zO 7 56 (bl 24 255) HT_ ?_
       refine zO 8 57 (bl 24 511) HT_ ?_
       refine zO 9 58 (bl 24 1023) HT_ ?_
       refine zP 10 59 (bl 24 2047) HT_ ?_
       refine zP 11 60 (bl 24 4095) HT_ ?_
       refine zO 12 61 (bl 24 8191) HT_ ?_
       refine zO 13 62 (bl 24 16383) HT_ ?_
       refine zO 14 63 (bl 24 32767) HT_ ?_
       refine zO 15 64 (bl 24 65535) HT_ ?_
       refine zO 16 65 (bl 24 131071) HT_ ?_
       refine zO 17 66 (bl 24 262143) HT_ ?_
       refine zO 18 67 (bl 24 524287) HT_ ?_
       refine zO 19 68 (bl 24 1048575) HT_ ?_
       refine zO 20 69 (bl 24 2097151) HT_ ?_
       refine zO 21 70 (bl 24 4194303) HT_ ?_
       refine zO 22 71 (bl 24 8388607) HT_ ?_
       refine zP 23 72 (bl 24 16777215) HT_ ?_
       refine done_ (done_of HT_.out (by kernel_rfl)) ?_
       try go_wp2
       go_meet
       case rel => exact ⟨_, (true), zR, H', ⟨by have := HJ4.out; have := HK2.out; first | omega | exact Nat.le_refl _⟩, ⟨by (with_reducible repeat (first | apply Kd.N_alloc | apply Kd.N_drewN | apply Kd.N_drew)); exact Kd.N_mono HO_43.out (fun _ hk => ⟨hk.1, ⟨hk.2.1, hk.2.2.1⟩⟩)⟩, ⟨by (with_reducible repeat (first | apply Kd.V_alloc | apply Kd.V_drewN | apply Kd.V_drew)); exact Kd.V_mono HO_299001.out (fun _ hk => ⟨hk.1, ⟨hk.2.1, ⟨hk.2.2.1, hk.2.2.2.1⟩⟩⟩)⟩, ⟨by (with_reducible repeat (first | apply Kd.V_alloc | apply Kd.V_drewN | apply Kd.V_drew)); exact Kd.V_mono HO_299004.out (fun _ hk => ⟨hk.1, ⟨hk.2.1, ⟨hk.2.2.1, hk.2.2.2.1⟩⟩⟩)⟩, ⟨zM BK297⟩, ⟨zM BK298⟩, ⟨zB⟩⟩
     rw [if_neg c37] at H
     have c37b0 : decide (((rd_T129 y308 x45_2).f0) < 0) = false := decide_eq_false c37
     clear c37
     (first | rw [c37b0] | (simp only [i64_w, i32_w]; rw [c37b0]) | skip)
     by_cases c40 : ((rd_T129 y308 x45_2).f0) ≥ (l0_0.length : Int)
     · as_aux_lemma =>
       rw [if_pos c40] at H
       have c40b0 : decide ((l0_0.length : Int) ≤ ((rd_T129 y308 x45_2).f0)) = true := decide_eq_true c40
       clear c40
       have H' := zK H
       clear H
       try go_wp2
       have n0_ : Aside0 (Kd.N k129 129 (((w33.setCell ⟨gb312, 0, none⟩ (.int .i64 ((rd_T129 y308 x45_2).f0))).setCell ⟨gb312, 1, none⟩ (.int .i64 ((rd_T129 y308 x45_2).f1))).setCell ⟨gb312, 2, none⟩ (.slice A311_2 ((rd_T129 y308 x45_2).f2).length c311_2)) w.heap.size (fun k_ => ((P1_1_ k_ ∨ P1_4_ k_) ∨ w.heap.size ≤ k_) ∧ k_ ≠ gb297 ∧ k_ ≠ gb298 ∧ k_ ≠ gb312) (.slice (some ad311) y308.length co28) y308) := ⟨by (with_reducible repeat (first | apply Kd.N_alloc | apply Kd.N_drewN | apply Kd.N_drew)); exact Kd.N_mono (Kd.N_far (p := ⟨gb312, 2, none⟩) (Kd.N_far (p := ⟨gb312, 1, none⟩) (Kd.N_far (p := ⟨gb312, 0, none⟩) (Kd.N_mono HO_43.out (fun k_ hk => (⟨hk, hk.2⟩ : _ ∧ k_ ≠ gb312))) (fun _ hk => hk.2) (.int .i64 ((rd_T129 y308 x45_2).f0))) (fun _ hk => hk.2) (.int .i64 ((rd_T129 y308 x45_2).f1))) (fun _ hk => hk.2) (.slice A311_2 ((rd_T129 y308 x45_2).f2).length c311_2)) (fun _ hk => ⟨hk.1.1.1, ⟨hk.1.1.2.1, ⟨hk.1.1.2.2, hk.1.2⟩⟩⟩)⟩
       have n1_ : Aside0 (Kd.V k129 129 (((w33.setCell ⟨gb312, 0, none⟩ (.int .i64 ((rd_T129 y308 x45_2).f0))).setCell ⟨gb312, 1, none⟩ (.int .i64 ((rd_T129 y308 x45_2).f1))).setCell ⟨gb312, 2, none⟩ (.slice A311_2 ((rd_T129 y308 x45_2).f2).length c311_2)) w.heap.size (fun k_ => ((P1_1_ k_ ∨ P1_4_ k_) ∨ w.heap.size ≤ k_) ∧ some k_ ≠ (.slice (some ad311) y308.length co28 : Value).ownBlock ∧ k_ ≠ gb297 ∧ k_ ≠ gb298 ∧ k_ ≠ gb312) (.slice A1_1 l1_1.length c1_1) l1_1) := ⟨by (with_reducible repeat (first | apply Kd.V_alloc | apply Kd.V_drewN | apply Kd.V_drew)); exact Kd.V_mono (Kd.V_far (p := ⟨gb312, 2, none⟩) (Kd.V_far (p := ⟨gb312, 1, none⟩) (Kd.V_far (p := ⟨gb312, 0, none⟩) (Kd.V_mono HO_299001.out (fun k_ hk => (⟨hk, hk.2⟩ : _ ∧ k_ ≠ gb312))) (fun _ hk => hk.2) (.int .i64 ((rd_T129 y308 x45_2).f0))) (fun _ hk => hk.2) (.int .i64 ((rd_T129 y308 x45_2).f1))) (fun _ hk => hk.2) (.slice A311_2 ((rd_T129 y308 x45_2).f2).length c311_2)) (fun _ hk => ⟨hk.1.1.1, ⟨hk.1.1.2.1, ⟨hk.1.1.2.2.1, ⟨hk.1.1.2.2.2, hk.1.2⟩⟩⟩⟩)⟩
       have n2_ : Aside0 (Kd.V (Kd.int .i64) 3 (((w33.setCell ⟨gb312, 0, none⟩ (.int .i64 ((rd_T129 y308 x45_2).f0))).setCell ⟨gb312, 1, none⟩ (.int .i64 ((rd_T129 y308 x45_2).f1))).setCell ⟨gb312, 2, none⟩ (.slice A311_2 ((rd_T129 y308 x45_2).f2).length c311_2)) w.heap.size (fun k_ => ((P1_1_ k_ ∨ P1_4_ k_) ∨ w.heap.size ≤ k_) ∧ some k_ ≠ (.slice (some ad311) y308.length co28 : Value).ownBlock ∧ k_ ≠ gb297 ∧ k_ ≠ gb298 ∧ k_ ≠ gb312) (.slice A1_4 l1_4.length c1_4) l1_4) := ⟨by (with_reducible repeat (first | apply Kd.V_alloc | apply Kd.V_drewN | apply Kd.V_drew)); exact Kd.V_mono (Kd.V_far (p := ⟨gb312, 2, none⟩) (Kd.V_far (p := ⟨gb312, 1, none⟩) (Kd.V_far (p := ⟨gb312, 0, none⟩) (Kd.V_mono HO_299004.out (fun k_ hk => (⟨hk, hk.2⟩ : _ ∧ k_ ≠ gb312))) (fun _ hk => hk.2) (.int .i64 ((rd_T129 y308 x45_2).f0))) (fun _ hk => hk.2) (.int .i64 ((rd_T129 y308 x45_2).f1))) (fun _ hk => hk.2) (.slice A311_2 ((rd_T129 y308 x45_2).f2).length c311_2)) (fun _ hk => ⟨hk.1.1.1, ⟨hk.1.1.2.1, ⟨hk.1.1.2.2.1, ⟨hk.1.1.2.2.2, hk.1.2⟩⟩⟩⟩)⟩
       have n3_ : Aside0 (Kd.V (Kd.int .i64) 3 (((w33.setCell ⟨gb312, 0, none⟩ (.int .i64 ((rd_T129 y308 x45_2).f0))).setCell ⟨gb312, 1, none⟩ (.int .i64 ((rd_T129 y308 x45_2).f1))).setCell ⟨gb312, 2, none⟩ (.slice A311_2 ((rd_T129 y308 x45_2).f2).length c311_2)) w.heap.size (fun k_ => ((P1_1_ k_ ∨ P1_4_ k_) ∨ w.heap.size ≤ k_) ∧ some k_ ≠ (.slice (some ad311) y308.length co28 : Value).ownBlock ∧ k_ ≠ gb297 ∧ k_ ≠ gb298 ∧ k_ ≠ gb312) (.slice A311_2 ((rd_T129 y308 x45_2).f2).length c311_2) ((rd_T129 y308 x45_2).f2)) := ⟨by (with_reducible repeat (first | apply Kd.V_alloc | apply Kd.V_drewN | apply Kd.V_drew)); exact Kd.V_mono (Kd.V_far (p := ⟨gb312, 2, none⟩) (Kd.V_far (p := ⟨gb312, 1, none⟩) (Kd.V_far (p := ⟨gb312, 0, none⟩) (Kd.V_mono HL311_2.out (fun k_ hk => (⟨hk, hk.2⟩ : _ ∧ k_ ≠ gb312))) (fun _ hk => hk.2) (.int .i64 ((rd_T129 y308 x45_2).f0))) (fun _ hk => hk.2) (.int .i64 ((rd_T129 y308 x45_2).f1))) (fun _ hk => hk.2) (.slice A311_2 ((rd_T129 y308 x45_2).f2).length c311_2)) (fun _ hk => ⟨hk.1.1.1.1, ⟨hk.1.1.2, ⟨hk.1.1.1.2.1, ⟨hk.1.1.1.2.2, hk.1.2⟩⟩⟩⟩)⟩
       have n4_ : Aside0 ((((w33.setCell ⟨gb312, 0, none⟩ (.int .i64 ((rd_T129 y308 x45_2).f0))).setCell ⟨gb312, 1, none⟩ (.int .i64 ((rd_T129 y308 x45_2).f1))).setCell ⟨gb312, 2, none⟩ (.slice A311_2 ((rd_T129 y308 x45_2).f2).length c311_2)).heap[gb297]? = some (.cells #[.slice A0_0 l0_0.length c0_0, .slice A0_1 l0_1.length c0_1, .slice A0_2 l0_2.length c0_2, .slice A0_3 l0_3.length c0_3, .slice A0_4 l0_4.length c0_4] 70 (0, 0))) := ⟨by (with_reducible repeat (first | refine zn ?_ _ | refine zd ?_ | refine za ?_ _)); refine blk_far ?_ NB297_312.out _; (with_reducible repeat (first | refine zn ?_ _ | refine zd ?_ | refine za ?_ _)); refine blk_far ?_ NB297_312.out _; (with_reducible repeat (first | refine zn ?_ _ | refine zd ?_ | refine za ?_ _)); refine blk_far ?_ NB297_312.out _; (with_reducible repeat (first | refine zn ?_ _ | refine zd ?_ | refine za ?_ _)); exact BK297.out⟩
       have n5_ : Aside0 ((((w33.setCell ⟨gb312, 0, none⟩ (.int .i64 ((rd_T129 y308 x45_2).f0))).setCell ⟨gb312, 1, none⟩ (.int .i64 ((rd_T129 y308 x45_2).f1))).setCell ⟨gb312, 2, none⟩ (.slice A311_2 ((rd_T129 y308 x45_2).f2).length c311_2)).heap[gb298]? = some (.cells #[.slice A1_0 l1_0.length c1_0, .slice A1_1 l1_1.length c1_1, .int .i64 a1_2, .int .i64 a1_3, .slice A1_4 l1_4.length c1_4, .bool a1_5, .slice A1_6 l1_6.length c1_6] 132 (0, 0))) := ⟨by (with_reducible repeat (first | refine zn ?_ _ | refine zd ?_ | refine za ?_ _)); refine blk_far ?_ NB298_312.out _; (with_reducible repeat (first | refine zn ?_ _ | refine zd ?_ | refine za ?_ _)); refine blk_far ?_ NB298_312.out _; (with_reducible repeat (first | refine zn ?_ _ | refine zd ?_ | refine za ?_ _)); refine blk_far ?_ NB298_312.out _; (with_reducible repeat (first | refine zn ?_ _ | refine zd ?_ | refine za ?_ _)); exact BK298.out⟩
       have n6_ : Aside0 ((((w33.setCell ⟨gb312, 0, none⟩ (.int .i64 ((rd_T129 y308 x45_2).f0))).setCell ⟨gb312, 1, none⟩ (.int .i64 ((rd_T129 y308 x45_2).f1))).setCell ⟨gb312, 2, none⟩ (.slice A311_2 ((rd_T129 y308 x45_2).f2).length c311_2)).heap[gb312]? = some (.cells #[.int .i64 ((rd_T129 y308 x45_2).f0), .int .i64 ((rd_T129 y308 x45_2).f1), .slice A311_2 ((rd_T129 y308 x45_2).f2).length c311_2] 129 (0, 0))) := ⟨by (with_reducible repeat (first | refine zn ?_ _ | refine zd ?_ | refine za ?_ _)); refine blk_put (cs := #[.int .i64 ((rd_T129 y308 x45_2).f0), .int .i64 ((rd_T129 y308 x45_2).f1), .slice none 0 0]) ?_ 2 _ rfl; (with_reducible repeat (first | refine zn ?_ _ | refine zd ?_ | refine za ?_ _)); refine blk_put (cs := #[.int .i64 ((rd_T129 y308 x45_2).f0), .int .i64 0, .slice none 0 0]) ?_ 1 _ rfl; (with_reducible repeat (first | refine zn ?_ _ | refine zd ?_ | refine za ?_ _)); refine blk_put (cs := #[.int .i64 0, .int .i64 0, .slice none 0 0]) ?_ 0 _ rfl; (with_reducible repeat (first | refine zn ?_ _ | refine zd ?_ | refine za ?_ _)); exact BK312.out⟩
       have n7_ : Aside0 (Below w.heap.size w (((w33.setCell ⟨gb312, 0, none⟩ (.int .i64 ((rd_T129 y308 x45_2).f0))).setCell ⟨gb312, 1, none⟩ (.int .i64 ((rd_T129 y308 x45_2).f1))).setCell ⟨gb312, 2, none⟩ (.slice A311_2 ((rd_T129 y308 x45_2).f2).length c311_2))) := ⟨zB⟩
       (try clear HO_43)
       (try clear HO_299001)
       (try clear HO_299004)
       (try clear HL311_2)
       (try clear BK297)
       (try clear BK298)
       (try clear BK312)
       (try clear HB)
       generalize (((w33.setCell ⟨gb312, 0, none⟩ (.int .i64 ((rd_T129 y308 x45_2).f0))).setCell ⟨gb312, 1, none⟩ (.int .i64 ((rd_T129 y308 x45_2).f1))).setCell ⟨gb312, 2, none⟩ (.slice A311_2 ((rd_T129 y308 x45_2).f2).length c311_2)) = w41 at n0_ n1_ n2_ n3_ n4_ n5_ n6_ n7_ ⊢
       have HO_43 := n0_
       have HO_299001 := n1_
       have HO_299004 := n2_
       have HL311_2 := n3_
       have BK297 := n4_
       have BK298 := n5_
       have BK312 := n6_
       have HB := n7_
       clear n0_ n1_ n2_ n3_ n4_ n5_ n6_ n7_
       have n0_ := zK (Kd.N_drew HO_43.out)
       have n1_ := zK (Kd.V_drew HO_299001.out)
       have n2_ := zK (Kd.V_drew HO_299004.out)
       have n3_ := zK (Kd.V_drew HL311_2.out)
       have n4_ := zK (zd BK297.out)
       have n5_ := zK (zd BK298.out)
       have n6_ := zK (zd BK312.out)
       have n7_ := zK (ze HB.out)
       clear HO_43
       clear HO_299001
       clear HO_299004
       clear HL311_2
       clear BK297
       clear BK298
       clear BK312
       clear HB
       have HO_43 := n0_
       have HO_299001 := n1_
       have HO_299004 := n2_
       have HL311_2 := n3_
       have BK297 := n4_
       have BK298 := n5_
       have BK312 := n6_
       have HB := n7_
       clear n0_ n1_ n2_ n3_ n4_ n5_ n6_ n7_
       refine start_ (n := 24) (S := fun w' => w'.cell? ⟨gb312, 0, none⟩ = some (.int .i64 ((rd_T129 y308 x45_2).f0)) ∧ w'.cell? ⟨gb312, 1, none⟩ = some (.int .i64 ((rd_T129 y308 x45_2).f1)) ∧ w'.cell? ⟨gb312, 2, none⟩ = some (.slice A311_2 ((rd_T129 y308 x45_2).f2).length c311_2) ∧ w'.cell? ⟨gb297, 0, none⟩ = some (.slice A0_0 l0_0.length c0_0) ∧ w'.cell? ⟨gb297, 1, none⟩ = some (.slice A0_1 l0_1.length c0_1) ∧ w'.cell? ⟨gb297, 2, none⟩ = some (.slice A0_2 l0_2.length c0_2) ∧ w'.cell? ⟨gb297, 3, none⟩ = some (.slice A0_3 l0_3.length c0_3) ∧ w'.cell? ⟨gb297, 4, none⟩ = some (.slice A0_4 l0_4.length c0_4)) (ds := []) (bl 24 0) (by kernel_rfl) rfl (by kernel_rfl) ⟨zy BK312 0, zy BK312 1, zy BK312 2, zy BK297 0, zy BK297 1, zy BK297 2, zy BK297 3, zy BK297 4⟩ (fun hHeld => ?_); refine with_tabW impl_Nest_kernelOk.tab7 impl_Nest_kernelOk.bits7 (fun HT_ HW_ => ?_)
       generalize w41.drew = w42 at HO_43 HO_299001 HO_299004 HL311_2 BK297 BK298 BK312 HB hHeld ⊢
       refine zP 0 49 (bl 24 1) HT_ ?_
       refine zT 1 50 (bl 24 3) rfl rfl HT_ HW_ hHeld (by rintro w' ⟨s0, s1, s2, s3, s4, s5, s6, s7⟩; go_simp; with_reducible rfl) ?_
       refine zP 2 51 (bl 24 7) HT_ ?_
       refine zP 3 52 (bl 24 15) HT_ ?_
       refine zP 4 53 (bl 24 31) HT_ ?_
       refine zP 6 55 (bl 24 95) HT_ ?_
       refine zT 5 54 (bl 24 127) rfl rfl HT_ HW_ hHeld (by rintro w' ⟨s0, s1, s2, s3, s4, s5, s6, s7⟩; go_simp; with_reducible rfl) ?_
       refine zT 7 56 (bl 24 255) rfl rfl HT_ HW_ hHeld (by rintro w' ⟨s0, s1, s2, s3, s4, s5, s6, s7⟩; go_simp; with_reducible rfl) ?_
       refine zP 8 57 (bl 24 511) HT_ ?_
       refine zP 9 58 (bl 24 1023) HT_ ?_
       refine zP 10 59 (bl 24 2047) HT_ ?_
       refine zP 11 60 (bl 24 4095) HT_ ?_
       refine zO 12 61 (bl 24 8191) HT_ ?_
       refine zO 13 62 (bl 24 16383) HT_ ?_
       refine zO 14 63 (bl 24 32767) HT_ ?_
       refine zO 15 64 (bl 24 65535) HT_ ?_
       refine zO 16 65 (bl 24 131071) HT_ ?_
       refine zO 17 66 (bl 24 262143) HT_ ?_
       refine zO 18 67 (bl 24 524287) HT_ ?_
       refine zO 19 68 (bl 24 1048575) HT_ ?_
       refine zO 20 69 (bl 24 2097151) HT_ ?_
       refine zO 21 70 (bl 24 4194303) HT_ ?_
       refine zO 22 71 (bl 24 8388607) HT_ ?_
       refine zP 23 72 (bl 24 16777215) HT_ ?_
       refine done_ (done_of HT_.out (by kernel_rfl)) ?_
       try go_wp2
       go_meet
       case rel => exact ⟨_, (true), zR, H', ⟨by have := HJ4.out; have := HK2.out; first | omega | exact Nat.le_refl _⟩, ⟨by (with_reducible repeat (first | apply Kd.N_alloc | apply Kd.N_drewN | apply Kd.N_drew)); exact Kd.N_mono HO_43.out (fun _ hk => ⟨hk.1, ⟨hk.2.1, hk.2.2.1⟩⟩)⟩, ⟨by (with_reducible repeat (first | apply Kd.V_alloc | apply Kd.V_drewN | apply Kd.V_drew)); exact Kd.V_mono HO_299001.out (fun _ hk => ⟨hk.1, ⟨hk.2.1, ⟨hk.2.2.1, hk.2.2.2.1⟩⟩⟩)⟩, ⟨by (with_reducible repeat (first | apply Kd.V_alloc | apply Kd.V_drewN | apply Kd.V_drew)); exact Kd.V_mono HO_299004.out (fun _ hk => ⟨hk.1, ⟨hk.2.1, ⟨hk.2.2.1, hk.2.2.2.1⟩⟩⟩)⟩, ⟨zM BK297⟩, ⟨zM BK298⟩, ⟨zB⟩⟩
     rw [if_neg c40] at H
     have c40b0 : decide ((l0_0.length : Int) ≤ ((rd_T129 y308 x45_2).f0)) = false := decide_eq_false c40
     clear c40
     by_cases c43 : 0 ≤ ((rd_T129 y308 x45_2).f0)
     rotate_left
     · rw [if_neg c43] at H
       exact absurd H (by simp)
     rw [if_pos c43] at H
     have c43b0 : decide (0 ≤ ((rd_T129 y308 x45_2).f0)) = true := decide_eq_true c43
     clear c43
     by_cases c44 : ((rd_T129 y308 x45_2).f0) < (l0_0.length : Int)
     rotate_left
     · rw [if_neg c44] at H
       exact absurd H (by simp)
     rw [if_pos c44] at H
     have c44b0 : decide (((rd_T129 y308 x45_2).f0) < (l0_0.length : Int)) = true := decide_eq_true c44
     clear c44
     replace H := Option.bind_eq_some_iff.mp H
     obtain ⟨t314, A450, H⟩ := H
     replace H : (impl_Nest_kernelOk.j2 k2 l2 t299 y308 (y308.length : Int) x45_2 (!t314) l0_0 l0_1 l0_2 l0_3 l0_4 l1_0 l1_1 a1_2 a1_3 l1_4 a1_5 l1_6) = some (r1, r2) := H
     have A45 := zK A450
     clear A450
     have H' := zK H
     clear H
     try go_wp2
     have n0_ : Aside0 (Kd.N k129 129 (((w33.setCell ⟨gb312, 0, none⟩ (.int .i64 ((rd_T129 y308 x45_2).f0))).setCell ⟨gb312, 1, none⟩ (.int .i64 ((rd_T129 y308 x45_2).f1))).setCell ⟨gb312, 2, none⟩ (.slice A311_2 ((rd_T129 y308 x45_2).f2).length c311_2)) w.heap.size (fun k_ => ((P1_1_ k_ ∨ P1_4_ k_) ∨ w.heap.size ≤ k_) ∧ k_ ≠ gb297 ∧ k_ ≠ gb298 ∧ k_ ≠ gb312) (.slice (some ad311) y308.length co28) y308) := ⟨by (with_reducible repeat (first | apply Kd.N_alloc | apply Kd.N_drewN | apply Kd.N_drew)); exact Kd.N_mono (Kd.N_far (p := ⟨gb312, 2, none⟩) (Kd.N_far (p := ⟨gb312, 1, none⟩) (Kd.N_far (p := ⟨gb312, 0, none⟩) (Kd.N_mono HO_43.out (fun k_ hk => (⟨hk, hk.2⟩ : _ ∧ k_ ≠ gb312))) (fun _ hk => hk.2) (.int .i64 ((rd_T129 y308 x45_2).f0))) (fun _ hk => hk.2) (.int .i64 ((rd_T129 y308 x45_2).f1))) (fun _ hk => hk.2) (.slice A311_2 ((rd_T129 y308 x45_2).f2).length c311_2)) (fun _ hk => ⟨hk.1.1.1, ⟨hk.1.1.2.1, ⟨hk.1.1.2.2, hk.1.2⟩⟩⟩)⟩
     have n1_ : Aside0 (Kd.V k129 129 (((w33.setCell ⟨gb312, 0, none⟩ (.int .i64 ((rd_T129 y308 x45_2).f0))).setCell ⟨gb312, 1, none⟩ (.int .i64 ((rd_T129 y308 x45_2).f1))).setCell ⟨gb312, 2, none⟩ (.slice A311_2 ((rd_T129 y308 x45_2).f2).length c311_2)) w.heap.size (fun k_ => ((P1_1_ k_ ∨ P1_4_ k_) ∨ w.heap.size ≤ k_) ∧ some k_ ≠ (.slice (some ad311) y308.length co28 : Value).ownBlock ∧ k_ ≠ gb297 ∧ k_ ≠ gb298 ∧ k_ ≠ gb312) (.slice A1_1 l1_1.length c1_1) l1_1) := ⟨by (with_reducible repeat (first | apply Kd.V_alloc | apply Kd.V_drewN | apply Kd.V_drew)); exact Kd.V_mono (Kd.V_far (p := ⟨gb312, 2, none⟩) (Kd.V_far (p := ⟨gb312, 1, none⟩) (Kd.V_far (p := ⟨gb312, 0, none⟩) (Kd.V_mono HO_299001.out (fun k_ hk => (⟨hk, hk.2⟩ : _ ∧ k_ ≠ gb312))) (fun _ hk => hk.2) (.int .i64 ((rd_T129 y308 x45_2).f0))) (fun _ hk => hk.2) (.int .i64 ((rd_T129 y308 x45_2).f1))) (fun _ hk => hk.2) (.slice A311_2 ((rd_T129 y308 x45_2).f2).length c311_2)) (fun _ hk => ⟨hk.1.1.1, ⟨hk.1.1.2.1, ⟨hk.1.1.2.2.1, ⟨hk.1.1.2.2.2, hk.1.2⟩⟩⟩⟩)⟩
     have n2_ : Aside0 (Kd.V (Kd.int .i64) 3 (((w33.setCell ⟨gb312, 0, none⟩ (.int .i64 ((rd_T129 y308 x45_2).f0))).setCell ⟨gb312, 1, none⟩ (.int .i64 ((rd_T129 y308 x45_2).f1))).setCell ⟨gb312, 2, none⟩ (.slice A311_2 ((rd_T129 y308 x45_2).f2).length c311_2)) w.heap.size (fun k_ => ((P1_1_ k_ ∨ P1_4_ k_) ∨ w.heap.size ≤ k_) ∧ some k_ ≠ (.slice (some ad311) y308.length co28 : Value).ownBlock ∧ k_ ≠ gb297 ∧ k_ ≠ gb298 ∧ k_ ≠ gb312) (.slice A1_4 l1_4.length c1_4) l1_4) := ⟨by (with_reducible repeat (first | apply Kd.V_alloc | apply Kd.V_drewN | apply Kd.V_drew)); exact Kd.V_mono (Kd.V_far (p := ⟨gb312, 2, none⟩) (Kd.V_far (p := ⟨gb312, 1, none⟩) (Kd.V_far (p := ⟨gb312, 0, none⟩) (Kd.V_mono HO_299004.out (fun k_ hk => (⟨hk, hk.2⟩ : _ ∧ k_ ≠ gb312))) (fun _ hk => hk.2) (.int .i64 ((rd_T129 y308 x45_2).f0))) (fun _ hk => hk.2) (.int .i64 ((rd_T129 y308 x45_2).f1))) (fun _ hk => hk.2) (.slice A311_2 ((rd_T129 y308 x45_2).f2).length c311_2)) (fun _ hk => ⟨hk.1.1.1, ⟨hk.1.1.2.1, ⟨hk.1.1.2.2.1, ⟨hk.1.1.2.2.2, hk.1.2⟩⟩⟩⟩)⟩
     have n3_ : Aside0 (Kd.V (Kd.int .i64) 3 (((w33.setCell ⟨gb312, 0, none⟩ (.int .i64 ((rd_T129 y308 x45_2).f0))).setCell ⟨gb312, 1, none⟩ (.int .i64 ((rd_T129 y308 x45_2).f1))).setCell ⟨gb312, 2, none⟩ (.slice A311_2 ((rd_T129 y308 x45_2).f2).length c311_2)) w.heap.size (fun k_ => ((P1_1_ k_ ∨ P1_4_ k_) ∨ w.heap.size ≤ k_) ∧ some k_ ≠ (.slice (some ad311) y308.length co28 : Value).ownBlock ∧ k_ ≠ gb297 ∧ k_ ≠ gb298 ∧ k_ ≠ gb312) (.slice A311_2 ((rd_T129 y308 x45_2).f2).length c311_2) ((rd_T129 y308 x45_2).f2)) := ⟨by (with_reducible repeat (first | apply Kd.V_alloc | apply Kd.V_drewN | apply Kd.V_drew)); exact Kd.V_mono (Kd.V_far (p := ⟨gb312, 2, none⟩) (Kd.V_far (p := ⟨gb312, 1, none⟩) (Kd.V_far (p := ⟨gb312, 0, none⟩) (Kd.V_mono HL311_2.out (fun k_ hk => (⟨hk, hk.2⟩ : _ ∧ k_ ≠ gb312))) (fun _ hk => hk.2) (.int .i64 ((rd_T129 y308 x45_2).f0))) (fun _ hk => hk.2) (.int .i64 ((rd_T129 y308 x45_2).f1))) (fun _ hk => hk.2) (.slice A311_2 ((rd_T129 y308 x45_2).f2).length c311_2)) (fun _ hk => ⟨hk.1.1.1.1, ⟨hk.1.1.2, ⟨hk.1.1.1.2.1, ⟨hk.1.1.1.2.2, hk.1.2⟩⟩⟩⟩)⟩
     have n4_ : Aside0 ((((w33.setCell ⟨gb312, 0, none⟩ (.int .i64 ((rd_T129 y308 x45_2).f0))).setCell ⟨gb312, 1, none⟩ (.int .i64 ((rd_T129 y308 x45_2).f1))).setCell ⟨gb312, 2, none⟩ (.slice A311_2 ((rd_T129 y308 x45_2).f2).length c311_2)).heap[gb297]? = some (.cells #[.slice A0_0 l0_0.length c0_0, .slice A0_1 l0_1.length c0_1, .slice A0_2 l0_2.length c0_2, .slice A0_3 l0_3.length c0_3, .slice A0_4 l0_4.length c0_4] 70 (0, 0))) := ⟨by (with_reducible repeat (first | refine zn ?_ _ | refine zd ?_ | refine za ?_ _)); refine blk_far ?_ NB297_312.out _; (with_reducible repeat (first | refine zn ?_ _ | refine zd ?_ | refine za ?_ _)); refine blk_far ?_ NB297_312.out _; (with_reducible repeat (first | refine zn ?_ _ | refine zd ?_ | refine za ?_ _)); refine blk_far ?_ NB297_312.out _; (with_reducible repeat (first | refine zn ?_ _ | refine zd ?_ | refine za ?_ _)); exact BK297.out⟩
     have n5_ : Aside0 ((((w33.setCell ⟨gb312, 0, none⟩ (.int .i64 ((rd_T129 y308 x45_2).f0))).setCell ⟨gb312, 1, none⟩ (.int .i64 ((rd_T129 y308 x45_2).f1))).setCell ⟨gb312, 2, none⟩ (.slice A311_2 ((rd_T129 y308 x45_2).f2).length c311_2)).heap[gb298]? = some (.cells #[.slice A1_0 l1_0.length c1_0, .slice A1_1 l1_1.length c1_1, .int .i64 a1_2, .int .i64 a1_3, .slice A1_4 l1_4.length c1_4, .bool a1_5, .slice A1_6 l1_6.length c1_6] 132 (0, 0))) := ⟨by (with_reducible repeat (first | refine zn ?_ _ | refine zd ?_ | refine za ?_ _)); refine blk_far ?_ NB298_312.out _; (with_reducible repeat (first | refine zn ?_ _ | refine zd ?_ | refine za ?_ _)); refine blk_far ?_ NB298_312.out _; (with_reducible repeat (first | refine zn ?_ _ | refine zd ?_ | refine za ?_ _)); refine blk_far ?_ NB298_312.out _; (with_reducible repeat (first | refine zn ?_ _ | refine zd ?_ | refine za ?_ _)); exact BK298.out⟩
     have n6_ : Aside0 ((((w33.setCell ⟨gb312, 0, none⟩ (.int .i64 ((rd_T129 y308 x45_2).f0))).setCell ⟨gb312, 1, none⟩ (.int .i64 ((rd_T129 y308 x45_2).f1))).setCell ⟨gb312, 2, none⟩ (.slice A311_2 ((rd_T129 y308 x45_2).f2).length c311_2)).heap[gb312]? = some (.cells #[.int .i64 ((rd_T129 y308 x45_2).f0), .int .i64 ((rd_T129 y308 x45_2).f1), .slice A311_2 ((rd_T129 y308 x45_2).f2).length c311_2] 129 (0, 0))) := ⟨by (with_reducible repeat (first | refine zn ?_ _ | refine zd ?_ | refine za ?_ _)); refine blk_put (cs := #[.int .i64 ((rd_T129 y308 x45_2).f0), .int .i64 ((rd_T129 y308 x45_2).f1), .slice none 0 0]) ?_ 2 _ rfl; (with_reducible repeat (first | refine zn ?_ _ | refine zd ?_ | refine za ?_ _)); refine blk_put (cs := #[.int .i64 ((rd_T129 y308 x45_2).f0), .int .i64 0, .slice none 0 0]) ?_ 1 _ rfl; (with_reducible repeat (first | refine zn ?_ _ | refine zd ?_ | refine za ?_ _)); refine blk_put (cs := #[.int .i64 0, .int .i64 0, .slice none 0 0]) ?_ 0 _ rfl; (with_reducible repeat (first | refine zn ?_ _ | refine zd ?_ | refine za ?_ _)); exact BK312.out⟩
     have n7_ : Aside0 (Below w.heap.size w (((w33.setCell ⟨gb312, 0, none⟩ (.int .i64 ((rd_T129 y308 x45_2).f0))).setCell ⟨gb312, 1, none⟩ (.int .i64 ((rd_T129 y308 x45_2).f1))).setCell ⟨gb312, 2, none⟩ (.slice A311_2 ((rd_T129 y308 x45_2).f2).length c311_2))) := ⟨zB⟩
     (try clear HO_43)
     (try clear HO_299001)
     (try clear HO_299004)
     (try clear HL311_2)
     (try clear BK297)
     (try clear BK298)
     (try clear BK312)
     (try clear HB)
     generalize (((w33.setCell ⟨gb312, 0, none⟩ (.int .i64 ((rd_T129 y308 x45_2).f0))).setCell ⟨gb312, 1, none⟩ (.int .i64 ((rd_T129 y308 x45_2).f1))).setCell ⟨gb312, 2, none⟩ (.slice A311_2 ((rd_T129 y308 x45_2).f2).length c311_2)) = w46 at n0_ n1_ n2_ n3_ n4_ n5_ n6_ n7_ ⊢
     have HO_43 := n0_
     have HO_299001 := n1_
     have HO_299004 := n2_
     have HL311_2 := n3_
     have BK297 := n4_
     have BK298 := n5_
     have BK312 := n6_
     have HB := n7_
     clear n0_ n1_ n2_ n3_ n4_ n5_ n6_ n7_
     have n0_ := zK (Kd.N_drew HO_43.out)
     have n1_ := zK (Kd.V_drew HO_299001.out)
     have n2_ := zK (Kd.V_drew HO_299004.out)
     have n3_ := zK (Kd.V_drew HL311_2.out)
     have n4_ := zK (zd BK297.out)
     have n5_ := zK (zd BK298.out)
     have n6_ := zK (zd BK312.out)
     have n7_ := zK (ze HB.out)
     clear HO_43
     clear HO_299001
     clear HO_299004
     clear HL311_2
     clear BK297
     clear BK298
     clear BK312
     clear HB
     have HO_43 := n0_
     have HO_299001 := n1_
     have HO_299004 := n2_
     have HL311_2 := n3_
     have BK297 := n4_
     have BK298 := n5_
     have BK312 := n6_
     have HB := n7_
     clear n0_ n1_ n2_ n3_ n4_ n5_ n6_ n7_
     have p313 : 0 ≤ (((rd_T129 y308 x45_2).f0) : Int) := of_decide_eq_true zA
     have q313 : ((rd_T129 y308 x45_2).f0) < (l0_0.length : Int) := of_decide_eq_true zA
     obtain ⟨ad313, e313, hx313_0⟩ := Kd.at_int HR0_0.out ((rd_T129 y308 x45_2).f0) p313 q313
     have hw313_0 := hx313_0
     cases e313
     (try replace hx313_0 := zX HB hx313_0)
     replace p313 := eq_true p313
     replace q313 := eq_true q313
     refine start_ (n := 24) (S := fun w' => w'.cell? ⟨gb312, 0, none⟩ = some (.int .i64 ((rd_T129 y308 x45_2).f0)) ∧ w'.cell? ⟨gb312, 1, none⟩ = some (.int .i64 ((rd_T129 y308 x45_2).f1)) ∧ w'.cell? ⟨gb312, 2, none⟩ = some (.slice A311_2 ((rd_T129 y308 x45_2).f2).length c311_2) ∧ w'.cell? ⟨gb297, 0, none⟩ = some (.slice (some ad313) l0_0.length c0_0) ∧ w'.cell? ⟨gb297, 1, none⟩ = some (.slice A0_1 l0_1.length c0_1) ∧ w'.cell? ⟨gb297, 2, none⟩ = some (.slice A0_2 l0_2.length c0_2) ∧ w'.cell? ⟨gb297, 3, none⟩ = some (.slice A0_3 l0_3.length c0_3) ∧ w'.cell? ⟨gb297, 4, none⟩ = some (.slice A0_4 l0_4.length c0_4) ∧ w'.cell? ⟨gb298, 0, none⟩ = some (.slice A1_0 l1_0.length c1_0) ∧ w'.cell? ⟨gb298, 1, none⟩ = some (.slice A1_1 l1_1.length c1_1) ∧ w'.cell? ⟨gb298, 2, none⟩ = some (.int .i64 a1_2) ∧ w'.cell? ⟨gb298, 3, none⟩ = some (.int .i64 a1_3) ∧ w'.cell? ⟨gb298, 4, none⟩ = some (.slice A1_4 l1_4.length c1_4) ∧ w'.cell? ⟨gb298, 5, none⟩ = some (.bool a1_5) ∧ w'.cell? ⟨gb298, 6, none⟩ = some (.slice A1_6 l1_6.length c1_6) ∧ w'.cell? (ad313.add (((rd_T129 y308 x45_2).f0)).toNat) = some (.int .i64 (rd l0_0 ((rd_T129 y308 x45_2).f0)))) (ds := []) (bl 24 0) (by kernel_rfl) rfl (by kernel_rfl) ⟨zy BK312 0, zy BK312 1, zy BK312 2, zy BK297 0, zy BK297 1, zy BK297 2, zy BK297 3, zy BK297 4, zy BK298 0, zy BK298 1, zy BK298 2, zy BK298 3, zy BK298 4, zy BK298 5, zy BK298 6, (zX HB hw313_0)⟩ (fun hHeld => ?_); refine with_tabW impl_Nest_kernelOk.tab7 impl_Nest_kernelOk.bits7 (fun HT_ HW_ => ?_)
     generalize w46.drew = w47 at HO_43 HO_299001 HO_299004 HL311_2 BK297 BK298 BK312 HB hx313_0 hHeld ⊢
     refine zP 0 49 (bl 24 1) HT_ ?_
     refine zT 1 50 (bl 24 3) rfl rfl HT_ HW_ hHeld (by rintro w' ⟨s0, s1, s2, s3, s4, s5, s6, s7, s8, s9, s10, s11, s12, s13, s14, s15⟩; go_simp; with_reducible rfl) ?_
     refine zP 2 51 (bl 24 7) HT_ ?_
     refine zP 3 52 (bl 24 15) HT_ ?_
     refine zP 4 53 (bl 24 31) HT_ ?_
     refine zP 6 55 (bl 24 95) HT_ ?_
     refine zT 5 54 (bl 24 127) rfl rfl HT_ HW_ hHeld (by rintro w' ⟨s0, s1, s2, s3, s4, s5, s6, s7, s8, s9, s10, s11, s12, s13, s14, s15⟩; go_simp; with_reducible rfl) ?_
     refine zT 7 56 (bl 24 255) rfl rfl HT_ HW_ hHeld (by rintro w' ⟨s0, s1, s2, s3, s4, s5, s6, s7, s8, s9, s10, s11, s12, s13, s14, s15⟩; go_simp; with_reducible rfl) ?_
     refine zP 8 57 (bl 24 511) HT_ ?_
     refine zP 9 58 (bl 24 1023) HT_ ?_
     refine zP 10 59 (bl 24 2047) HT_ ?_
     refine zP 11 60 (bl 24 4095) HT_ ?_
     refine zP 13 62 (bl 24 12287) HT_ ?_
     refine zP 15 64 (bl 24 45055) HT_ ?_
     refine zP 17 66 (bl 24 176127) HT_ ?_
     refine zT 12 61 (bl 24 180223) rfl rfl HT_ HW_ hHeld (by rintro w' ⟨s0, s1, s2, s3, s4, s5, s6, s7, s8, s9, s10, s11, s12, s13, s14, s15⟩; go_simp; with_reducible rfl) ?_
     refine zT 14 63 (bl 24 196607) rfl rfl HT_ HW_ hHeld (by rintro w' ⟨s0, s1, s2, s3, s4, s5, s6, s7, s8, s9, s10, s11, s12, s13, s14, s15⟩; go_simp; with_reducible rfl) ?_
     refine zT 16 65 (bl 24 262143) rfl rfl HT_ HW_ hHeld (by rintro w' ⟨s0, s1, s2, s3, s4, s5, s6, s7, s8, s9, s10, s11, s12, s13, s14, s15⟩; go_simp; with_reducible rfl) ?_
     refine zT 18 67 (bl 24 524287) rfl rfl HT_ HW_ hHeld (by rintro w' ⟨s0, s1, s2, s3, s4, s5, s6, s7, s8, s9, s10, s11, s12, s13, s14, s15⟩; go_simp; with_reducible rfl) ?_
     refine zP 19 68 (bl 24 1048575) HT_ ?_
     refine zT 20 69 (bl 24 2097151) rfl rfl HT_ HW_ hHeld (by rintro w' ⟨s0, s1, s2, s3, s4, s5, s6, s7, s8, s9, s10, s11, s12, s13, s14, s15⟩; go_simp; with_reducible rfl) ?_
     refine one_ (i := 21) (N := some 70) (bl 24 4194303) rfl rfl (one_of HT_.out (by kernel_rfl)) (by decide) (fun K hK => ?_)
     refine goes_ Try.func154 (by kernel_rfl) rfl #[.agg #[.int .i64 ((rd_T129 y308 x45_2).f0), .int .i64 ((rd_T129 y308 x45_2).f1), .slice A311_2 ((rd_T129 y308 x45_2).f2).length c311_2], .slice A1_0 l1_0.length c1_0, .int .i64 (rd l0_0 ((rd_T129 y308 x45_2).f0))] (by rfl) rfl rfl zL ?_
     with_reducible refine (impl_Access_fitsIn.calls k2 ((rd_T129 y308 x45_2).f0) ((rd_T129 y308 x45_2).f1) _ _ ((rd_T129 y308 x45_2).f2) _ _ l1_0 (rd l0_0 ((rd_T129 y308 x45_2).f0)) t314 _ ?side1 ?side2 ?side3 ?side4 A45.out).mono ?_
     (case side1 => repeat (first | exact ((Kd.V_reads' (zkV HL311_2)).2.2) | (with_reducible refine Kd.C_alloc ?_ _) | (with_reducible refine Kd.C_drewN ?_ _) | (with_reducible refine Kd.C_drew ?_)))
     (case side2 => exact HC311_2.out)
     (case side3 => exact zC (Kd.C_below HR1_0.out HB.out))
     (case side4 => exact HC1_0.out)
     rintro e w48 ⟨rfl, hb⟩
     refine ⟨_, rfl, ?_⟩
     have n0_ := zK (Kd.N_below (zkN HO_43) hb)
     have n1_ := zK (Kd.V_below (zkV HO_299001) hb)
     have n2_ := zK (Kd.V_below (zkV HO_299004) hb)
     have n3_ := zK (Kd.V_below (zkV HL311_2) hb)
     have n4_ := zK (zg (zM BK297) hb)
     have n5_ := zK (zg (zM BK298) hb)
     have n6_ := zK (zg (zM BK312) hb)
     have n7_ := zK (zp zB hb)
     clear HO_43
     clear HO_299001
     clear HO_299004
     clear HL311_2
     clear BK297
     clear BK298
     clear BK312
     clear HB
     have HO_43 := n0_
     have HO_299001 := n1_
     have HO_299004 := n2_
     have HL311_2 := n3_
     have BK297 := n4_
     have BK298 := n5_
     have BK312 := n6_
     have HB := n7_
     clear n0_ n1_ n2_ n3_ n4_ n5_ n6_ n7_
     (try clear hb)
     (try clear hb2)
     (try clear hk)
     (try clear hi)
     refine hK.out _ _ ⟨zy BK312 0, zy BK312 1, zy BK312 2, zy BK297 0, zy BK297 1, zy BK297 2, zy BK297 3, zy BK297 4, zy BK298 0, zy BK298 1, zy BK298 2, zy BK298 3, zy BK298 4, zy BK298 5, zy BK298 6, (zX HB hw313_0)⟩ (fun hHeld => ?_)
     clear hK K
     refine zU 70 ?_
     refine zP 22 71 (bl 24 8388607) HT_ ?_
     refine zP 23 72 (bl 24 16777215) HT_ ?_
     refine done_ (done_of HT_.out (by kernel_rfl)) ?_
     try go_wp2
     go_meet
     case rel => exact ⟨_, (!t314), zR, H', ⟨by have := HJ4.out; have := HK2.out; first | omega | exact Nat.le_refl _⟩, ⟨by (with_reducible repeat (first | apply Kd.N_alloc | apply Kd.N_drewN | apply Kd.N_drew)); exact Kd.N_mono HO_43.out (fun _ hk => ⟨hk.1, ⟨hk.2.1, hk.2.2.1⟩⟩)⟩, ⟨by (with_reducible repeat (first | apply Kd.V_alloc | apply Kd.V_drewN | apply Kd.V_drew)); exact Kd.V_mono HO_299001.out (fun _ hk => ⟨hk.1, ⟨hk.2.1, ⟨hk.2.2.1, hk.2.2.2.1⟩⟩⟩)⟩, ⟨by (with_reducible repeat (first | apply Kd.V_alloc | apply Kd.V_drewN | apply Kd.V_drew)); exact Kd.V_mono HO_299004.out (fun _ hk => ⟨hk.1, ⟨hk.2.1, ⟨hk.2.2.1, hk.2.2.2.1⟩⟩⟩)⟩, ⟨zM BK297⟩, ⟨zM BK298⟩, ⟨zB⟩⟩
    case rest =>
     clear HC32
     try clear c1
     try clear p2
     try clear c3
     try clear p3
     try clear q3
     try clear hx3
     try clear c4
     try clear c15
     try clear c31
     try clear p31
     try clear q31
     try clear hx31
     try clear c37
     try clear c37b0
     try clear c40
     try clear c40b0
     try clear c43
     try clear c43b0
     try clear c44
     try clear c44b0
     try clear hx313_0
     try clear p313
     try clear q313
     obtain ⟨kq, x72_31, rfl, HA, HJ31, HO_43, HO_299001, HO_299004, BK297, BK298, HB⟩ := hcut
     cases kq with
     | zero => exact absurd HA.out (by simp [impl_Nest_kernelOk.j2])
     | succ kj31 =>
      have H := HA.out
      clear HA
      simp only [impl_Nest_kernelOk.j2] at H
      by_cases c49 : x72_31 = true
      · subst c49
        have H1 : (some (0, false)) = some (r1, r2) := by rw [if_pos rfl] at H; exact H
        clear H
        have H := H1
        clear H1
        simp only [Option.some.injEq, Prod.mk.injEq] at H
        obtain ⟨rfl, rfl⟩ := H
        go_wp2
        go_ret2
        exact ⟨zE, zB⟩
      replace c49 := Bool.eq_false_iff.mpr c49
      subst c49
      have H1 : (impl_Nest_kernelOk.l0 kj31 l2 t299 y308 (y308.length : Int) (wrap64 (x45_2 + 1)) l0_0 l0_1 l0_2 l0_3 l0_4 l1_0 l1_1 a1_2 a1_3 l1_4 a1_5 l1_6) = some (r1, r2) := by rw [if_neg (show ¬ (false = true) by decide)] at H; exact H
      clear H
      have H := H1
      clear H1
      have H' := zK H
      clear H
      go_wp2
      go_roundg kj31
      case measure => have := HJ4.out; have := HK2.out; have := HJ31.out; omega
      case rel => exact ⟨(wrap64 (x45_2 + 1)), zR, H', ⟨by have := HJ4.out; have := HK2.out; have := HJ31.out; omega⟩, ⟨zkN HO_43⟩, ⟨zkV HO_299001⟩, ⟨zkV HO_299004⟩, ⟨zM BK297⟩, ⟨zM BK298⟩, ⟨zB⟩⟩

end Go.Proofs.Ytkfagiojcjnfkaa.PFnExactNestOk
