import Derived.Test.YtemcipcijhkhjaaEFnMatBounda
import Derived.Test.YtemcipcijhkhjaaEFnMatBoundb
namespace Go.Proofs.Ytemcipcijhkhjaa.Pure
open Go.RowKit Go.Proofs.Ytemcipcijhkhjaa.PFnMatBound Go.Proofs.YtemcipcijhkhjaaW.PrintWords Go.Proofs.YtemcipcijhkhjaaW.PrintLast Go.Proofs.YtemcipcijhkhjaaW.PrintMore

theorem Factor_is (t : Nat) (ht : t < 256) : ∃ m s : Int, 0 ≤ m ∧ m ≤ 2147483648 ∧ 20 ≤ s ∧ s ≤ 62 ∧ 2 * (m * (65536 * (3000 + (t : Int) * 20)) - 308505 * 2 ^ s.toNat) ≤ 65536 * (3000 + (t : Int) * 20) ∧ -(65536 * (3000 + (t : Int) * 20)) ≤ 2 * (m * (65536 * (3000 + (t : Int) * 20)) - 308505 * 2 ^ s.toNat) ∧
    Ev (fun k => impl_Factor.f k 785 127 393 127 (3000 + (t : Int) * 20) 128) (m, s, true) ∧ Ev (fun k => spec_Factor.f k 785 127 393 127 (3000 + (t : Int) * 20) 128) (m, s, true) := by
  have h := okF_all t ht
  unfold okF at h
  split at h
  · rename_i m s b m' s' b' h1 h2
    simp only [Bool.and_eq_true, decide_eq_true_eq] at h
    obtain ⟨⟨⟨⟨⟨⟨⟨⟨⟨rfl, rfl⟩, rfl⟩, rfl⟩, a1⟩, a2⟩, a3⟩, a4⟩, a5⟩, a6⟩ := h
    exact ⟨m, s, a1, a2, a3, a4, a5, a6, Ev.of (impl_Factor.mono _ _ _ _ _ _) h1, Ev.of (spec_Factor.mono _ _ _ _ _ _) h2⟩
  · cases h
theorem at_is (l : List Int) (hw : ∀ x ∈ l, 0 ≤ x ∧ x ≤ 255) (i : Nat) (hi : i ≤ 100) : ∃ v, laws_at.f l (i : Int) = some v ∧ 0 ≤ v ∧ v ≤ 255 := by
  unfold laws_at.f
  by_cases h : (i : Int) < l.length
  · have := rd_all hw i (by omega)
    rw [if_pos h, if_pos (by omega)]
    exact ⟨_, rfl, by rw [w64 (by omega) (by omega)]; omega, by rw [w64 (by omega) (by omega)]; omega⟩
  · rw [if_neg h]
    refine ⟨_, rfl, ?_⟩
    rw [w64 (by omega) (by omega), Int.tmod_eq_emod_of_nonneg (by omega)]
    omega
theorem wf_byte {x : Int} (h : (Lit.int .u8 x).wf = true) : 0 ≤ x ∧ x ≤ 255 := by
  simp only [Lit.wf, IntKind.min, IntKind.max, IntKind.signed, IntKind.bits, Bool.and_eq_true] at h
  simp at h
  omega
theorem Value_is (cs y : Int) (hc : 1 ≤ cs) (hc2 : cs ≤ 10000) (hy : 0 ≤ y) (hy2 : y ≤ 255) : impl_Value.f cs 128 y = some (cs * (y - 128)) := by
  have hb := mul_bound (a := cs) (b := y - 128) (A := 10000) (B := 128) (by omega) hc2 (by omega) (by omega)
  unfold impl_Value.f
  rw [ScaleOk_yes hc (by omega) (by omega) (by omega)]
  simp only [Option.bind_some, if_true]
  rw [isByte_yes hy hy2]
  simp only [Option.bind_some, if_true]
  rw [w64 (x := y - 128) (by omega) (by omega), w64 (by omega) (by omega)]
theorem Bound_is (n cs : Int) (hn : 1 ≤ n) (hn2 : n ≤ 8) (hc : 1 ≤ cs) (hc2 : cs ≤ 10000) : Ev (fun k => impl_Bound.f k n 785 127 393 127 cs 128 89600 38400) ((n * 65794484 + 65535) / 65536 + 2 * cs + 2) := by
  refine ⟨20, fun k hk => ?_⟩
  obtain ⟨k, rfl⟩ : ∃ m, k = m + 20 := ⟨k - 20, by omega⟩
  unfold impl_Bound.f
  simp only [within_yes (show (1 : Int) ≤ n ∧ n ≤ 4096 by omega), within_yes (show (0 : Int) ≤ 89600 ∧ (89600 : Int) ≤ 16777216 by omega), within_yes (show (0 : Int) ≤ 38400 ∧ (38400 : Int) ≤ 16777216 by omega), Option.bind_some, if_true, impl_Bound.j0, Bool.not_true, Bool.false_eq_true, if_false]
  have e0 : (rd_T45 [(⟨785, 127⟩ : S45), ⟨393, 127⟩, ⟨cs, 128⟩] 0).f0 = 785 := rfl
  have e0b : (rd_T45 [(⟨785, 127⟩ : S45), ⟨393, 127⟩, ⟨cs, 128⟩] 0).f1 = 127 := rfl
  have e1 : (rd_T45 [(⟨785, 127⟩ : S45), ⟨393, 127⟩, ⟨cs, 128⟩] 1).f0 = 393 := rfl
  have e1b : (rd_T45 [(⟨785, 127⟩ : S45), ⟨393, 127⟩, ⟨cs, 128⟩] 1).f1 = 127 := rfl
  have e2 : (rd_T45 [(⟨785, 127⟩ : S45), ⟨393, 127⟩, ⟨cs, 128⟩] 2).f0 = cs := rfl
  have e2b : (rd_T45 [(⟨785, 127⟩ : S45), ⟨393, 127⟩, ⟨cs, 128⟩] 2).f1 = 128 := rfl
  have w1 : wrap64 (0 + 1) = 1 := by decide +kernel
  have w2 : wrap64 (1 + 1) = 2 := by decide +kernel
  have w3 : wrap64 (2 + 1) = 3 := by decide +kernel
  have len : (([(⟨785, 127⟩ : S45), ⟨393, 127⟩, ⟨cs, 128⟩] : List S45).length : Int) = 3 := rfl
  rw [len]
  rw [impl_Bound.l0.eq_2, len, if_pos (by omega), if_pos (by omega), if_pos (by omega), e0, e0b, ScaleOk_yes (by omega) (by omega) (by omega) (by omega)]
  simp only [Option.bind_some, if_true]
  rw [if_neg (by omega), w1, impl_Bound.l0.eq_2, len, if_pos (by omega), if_pos (by omega), if_pos (by omega), e1, e1b, ScaleOk_yes (by omega) (by omega) (by omega) (by omega)]
  simp only [Option.bind_some, if_true]
  rw [if_neg (by omega), w2, impl_Bound.l0.eq_2, len, if_pos (by omega), if_pos (by omega), if_pos (by omega), e2, e2b, ScaleOk_yes hc (by omega) (by omega) (by omega)]
  simp only [Option.bind_some, if_true]
  rw [if_neg (by omega), w3, impl_Bound.l0.eq_2, if_neg (by omega)]
  rw [show wrap64 (wrap64 (wrap64 (89600 * wrap64 (393 + 1)) + wrap64 (38400 * wrap64 (785 + 1))) + wrap64 (wrap64 (785 + 1) * wrap64 (393 + 1))) = 65794484 from by decide +kernel]
  have e3 : wrap64 (n * 65794484) = n * 65794484 := w64 (by omega) (by omega)
  have e4 : wrap64 (n * 65794484 + 65535) = n * 65794484 + 65535 := w64 (by omega) (by omega)
  rw [e3, e4, Int.tdiv_eq_ediv_of_nonneg (by omega), w64 (x := (n * 65794484 + 65535) / 65536) (by omega) (by omega), w64 (x := 2 * cs) (by omega) (by omega), w64 (x := (n * 65794484 + 65535) / 65536 + 2 * cs) (by omega) (by omega), w64 (by omega) (by omega)]
/-- The bound in whole numbers. -/
theorem reckoned (n cs D m N P sum : Int) (hn : 0 ≤ n) (hc : 3000 ≤ cs) (hc2 : cs ≤ 8100) (hP : 1048576 ≤ P) (hD : -131072 ≤ D) (hD2 : D ≤ 131072)
    (h1 : 2 * (D * m - N * P) ≤ P) (h2 : -P ≤ 2 * (D * m - N * P)) (h3 : 2 * (m * (65536 * cs) - 308505 * P) ≤ 65536 * cs) (h4 : -(65536 * cs) ≤ 2 * (m * (65536 * cs) - 308505 * P))
    (h5 : -(n * 40000000) ≤ sum - 308505 * D) (h6 : sum - 308505 * D ≤ n * 40000000) :
    -(((n * 65794484 + 65535) / 65536 + 2 * cs + 2) * 65536) ≤ cs * N * 65536 - sum ∧ cs * N * 65536 - sum ≤ ((n * 65794484 + 65535) / 65536 + 2 * cs + 2) * 65536 := by
  have key : -(65536 * cs) ≤ 65536 * cs * N - 308505 * D ∧ 65536 * cs * N - 308505 * D ≤ 65536 * cs := by
    have e1 := mul_bound (a := 65536 * cs) (b := 2 * (D * m - N * P)) (A := 65536 * cs) (B := P) (by omega) (by omega) h2 h1
    have e2 := mul_bound (a := D) (b := 2 * (m * (65536 * cs) - 308505 * P)) (A := 131072) (B := 65536 * cs) hD hD2 h4 h3
    have e3 : 65536 * cs * (2 * (D * m - N * P)) = 2 * (D * (m * (65536 * cs))) - 2 * (P * (65536 * cs * N)) := by
      rw [Int.mul_left_comm (65536 * cs) 2, Int.mul_sub, Int.mul_sub]
      rw [show 65536 * cs * (D * m) = D * (m * (65536 * cs)) by rw [Int.mul_comm, Int.mul_assoc], show 65536 * cs * (N * P) = P * (65536 * cs * N) by rw [← Int.mul_assoc, Int.mul_comm]]
    have e4 : D * (2 * (m * (65536 * cs) - 308505 * P)) = 2 * (D * (m * (65536 * cs))) - 2 * (P * (308505 * D)) := by
      rw [Int.mul_left_comm D 2, Int.mul_sub, Int.mul_sub]
      rw [show D * (308505 * P) = P * (308505 * D) by rw [Int.mul_left_comm D, Int.mul_left_comm P, Int.mul_comm D P]]
    have e5 : (131072 : Int) * (65536 * cs) ≤ 65536 * cs * P := by
      rw [Int.mul_comm]; exact Int.mul_le_mul_of_nonneg_left (by omega) (by omega)
    have e6 : P * (65536 * cs * N - 308505 * D) = P * (65536 * cs * N) - P * (308505 * D) := Int.mul_sub ..
    have e7 : P * (65536 * cs) = 65536 * cs * P := Int.mul_comm ..
    have e8 : P * (-(65536 * cs)) = -(65536 * cs * P) := by rw [Int.mul_neg, e7]
    constructor
    · exact Int.le_of_mul_le_mul_left (show P * (-(65536 * cs)) ≤ P * (65536 * cs * N - 308505 * D) by omega) (by omega)
    · exact Int.le_of_mul_le_mul_left (show P * (65536 * cs * N - 308505 * D) ≤ P * (65536 * cs) by omega) (by omega)
  have e10 : 0 ≤ n * 25794484 := by omega
  have e9 : 65536 * cs * N = cs * N * 65536 := by rw [Int.mul_assoc, Int.mul_comm]
  omega
def xw (xs ws : List Int) (i : Nat) : Int := rd xs i * rd ws i
theorem near_product {x w p q : Int} (hx : -89600 ≤ x ∧ x ≤ 89600) (hp : Off 785 x p) (hq : Off 393 w q) : -40000000 ≤ x * w - 308505 * ((p - 127) * (q - 127)) ∧ x * w - 308505 * ((p - 127) * (q - 127)) ≤ 40000000 := by
  obtain ⟨a1, a2, a3, a4⟩ := hp
  obtain ⟨b1, b2, b3, b4⟩ := hq
  have e : x * w - 308505 * ((p - 127) * (q - 127)) = x * (w - (q - 127) * 393) + ((q - 127) * 393) * (x - (p - 127) * 785) := by
    generalize p - 127 = P at *
    generalize q - 127 = Q at *
    rw [Int.mul_sub, Int.mul_sub, show x * (Q * 393) = Q * 393 * x from Int.mul_comm .., show Q * 393 * (P * 785) = 308505 * (P * Q) by rw [show Q * 393 * (P * 785) = P * Q * (393 * 785) by ac_rfl]; omega]
    omega
  have m1 := mul_bound (a := x) (b := w - (q - 127) * 393) (A := 89600) (B := 196) (by omega) (by omega) (by omega) (by omega)
  have m2 := mul_bound (a := (q - 127) * 393) (b := x - (p - 127) * 785) (A := 50000) (B := 392) (by omega) (by omega) (by omega) (by omega)
  rw [e]; omega
end Go.Proofs.Ytemcipcijhkhjaa.Pure
