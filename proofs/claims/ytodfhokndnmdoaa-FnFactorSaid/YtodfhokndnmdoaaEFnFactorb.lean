/- Roots, powers of two, gradients: told by halves and told by bits. -/
import Derived.Test.YtodfhokndnmdoaaEFnFactora
namespace Go.Proofs.Ytodfhokndnmdoaa.Pure
open Go.RowKit Go.Proofs.Ytodfhokndnmdoaa.PFnFactor Go.Proofs.YtodfhokndnmdoaaW.PrintWords Go.Proofs.YtodfhokndnmdoaaW.PrintLast Go.Proofs.YtodfhokndnmdoaaW.PrintMore
set_option linter.unusedSimpArgs false
set_option linter.unusedVariables false

/-! ### roots -/
def IsRoot (q v : Int) : Prop := 0 ≤ v ∧ v * v ≤ q ∧ q < (v + 1) * (v + 1)
theorem sq_le {a b : Int} (h0 : 0 ≤ a) (h : a ≤ b) : a * a ≤ b * b := Int.mul_le_mul h h h0 (by omega)
theorem IsRoot.uniq {q u v : Int} (h1 : IsRoot q u) (h2 : IsRoot q v) : u = v := by
  obtain ⟨a1, a2, a3⟩ := h1
  obtain ⟨b1, b2, b3⟩ := h2
  apply Classical.byContradiction
  intro hne
  rcases Int.lt_or_gt_of_ne hne with h | h
  · have := sq_le (a := u + 1) (b := v) (by omega) (by omega); omega
  · have := sq_le (a := v + 1) (b := u) (by omega) (by omega); omega
theorem halves (q : Int) (hq : q ≤ 4611686018427387904) : ∀ (d : Nat) (lo hi : Int), 0 ≤ lo → hi ≤ 2147483649 → (hi - lo).toNat ≤ d → lo < hi → lo * lo ≤ q → q < hi * hi → ∃ v, Ev (fun k => spec_Root.l0 k q lo hi) v ∧ IsRoot q v
  | 0, lo, hi, h0, h1, hd, hl, a, b => by omega
  | d + 1, lo, hi, h0, h1, hd, hl, a, b => by
    by_cases c : hi - lo > 1
    · have hm : Int.tdiv (lo + hi) 2 = (lo + hi) / 2 := Int.tdiv_eq_ediv_of_nonneg (by omega)
      have e : ∀ k, spec_Root.l0 (k + 1) q lo hi = if (((lo + hi) / 2) * ((lo + hi) / 2)) ≤ q then spec_Root.l0 k q ((lo + hi) / 2) hi else spec_Root.l0 k q lo ((lo + hi) / 2) := by
        intro k
        have hb : ((lo + hi) / 2) * ((lo + hi) / 2) ≤ 2147483649 * 2147483649 := sq_le (by omega) (by omega)
        have hb0 : 0 * 0 ≤ ((lo + hi) / 2) * ((lo + hi) / 2) := sq_le (by omega) (by omega)
        simp only [spec_Root.l0]
        rw [w64 (x := hi - lo) (by omega) (by omega), if_pos c, w64 (x := lo + hi) (by omega) (by omega), hm, w64 (x := (lo + hi) / 2) (by omega) (by omega), w64 (x := ((lo + hi) / 2) * ((lo + hi) / 2)) (by omega) (by omega)]
      by_cases c2 : (((lo + hi) / 2) * ((lo + hi) / 2)) ≤ q
      · obtain ⟨v, hv, hr⟩ := halves q hq d ((lo + hi) / 2) hi (by omega) h1 (by omega) (by omega) c2 b
        exact ⟨v, Ev.step (fun k => by rw [e k, if_pos c2]) hv, hr⟩
      · obtain ⟨v, hv, hr⟩ := halves q hq d lo ((lo + hi) / 2) h0 (by omega) (by omega) (by omega) a (by omega)
        exact ⟨v, Ev.step (fun k => by rw [e k, if_neg c2]) hv, hr⟩
    · have : hi = lo + 1 := by omega
      subst this
      refine ⟨lo, Ev.stop fun k => ?_, h0, a, b⟩
      simp only [spec_Root.l0]
      rw [w64 (x := lo + 1 - lo) (by omega) (by omega), if_neg c]
theorem bitwise (q : Int) (hq : q ≤ 4611686018427387904) : ∀ (j : Nat) (r b : Int), j ≤ 31 → b = 2 ^ j → 0 ≤ r → r ≤ 2147483648 → r * r ≤ q → q < (r + 2 * b) * (r + 2 * b) → ∃ v, Ev (fun k => impl_Root.l0 k q r b) v ∧ IsRoot q v := by
  have one : ∀ (r b : Int), 0 < b → b ≤ 2147483648 → 0 ≤ r → r ≤ 2147483648 → r * r ≤ q → q < (r + 2 * b) * (r + 2 * b) →
      ∃ r', (∀ k, impl_Root.l0 (k + 1) q r b = impl_Root.l0 k q r' (b / 2)) ∧ 0 ≤ r' ∧ r' ≤ 2147483648 ∧ r' * r' ≤ q ∧ q < (r' + b) * (r' + b) := by
    intro r b hb hb2 h0 h1 a c
    by_cases s : r + b ≤ 2147483648
    · have hs : (r + b) * (r + b) ≤ 2147483648 * 2147483648 := sq_le (by omega) s
      have hs0 : 0 * 0 ≤ (r + b) * (r + b) := sq_le (by omega) (by omega)
      by_cases t : (r + b) * (r + b) ≤ q
      · refine ⟨r + b, fun k => ?_, by omega, s, t, ?_⟩
        · simp only [impl_Root.l0]
          rw [if_pos (by omega), w64 (x := r + b) (by omega) (by omega), w64 (x := (r + b) * (r + b)) (by omega) (by omega), if_pos t, if_pos s]
        · rw [show r + b + b = r + 2 * b by omega]; exact c
      · refine ⟨r, fun k => ?_, h0, h1, a, by omega⟩
        simp only [impl_Root.l0]
        rw [if_pos (by omega), w64 (x := r + b) (by omega) (by omega), w64 (x := (r + b) * (r + b)) (by omega) (by omega), if_neg t]
    · refine ⟨r, fun k => ?_, h0, h1, a, ?_⟩
      · simp only [impl_Root.l0]
        rw [if_pos (by omega), w64 (x := r + b) (by omega) (by omega), if_neg s]
        split <;> rfl
      · have : 2147483649 * 2147483649 ≤ (r + b) * (r + b) := sq_le (by omega) (by omega)
        omega
  intro j
  induction j with
  | zero =>
    intro r b _ hb h0 h1 a c
    have hb1 : b = 1 := by rw [hb]; rfl
    subst hb1
    obtain ⟨r', e, c0, c1, c2, c3⟩ := one r 1 (by omega) (by omega) h0 h1 a c
    refine ⟨r', Ev.step e (Ev.stop fun k => ?_), c0, c2, c3⟩
    simp only [impl_Root.l0]
    rw [if_neg (by decide)]
  | succ j ih =>
    intro r b hj hb h0 h1 a c
    have hp : (2 : Int) ^ (j + 1) = 2 * 2 ^ j := by rw [Int.pow_succ]; omega
    have hpos : (0 : Int) < 2 ^ j := Int.pow_pos (by omega)
    have hle : (2 : Int) ^ j ≤ 1073741824 := by
      have h1 : (2 : Nat) ^ j ≤ 2 ^ 30 := Nat.pow_le_pow_right (by omega) (by omega)
      have h2 : ((2 ^ j : Nat) : Int) ≤ ((2 ^ 30 : Nat) : Int) := by exact_mod_cast h1
      rw [Int.natCast_pow] at h2
      exact h2
    obtain ⟨r', e, c0, c1, c2, c3⟩ := one r b (by omega) (by omega) h0 h1 a c
    have hd : b / 2 = 2 ^ j := by omega
    rw [hd] at e
    obtain ⟨v, hv, hr⟩ := ih r' (2 ^ j) (by omega) rfl c0 c1 c2 (by rw [← hp, ← hb]; exact c3)
    exact ⟨v, Ev.step e hv, hr⟩
theorem root_both (n : Int) : ∃ v, Ev (fun k => spec_Root.f k n) v ∧ Ev (fun k => impl_Root.f k n) v := by
  unfold spec_Root.f impl_Root.f
  simp only [l5In_val, within_val, Option.bind_some]
  cases c : inR 0 4611686018427387904 n with
  | false => exact ⟨0, Ev.congr (fun k => by rw [if_neg (by decide)]) (Ev.now _), Ev.congr (fun k => by rw [if_neg (by decide)]) (Ev.now _)⟩
  | true =>
    obtain ⟨h0, h1⟩ := inR_iff.1 c
    obtain ⟨v, hv, rv⟩ := halves n h1 2147483649 0 2147483649 (by omega) (by omega) (by omega) (by omega) (by omega) (by omega)
    obtain ⟨u, hu, ru⟩ := bitwise n h1 31 0 2147483648 (by omega) (by rfl) (by omega) (by omega) (by omega) (by omega)
    obtain rfl := IsRoot.uniq rv ru
    exact ⟨v, Ev.congr (fun k => by rw [if_pos rfl]) hv, Ev.congr (fun k => by rw [if_pos rfl]) hu⟩
noncomputable def rootV (n : Int) : Int := (root_both n).choose
theorem rootS (n : Int) : Ev (fun k => spec_Root.f k n) (rootV n) := (root_both n).choose_spec.1
theorem rootI (n : Int) : Ev (fun k => impl_Root.f k n) (rootV n) := (root_both n).choose_spec.2
/-! ### powers of two -/
def pows : List Int := [1, 2, 4, 8, 16, 32, 64, 128, 256, 512, 1024, 2048, 4096, 8192, 16384, 32768, 65536]
theorem half (n : Nat) (h2 : 2 ≤ n) (h : n &&& (n - 1) = 0) : n = 2 * (n / 2) ∧ (n / 2) &&& (n / 2 - 1) = 0 := by
  have hd : (n &&& (n - 1)) / 2 = (n / 2) &&& ((n - 1) / 2) := Nat.and_div_two
  rw [h] at hd
  by_cases c : n % 2 = 0
  · refine ⟨by omega, ?_⟩
    rw [show n / 2 - 1 = (n - 1) / 2 by omega]
    omega
  · exfalso
    rw [show (n - 1) / 2 = n / 2 by omega, Nat.and_self] at hd
    omega
theorem pow_of : ∀ (m n : Nat), 1 ≤ n → n < 2 ^ (m + 1) → n &&& (n - 1) = 0 → ∃ j, j ≤ m ∧ n = 2 ^ j
  | 0, n, h1, h2, h => ⟨0, Nat.le_refl _, by simp at h2; omega⟩
  | m + 1, n, h1, h2, h => by
    by_cases c : n = 1
    · exact ⟨0, by omega, by rw [c]⟩
    · obtain ⟨e, h'⟩ := half n (by omega) h
      rw [Nat.pow_succ] at h2
      obtain ⟨j, hj, hn⟩ := pow_of m (n / 2) (by omega) (by omega) h'
      exact ⟨j + 1, by omega, by rw [e, hn, Nat.pow_succ]; omega⟩
theorem pow_bits (f : Int) (h0 : 1 ≤ f) (h1 : f ≤ 65536) : decide (Go.bits .and .i64 f (wrap64 (f - 1)) = 0) = decide (f ∈ pows) := by
  obtain ⟨n, rfl⟩ : ∃ n : Nat, f = n := ⟨f.toNat, by omega⟩
  rw [w64 (by omega) (by omega), show (n : Int) - 1 = ((n - 1 : Nat) : Int) by omega]
  have e := bits_nat .i64 62 (by decide) (fun m a b => by rw [IntKind.wrap_i64]; omega) n (n - 1) (by omega) (by omega)
  rw [e.1]
  apply decide_eq_decide.2
  constructor
  · intro h
    obtain ⟨j, hj, hn⟩ := pow_of 16 n (by omega) (by omega) (by omega)
    have : ∀ j, j ≤ 16 → (((2 ^ j : Nat)) : Int) ∈ pows := by decide
    rw [hn]
    exact this j hj
  · intro h
    have : ∀ x ∈ pows, x.toNat &&& (x.toNat - 1) = 0 := by decide
    have := this _ h
    simp only [Int.toNat_natCast] at this
    rw [this]; rfl
end Go.Proofs.Ytodfhokndnmdoaa.Pure
