import Derived.Test.YtemcipcijhkhjaaPFnMatBoundx13
namespace Go.Proofs.Ytemcipcijhkhjaa.Pure
open Go.RowKit Go.Proofs.Ytemcipcijhkhjaa.PFnMatBound Go.Proofs.YtemcipcijhkhjaaW.PrintWords Go.Proofs.YtemcipcijhkhjaaW.PrintLast Go.Proofs.YtemcipcijhkhjaaW.PrintMore

theorem w64 {x : Int} (h1 : -9223372036854775808 ≤ x) (h2 : x ≤ 9223372036854775807) : wrap64 x = x := by
  unfold wrap64; omega
theorem wi64 {x : Int} (h1 : -9223372036854775808 ≤ x) (h2 : x ≤ 9223372036854775807) : IntKind.i64.wrap x = x := by
  simp only [IntKind.wrap, IntKind.bits, IntKind.signed, Bool.true_and, decide_eq_true_eq, Nat.reduceSub, ge_iff_le]
  rw [show ((2 : Int) ^ 64) = 18446744073709551616 from rfl, show ((2 : Int) ^ 63) = 9223372036854775808 from rfl]
  split <;> omega
theorem wu64 {x : Int} (h1 : 0 ≤ x) (h2 : x ≤ 18446744073709551615) : IntKind.u64.wrap x = x := by
  simp only [IntKind.wrap, IntKind.bits, IntKind.signed, Bool.false_and, Bool.false_eq_true, if_false]
  rw [show ((2 : Int) ^ 64) = 18446744073709551616 from rfl]
  omega
theorem bsome {α : Type} (o : Option α) : (o.bind fun t => some t) = o := by cases o <;> rfl
theorem near_eq (q r d : Int) : spec_l2Round.f q r d = impl_near.f q r d := rfl
theorem near_ok (q r d : Int) (hr : 0 ≤ r) (hrd : r < d) (hd : d ≤ 4611686018427387904) (hq : -4611686018427387904 ≤ q) (hq2 : q ≤ 4611686018427387904) :
    ∃ N, impl_near.f q r d = some N ∧ 2 * (q * d + r - N * d) ≤ d ∧ -d ≤ 2 * (q * d + r - N * d) ∧ q ≤ N ∧ N ≤ q + 1 := by
  unfold impl_near.f
  rw [w64 (x := d - r) (by omega) (by omega), w64 (x := q + 1) (by omega) (by omega)]
  have e : (q + 1) * d = q * d + d := by rw [Int.add_mul, Int.one_mul]
  have h1 : ∃ N, some (q + 1) = some N ∧ 2 * (q * d + r - N * d) ≤ d ∧ (-d ≤ 2 * (q * d + r - N * d) ∨ 2 * r < d) ∧ q ≤ N ∧ N ≤ q + 1 := ⟨_, rfl, by rw [e]; omega, by rw [e]; omega, by omega, by omega⟩
  by_cases c1 : r > d - r
  · rw [if_pos c1]; exact ⟨_, rfl, by rw [e]; omega, by rw [e]; omega, by omega, by omega⟩
  · rw [if_neg c1]
    by_cases c2 : r = d - r
    · rw [if_pos c2]
      split
      · exact ⟨_, rfl, by rw [e]; omega, by rw [e]; omega, by omega, by omega⟩
      · exact ⟨_, rfl, by omega, by omega, by omega, by omega⟩
    · rw [if_neg c2]; exact ⟨_, rfl, by omega, by omega, by omega, by omega⟩
/-- The quotient and the remainder, rounded down. -/
theorem floor_pair (x d : Int) (hd : 1 ≤ d) (hd2 : d ≤ 4611686018427387904) (hx : -4611686018427387904 ≤ x) (hx2 : x ≤ 4611686018427387904) :
    (Int.tmod x d < 0 ∧ wrap64 (wrap64 (Int.tdiv x d) - 1) = x / d ∧ wrap64 (Int.tmod x d + d) = x % d) ∨ (¬ Int.tmod x d < 0 ∧ wrap64 (Int.tdiv x d) = x / d ∧ Int.tmod x d = x % d) := by
  have a1 := Int.emod_nonneg x (show d ≠ 0 by omega)
  have a2 := Int.emod_lt_of_pos x (show 0 < d by omega)
  have a3 := Int.mul_ediv_add_emod x d
  have hb : -4611686018427387904 ≤ x / d ∧ x / d ≤ 4611686018427387904 := by
    constructor
    · exact Int.le_ediv_of_mul_le (by omega) (by
        have : (-4611686018427387904) * d ≤ (-4611686018427387904) * 1 := Int.mul_le_mul_of_nonpos_left (by omega) hd
        omega)
    · by_cases h : x < 0
      · have : x / d < 0 := Int.ediv_neg_of_neg_of_pos h (by omega); omega
      · exact Int.le_trans (Int.ediv_le_self d (by omega)) hx2
  have e1 : x.tdiv d = x / d + if 0 ≤ x ∨ d ∣ x then 0 else d.sign := Int.tdiv_eq_ediv
  have e2 : x.tmod d = x % d - if 0 ≤ x ∨ d ∣ x then 0 else d.natAbs := Int.tmod_eq_emod
  by_cases c : 0 ≤ x ∨ d ∣ x
  · rw [if_pos c] at e1 e2
    right
    rw [e1, e2]
    refine ⟨by omega, ?_, by omega⟩
    rw [w64 (by omega) (by omega)]; omega
  · rw [if_neg c] at e1 e2
    left
    have s1 : d.sign = 1 := Int.sign_eq_one_of_pos (by omega)
    rw [s1] at e1
    rw [e1, e2]
    refine ⟨by omega, ?_, ?_⟩
    · rw [w64 (x := x / d + 1) (by omega) (by omega), w64 (by omega) (by omega)]; omega
    · rw [w64 (by omega) (by omega)]; omega
theorem Near_eq (k : Nat) (x d : Int) (hd : 1 ≤ d) (hd2 : d ≤ 4611686018427387904) (hx : -4611686018427387904 ≤ x) (hx2 : x ≤ 4611686018427387904) :
    impl_Near.f (k + 1) x d = impl_near.f (x / d) (x % d) d := by
  unfold impl_Near.f
  rw [if_neg (by omega)]
  simp only [impl_Near.j0]
  rw [if_neg (by rw [decide_eq_true_eq]; omega), if_neg (by omega)]
  rcases floor_pair x d hd hd2 hx hx2 with ⟨h1, h2, h3⟩ | ⟨h1, h2, h3⟩
  · rw [if_pos h1, h2, h3]; exact bsome _
  · rw [if_neg h1, h2, h3]; exact bsome _
theorem specNear_eq (k : Nat) (x d : Int) (hd : 1 ≤ d) (hd2 : d ≤ 4611686018427387904) (hx : -4611686018427387904 ≤ x) (hx2 : x ≤ 4611686018427387904) :
    spec_Near.f (k + 1) x d = impl_near.f (x / d) (x % d) d := by
  unfold spec_Near.f
  rw [if_neg (by omega)]
  simp only [spec_Near.j0]
  rw [if_neg (by rw [decide_eq_true_eq]; omega), if_neg (by omega)]
  rcases floor_pair x d hd hd2 hx hx2 with ⟨h1, h2, h3⟩ | ⟨h1, h2, h3⟩
  · rw [if_pos h1, h2, h3]; exact bsome _
  · rw [if_neg h1, h2, h3]; exact bsome _
theorem near_val (x d : Int) (hd : 1 ≤ d) (hd2 : d ≤ 4611686018427387904) (hx : -4611686018427387904 ≤ x) (hx2 : x ≤ 4611686018427387904) :
    ∃ N, impl_near.f (x / d) (x % d) d = some N ∧ 2 * (x - N * d) ≤ d ∧ -d ≤ 2 * (x - N * d) := by
  have a1 := Int.emod_nonneg x (show d ≠ 0 by omega)
  have a2 := Int.emod_lt_of_pos x (show 0 < d by omega)
  have a3 := Int.mul_ediv_add_emod x d
  have hb : -4611686018427387904 ≤ x / d ∧ x / d ≤ 4611686018427387904 := by
    constructor
    · exact Int.le_ediv_of_mul_le (by omega) (by
        have : (-4611686018427387904) * d ≤ (-4611686018427387904) * 1 := Int.mul_le_mul_of_nonpos_left (by omega) hd
        omega)
    · by_cases h : x < 0
      · have : x / d < 0 := Int.ediv_neg_of_neg_of_pos h (by omega); omega
      · exact Int.le_trans (Int.ediv_le_self d (by omega)) hx2
  obtain ⟨N, h1, h2, h3, -, -⟩ := near_ok (x / d) (x % d) d a1 a2 hd2 hb.1 hb.2
  rw [Int.mul_comm] at a3
  exact ⟨N, h1, by omega, by omega⟩
theorem pow_bound (b : Int) (h0 : 0 ≤ b) (h1 : b ≤ 62) : (1 : Int) ≤ 2 ^ b.toNat ∧ (2 : Int) ^ b.toNat ≤ 4611686018427387904 := by
  have h : b.toNat ≤ 62 := by omega
  refine ⟨?_, ?_⟩
  · exact_mod_cast Nat.one_le_two_pow (n := b.toNat)
  · have := Nat.pow_le_pow_right (n := 2) (by omega) h
    have e : (2 : Nat) ^ 62 = 4611686018427387904 := by decide
    rw [e] at this
    have c : ((2 ^ b.toNat : Nat) : Int) = (2 : Int) ^ b.toNat := by rw [Int.natCast_pow]; rfl
    rw [← c]; omega
theorem shl_one (b : Int) (h0 : 0 ≤ b) (h1 : b ≤ 62) : shl .i64 1 b = 2 ^ b.toNat := by
  have := pow_bound b h0 h1
  unfold shl
  rw [Nat.min_eq_left (show b.toNat ≤ IntKind.i64.bits by show b.toNat ≤ 64; omega), Int.one_mul, wi64 (by omega) (by omega)]
theorem Shift_eq (n b : Int) (h0 : 0 ≤ b) (h1 : b ≤ 62) (hx : -4611686018427387904 ≤ n) (hx2 : n ≤ 4611686018427387904) :
    impl_Shift.f n b = impl_near.f (n / 2 ^ b.toNat) (n % 2 ^ b.toNat) (2 ^ b.toNat) := by
  have hp := pow_bound b h0 h1
  have a1 := Int.emod_nonneg n (show (2 : Int) ^ b.toNat ≠ 0 by omega)
  have a2 := Int.emod_lt_of_pos n (show 0 < (2 : Int) ^ b.toNat by omega)
  have a3 := Int.mul_ediv_add_emod n (2 ^ b.toNat)
  unfold impl_Shift.f
  rw [if_neg (by omega), if_neg (by omega), if_pos h0, shl_one b h0 h1]
  have e1 : shr .i64 n b = n / 2 ^ b.toNat := by unfold shr; rw [Nat.min_eq_left (show b.toNat ≤ IntKind.i64.bits by show b.toNat ≤ 64; omega)]
  have e2 : shl .i64 (n / 2 ^ b.toNat) b = n - n % 2 ^ b.toNat := by
    unfold shl; rw [Nat.min_eq_left (show b.toNat ≤ IntKind.i64.bits by show b.toNat ≤ 64; omega)]
    rw [Int.mul_comm]
    rw [wi64 (by omega) (by omega)]; omega
  rw [e1, e2, w64 (by omega) (by omega), show n - (n - n % 2 ^ b.toNat) = n % 2 ^ b.toNat by omega]
  exact bsome _
theorem specShift_eq (k : Nat) (n b : Int) (h0 : 0 ≤ b) (h1 : b ≤ 62) (hx : -4611686018427387904 ≤ n) (hx2 : n ≤ 4611686018427387904) :
    spec_Shift.f (k + 1) n b = impl_near.f (n / 2 ^ b.toNat) (n % 2 ^ b.toNat) (2 ^ b.toNat) := by
  have hp := pow_bound b h0 h1
  unfold spec_Shift.f
  rw [if_neg (by omega), if_neg (by omega), wu64 h0 (by omega), if_pos h0, shl_one b h0 h1, specNear_eq k _ _ hp.1 hp.2 hx hx2]
  exact bsome _

theorem within_eq (a lo hi : Int) : impl_within.f a lo hi = some (decide (lo ≤ a ∧ a ≤ hi)) := by
  unfold impl_within.f
  by_cases h : a ≥ lo
  · rw [if_pos h]; simp [show lo ≤ a from h]
  · rw [if_neg h]; simp; omega
theorem l5In_eq (a lo hi : Int) : spec_l5In.f a lo hi = some (decide (lo ≤ a ∧ a ≤ hi)) := by
  unfold spec_l5In.f
  by_cases h : a ≥ lo
  · rw [if_pos h]; simp [show lo ≤ a from h]
  · rw [if_neg h]; simp; omega
theorem within_yes {a lo hi : Int} (h : lo ≤ a ∧ a ≤ hi) : impl_within.f a lo hi = some true := by rw [within_eq, decide_eq_true h]
theorem l5In_yes {a lo hi : Int} (h : lo ≤ a ∧ a ≤ hi) : spec_l5In.f a lo hi = some true := by rw [l5In_eq, decide_eq_true h]
theorem isReal_yes {a : Int} (h1 : -1099511627776 ≤ a) (h2 : a ≤ 1099511627776) : impl_isReal.f a = some true := by
  unfold impl_isReal.f; rw [within_yes ⟨h1, h2⟩]; rfl
theorem isByte_yes {a : Int} (h1 : 0 ≤ a) (h2 : a ≤ 255) : impl_isByte.f a = some true := by
  unfold impl_isByte.f; rw [within_yes ⟨h1, h2⟩]; rfl
theorem bring_eq (x a b : Int) : impl_bring_int.f x a b = some (mx a (mn x b)) := rfl
theorem ScaleOk_yes {s z : Int} (h1 : 1 ≤ s) (h2 : s ≤ 1099511627776) (h3 : 0 ≤ z) (h4 : z ≤ 255) : impl_ScaleOk.f s z = some true := by
  unfold impl_ScaleOk.f; rw [within_yes ⟨h1, h2⟩]; simp only [Option.bind_some, if_true]; rw [isByte_yes h3 h4]; rfl
theorem specScaleOk_yes {s z : Int} (h1 : 1 ≤ s) (h2 : s ≤ 1099511627776) (h3 : 0 ≤ z) (h4 : z ≤ 255) : spec_ScaleOk.f s z = some true := by
  unfold spec_ScaleOk.f; rw [l5In_yes ⟨h1, h2⟩]; simp only [Option.bind_some, if_true]; rw [l5In_yes ⟨h3, h4⟩]; rfl
theorem down {P : Nat → Prop} {n : Nat} (hend : P n) (hstep : ∀ i, i < n → P (i + 1) → P i) : ∀ i, i ≤ n → P i := by
  intro i hi
  obtain ⟨d, rfl⟩ : ∃ d, n = i + d := ⟨n - i, by omega⟩
  clear hi
  induction d generalizing i with
  | zero => exact hend
  | succ d ih => exact hstep i (by omega) (ih (i + 1) (by rw [show i + 1 + d = i + (d + 1) by omega]; exact hend) (fun j hj => hstep j (by omega)))
theorem rd_lt (xs : List Int) (i : Nat) (h : i < xs.length) : rd xs (i : Int) = xs[i] := by
  simp [rd, List.getD_eq_getElem?_getD, List.getElem?_eq_getElem h]
theorem rd_all {xs : List Int} {Q : Int → Prop} (h : ∀ x ∈ xs, Q x) (i : Nat) (hi : i < xs.length) : Q (rd xs (i : Int)) := by
  rw [rd_lt xs i hi]; exact h _ (List.getElem_mem hi)
theorem wnext (i n : Nat) (h : i < n) (hn : n ≤ 1000000) : wrap64 ((i : Int) + 1) = ((i + 1 : Nat) : Int) := by
  rw [w64 (by omega) (by omega)]; omega
theorem realsOk_yes (l : List Int) (hl : 0 < l.length) (hl2 : l.length ≤ 4096) (h : ∀ x ∈ l, -1099511627776 ≤ x ∧ x ≤ 1099511627776) : Ev (fun k => impl_realsOk.f k l) true := by
  have := down (P := fun i => Ev (fun k => impl_realsOk.l0 k l l (l.length : Int) (i : Int)) true) (n := l.length) ?_ ?_ 0 (Nat.zero_le _)
  · exact this
  · refine Ev.step (f := fun _ => some true) (fun k => ?_) (Ev.now _)
    simp only [impl_realsOk.l0]
    rw [if_neg (by omega), if_pos (by omega)]
    simp only [Option.some.injEq, decide_eq_true_eq]; omega
  · intro i hi ih
    refine Ev.step (fun k => ?_) ih
    simp only [impl_realsOk.l0]
    rw [if_pos (by omega), if_pos (by omega), if_pos (by omega), isReal_yes (rd_all h i hi).1 (rd_all h i hi).2]
    simp only [Option.bind_some, if_true]
    rw [wnext i l.length hi (by omega)]
theorem Calibrate_loop (st ze lo hi : Int) (l : List Int) (hl2 : l.length ≤ 4096) (h : ∀ x ∈ l, lo ≤ x ∧ x ≤ hi) (hfin : Ev (fun k => impl_Calibrate.l0 k lo hi l (l.length : Int) (l.length : Int)) (st, ze, true)) :
    ∀ i, i ≤ l.length → Ev (fun k => impl_Calibrate.l0 k lo hi l (l.length : Int) (i : Int)) (st, ze, true) := by
  refine down (P := fun i => Ev (fun k => impl_Calibrate.l0 k lo hi l (l.length : Int) (i : Int)) (st, ze, true)) hfin ?_
  intro i hi' ih
  refine Ev.step (fun k => ?_) ih
  simp only [impl_Calibrate.l0]
  have hx := rd_all h i hi'
  rw [if_pos (by omega), if_pos (by omega), if_pos (by omega), wnext i l.length hi' (by omega)]
  rw [show mn lo (rd l (i : Int)) = lo by unfold mn; rw [if_neg (by omega)], show mx hi (rd l (i : Int)) = hi by unfold mx; rw [if_neg (by omega)]]
theorem Calibrate_is (lo hi st ze : Int) (xs : List Int) (hlo : -1099511627776 ≤ lo) (hlo0 : lo ≤ 0) (hhi : hi ≤ 1099511627776) (hhi0 : 0 ≤ hi) (hx : ∀ x ∈ xs, lo ≤ x ∧ x ≤ hi) (hn : xs.length ≤ 8)
    (hst : mx 1 (wrap64 (Int.tdiv (wrap64 ((wrap64 (hi - lo)) + 254)) 255)) = st) (hze : impl_Near.f 5 (wrap64 (-lo)) st = some ze) :
    Ev (fun k => impl_Calibrate.f k ([lo, hi] ++ xs)) (st, ze, true) := by
  have hall : ∀ x ∈ [lo, hi] ++ xs, lo ≤ x ∧ x ≤ hi := by
    intro x hm
    simp only [List.cons_append, List.nil_append, List.mem_cons] at hm
    rcases hm with rfl | rfl | hm
    · omega
    · omega
    · exact hx x hm
  have hlen : ([lo, hi] ++ xs).length = xs.length + 2 := by simp
  refine Ev.bind (realsOk_yes _ (by omega) (by omega) (fun x hm => ⟨by have := hall x hm; omega, by have := hall x hm; omega⟩)) ?_
  simp only [if_true]
  have hfin : Ev (fun k => impl_Calibrate.l0 k lo hi ([lo, hi] ++ xs) (([lo, hi] ++ xs).length : Int) (([lo, hi] ++ xs).length : Int)) (st, ze, true) := by
    refine Ev.step (f := fun k => (impl_Near.f k (wrap64 (-lo)) st).bind fun t => some (st, t, true)) (fun k => ?_) ?_
    · simp only [impl_Calibrate.l0]; rw [if_neg (by omega), hst]
    · exact Ev.bind (Ev.of (impl_Near.mono _ _) hze) (Ev.now _)
  have h2 := Calibrate_loop st ze lo hi _ (by omega) hall hfin 2 (by omega)
  refine Ev.step (f := fun k => impl_Calibrate.l0 k lo (mx 0 lo) ([lo, hi] ++ xs) (([lo, hi] ++ xs).length : Int) 1) (fun k => ?_) (Ev.step (fun k => ?_) h2)
  · simp only [impl_Calibrate.l0]
    rw [if_pos (by omega), if_pos (by omega), if_pos (by omega), w64 (by omega) (by omega)]
    rw [show rd ([lo, hi] ++ xs) 0 = lo from rfl, show mn 0 lo = lo by unfold mn; split <;> omega]; rfl
  · simp only [impl_Calibrate.l0]
    rw [if_pos (by omega), if_pos (by omega), if_pos (by omega), w64 (by omega) (by omega)]
    rw [show rd ([lo, hi] ++ xs) 1 = hi from rfl, show mn lo hi = lo by unfold mn; split <;> omega, show mx (mx 0 lo) hi = hi by unfold mx; split <;> split <;> omega]; rfl
theorem Cal_a (xs : List Int) (hx : ∀ x ∈ xs, -100000 ≤ x ∧ x ≤ 100000) (hn : xs.length ≤ 8) : Ev (fun k => impl_Calibrate.f k ([-100000, 100000] ++ xs)) (785, 127, true) :=
  Calibrate_is _ _ 785 127 xs (by omega) (by omega) (by omega) (by omega) hx hn (by decide +kernel) (by decide +kernel)
theorem Cal_b (xs : List Int) (hx : ∀ x ∈ xs, -50000 ≤ x ∧ x ≤ 50000) (hn : xs.length ≤ 8) : Ev (fun k => impl_Calibrate.f k ([-50000, 50000] ++ xs)) (393, 127, true) :=
  Calibrate_is _ _ 393 127 xs (by omega) (by omega) (by omega) (by omega) hx hn (by decide +kernel) (by decide +kernel)
/-- A byte of a real: how far it is off. -/
def Off (s x q : Int) : Prop := 1 ≤ q ∧ q ≤ 254 ∧ 2 * (x - (q - 127) * s) ≤ s ∧ -s ≤ 2 * (x - (q - 127) * s)
theorem Quantise_is (s x : Int) (hs : 1 ≤ s) (hs2 : s ≤ 1000) (h1 : 2 * x ≤ 230 * s) (h2 : -230 * s ≤ 2 * x) : ∃ q, Ev (fun k => impl_Quantise.f k s 127 x) q ∧ Off s x q := by
  obtain ⟨N, hN, a1, a2⟩ := near_val x s hs (by omega) (by omega) (by omega)
  have b1 : N * s ≤ 116 * s := by omega
  have b2 : (-116) * s ≤ N * s := by omega
  have c1 : N ≤ 116 := Int.le_of_mul_le_mul_right b1 (by omega)
  have c2 : -116 ≤ N := Int.le_of_mul_le_mul_right b2 (by omega)
  refine ⟨127 + N, ?_, by omega, by omega, ?_, ?_⟩
  · have e : ∀ k, impl_Quantise.f (k + 2) s 127 x = some (127 + N) := by
      intro k
      unfold impl_Quantise.f
      rw [ScaleOk_yes hs (by omega) (by omega) (by omega)]
      simp only [Option.bind_some, if_true]
      rw [isReal_yes (by omega) (by omega)]
      simp only [Option.bind_some, impl_Quantise.j0, Bool.not_true, Bool.false_eq_true, if_false]
      rw [Near_eq k x s hs (by omega) (by omega) (by omega), hN]
      simp only [Option.bind_some, bring_eq]
      rw [w64 (by omega) (by omega)]
      unfold mx mn
      rw [if_neg (show ¬ (255 : Int) < 127 + N by omega), if_pos (by omega)]
    exact ⟨2, fun k hk => by obtain ⟨m, rfl⟩ : ∃ m, k = m + 2 := ⟨k - 2, by omega⟩; exact e m⟩
  · rw [show 127 + N - 127 = N by omega]; exact a1
  · rw [show 127 + N - 127 = N by omega]; exact a2
/-- Lists of bytes that belong to lists of reals. -/
def Offs (s : Int) : List Int → List Int → Prop
  | [], [] => True
  | x :: xs, q :: qs => Off s x q ∧ Offs s xs qs
  | _, _ => False
theorem Offs_snoc {s : Int} : ∀ {xs qs : List Int} {x q : Int}, Offs s xs qs → Off s x q → Offs s (xs ++ [x]) (qs ++ [q])
  | [], [], _, _, _, h => ⟨h, trivial⟩
  | _ :: _, _ :: _, _, _, ⟨h1, h2⟩, h => ⟨h1, Offs_snoc h2 h⟩
theorem Offs_len {s : Int} : ∀ {xs qs : List Int}, Offs s xs qs → xs.length = qs.length
  | [], [], _ => rfl
  | _ :: _, _ :: _, ⟨_, h2⟩ => by simp [Offs_len h2]
theorem Offs_at {s : Int} : ∀ {xs qs : List Int}, Offs s xs qs → ∀ i : Nat, i < xs.length → Off s (rd xs i) (rd qs i)
  | [], [], _, i, h => by simp at h
  | x :: xs, q :: qs, ⟨h1, h2⟩, 0, _ => h1
  | x :: xs, q :: qs, ⟨h1, h2⟩, i + 1, h => by
    have := Offs_at h2 i (by simpa using h)
    have e1 : rd (x :: xs) ((i + 1 : Nat) : Int) = rd xs i := by simp [rd, List.getD_eq_getElem?_getD]
    have e2 : rd (q :: qs) ((i + 1 : Nat) : Int) = rd qs i := by simp [rd, List.getD_eq_getElem?_getD]
    rw [e1, e2]; exact this
theorem quantised_is (s : Int) (xs : List Int) (hs : 1 ≤ s) (hs2 : s ≤ 1000) (hn : xs.length ≤ 8) (h : ∀ x ∈ xs, 2 * x ≤ 230 * s ∧ -230 * s ≤ 2 * x) :
    ∃ qs, Offs s xs qs ∧ Ev (fun k => laws_quantised.f k s 127 xs) (qs, true) := by
  have key : ∀ d i : Nat, i + d = xs.length → ∀ acc, Offs s (xs.take i) acc → ∃ qs, Offs s xs qs ∧ Ev (fun k => laws_quantised.l0 k xs acc (i : Int) s 127) (qs, true) := by
    intro d
    induction d with
    | zero =>
      intro i hi acc hacc
      refine ⟨acc, by rwa [List.take_of_length_le (by omega)] at hacc, ?_⟩
      refine Ev.step (f := fun _ => some (acc, true)) (fun k => ?_) (Ev.now _)
      simp only [laws_quantised.l0]; rw [if_neg (by omega)]
    | succ d ih =>
      intro i hi acc hacc
      have hi' : i < xs.length := by omega
      have hx := rd_all h i hi'
      obtain ⟨q, hq, ho⟩ := Quantise_is s _ hs hs2 hx.1 hx.2
      have hl := Offs_len hacc
      rw [List.length_take, Nat.min_eq_left (by omega)] at hl
      obtain ⟨qs, h1, h2⟩ := ih (i + 1) (by omega) (acc ++ [q]) (by
        rw [List.take_succ_eq_append_getElem hi', ← rd_lt xs i hi']; exact Offs_snoc hacc ho)
      refine ⟨qs, h1, ?_⟩
      refine Ev.step (f := fun k => (impl_Quantise.f k s 127 (rd xs i)).bind fun t => if t < 1 then some (acc, false) else (if t > 254 then some (acc, false) else (if acc.length < 17592186044416 then laws_quantised.l0 k xs (acc ++ [t]) (wrap64 ((i : Int) + 1)) s 127 else none))) (fun k => ?_) ?_
      · simp only [laws_quantised.l0]; rw [if_pos (by omega), if_pos (by omega)]
      · refine Ev.bind hq ?_
        obtain ⟨o1, o2, _, _⟩ := ho
        rw [wnext i xs.length hi' (by omega)]
        simp only [if_neg (show ¬ q < 1 by omega), if_neg (show ¬ q > 254 by omega), if_pos (show acc.length < 17592186044416 by omega)]
        exact h2
  exact key xs.length 0 (by omega) [] trivial
theorem bytesOk_yes (l : List Int) (hl2 : l.length ≤ 4096) (h : ∀ x ∈ l, 0 ≤ x ∧ x ≤ 255) : Ev (fun k => impl_bytesOk.f k l) true := by
  refine down (P := fun i => Ev (fun k => impl_bytesOk.l0 k l l (l.length : Int) (i : Int)) true) (n := l.length) ?_ ?_ 0 (Nat.zero_le _)
  · refine Ev.step (f := fun _ => some true) (fun k => ?_) (Ev.now _)
    simp only [impl_bytesOk.l0]
    rw [if_neg (by omega)]
    simp only [Option.some.injEq, decide_eq_true_eq]; omega
  · intro i hi ih
    refine Ev.step (fun k => ?_) ih
    simp only [impl_bytesOk.l0]
    rw [if_pos (by omega), if_pos (by omega), if_pos (by omega), isByte_yes (rd_all h i hi).1 (rd_all h i hi).2]
    simp only [Option.bind_some, if_true]
    rw [wnext i l.length hi (by omega)]
theorem l14Bytes_yes (l : List Int) (hl2 : l.length ≤ 4096) (h : ∀ x ∈ l, 0 ≤ x ∧ x ≤ 255) : Ev (fun k => spec_l14Bytes.f k l) true := by
  refine down (P := fun i => Ev (fun k => spec_l14Bytes.l0 k l (i : Int)) true) (n := l.length) ?_ ?_ 0 (Nat.zero_le _)
  · refine Ev.step (f := fun _ => some true) (fun k => ?_) (Ev.now _)
    simp only [spec_l14Bytes.l0]
    rw [if_neg (by omega)]
    simp only [Option.some.injEq, decide_eq_true_eq]; omega
  · intro i hi ih
    refine Ev.step (fun k => ?_) ih
    simp only [spec_l14Bytes.l0]
    rw [if_pos (by omega), if_pos (by omega), l5In_yes (rd_all h i hi)]
    simp only [Option.bind_some, if_true]
    rw [wnext i l.length hi (by omega)]
/-- A sum over the first places. -/
def dsum (f : Nat → Int) : Nat → Int
  | 0 => 0
  | n + 1 => dsum f n + f n
theorem dsum_bound (f : Nat → Int) (B : Int) (n : Nat) (h : ∀ i, i < n → -B ≤ f i ∧ f i ≤ B) : -((n : Int) * B) ≤ dsum f n ∧ dsum f n ≤ (n : Int) * B := by
  induction n with
  | zero => simp [dsum]
  | succ n ih =>
    have a := ih (fun i hi => h i (by omega)); have b := h n (by omega)
    have e : ((n + 1 : Nat) : Int) * B = (n : Int) * B + B := by rw [Int.natCast_add, Int.add_mul]; simp
    rw [e]; simp only [dsum]; omega
def pq (p q : List Int) (i : Nat) : Int := (rd p i - 127) * (rd q i - 127)
theorem mul_bound {a b A B : Int} (h1 : -A ≤ a) (h2 : a ≤ A) (h3 : -B ≤ b) (h4 : b ≤ B) : -(A * B) ≤ a * b ∧ a * b ≤ A * B := by
  have hA : 0 ≤ A := by omega
  have hB : 0 ≤ B := by omega
  have k : (a * b).natAbs ≤ (A * B).natAbs := by
    rw [Int.natAbs_mul, Int.natAbs_mul]; exact Nat.mul_le_mul (by omega) (by omega)
  have : 0 ≤ A * B := Int.mul_nonneg hA hB
  omega
theorem pq_bound (p q : List Int) (hp : ∀ x ∈ p, 0 ≤ x ∧ x ≤ 255) (hq : ∀ x ∈ q, 0 ≤ x ∧ x ≤ 255) (hl : p.length = q.length) (i : Nat) (hi : i < p.length) : -16384 ≤ pq p q i ∧ pq p q i ≤ 16384 := by
  have a := rd_all hp i hi; have b := rd_all hq i (hl ▸ hi)
  exact mul_bound (A := 128) (B := 128) (by omega) (by omega) (by omega) (by omega)
theorem Dot_step (p q : List Int) (hp : ∀ x ∈ p, 0 ≤ x ∧ x ≤ 255) (hq : ∀ x ∈ q, 0 ≤ x ∧ x ≤ 255) (hl : p.length = q.length) (hn : p.length ≤ 4096) (i : Nat) (hi : i < p.length) :
    wrap64 (dsum (pq p q) i + wrap64 (wrap64 (rd p i - 127) * wrap64 (rd q i - 127))) = dsum (pq p q) (i + 1) := by
  have a := rd_all hp i hi; have b := rd_all hq i (hl ▸ hi)
  have c := pq_bound p q hp hq hl i hi
  have d := dsum_bound (pq p q) 16384 i (fun j hj => pq_bound p q hp hq hl j (by omega))
  have e : (i : Int) * 16384 ≤ 4096 * 16384 := Int.mul_le_mul_of_nonneg_right (by omega) (by omega)
  rw [w64 (x := rd p i - 127) (by omega) (by omega), w64 (x := rd q i - 127) (by omega) (by omega)]
  show wrap64 (dsum (pq p q) i + wrap64 (pq p q i)) = _
  rw [w64 (x := pq p q i) (by omega) (by omega), w64 (by omega) (by omega)]; rfl
theorem DotBytes_is (sa sb : Int) (p q : List Int) (h1 : 1 ≤ sa) (h2 : sa ≤ 1000) (h3 : 1 ≤ sb) (h4 : sb ≤ 1000) (hp : ∀ x ∈ p, 0 ≤ x ∧ x ≤ 255) (hq : ∀ x ∈ q, 0 ≤ x ∧ x ≤ 255) (hl : p.length = q.length) (hn : p.length ≤ 4096) :
    Ev (fun k => impl_DotBytes.f k sa 127 sb 127 p q) (dsum (pq p q) p.length) := by
  unfold impl_DotBytes.f
  simp only [ScaleOk_yes h1 (show sa ≤ 1099511627776 by omega) (show (0 : Int) ≤ 127 by omega) (by omega), ScaleOk_yes h3 (show sb ≤ 1099511627776 by omega) (show (0 : Int) ≤ 127 by omega) (by omega), Option.bind_some, if_true, if_pos (show (p.length : Int) = q.length by omega)]
  refine Ev.bind (bytesOk_yes p hn hp) ?_
  simp only [if_true]
  refine Ev.bind (bytesOk_yes q (by omega) hq) ?_
  refine Ev.step (f := fun k => impl_DotBytes.l0 k q 0 p (p.length : Int) 0 sa 127 sb 127) (fun k => by simp [impl_DotBytes.j0]) ?_
  refine down (P := fun i => Ev (fun k => impl_DotBytes.l0 k q (dsum (pq p q) i) p (p.length : Int) (i : Int) sa 127 sb 127) (dsum (pq p q) p.length)) (n := p.length) ?_ ?_ 0 (Nat.zero_le _)
  · refine Ev.step (f := fun _ => some _) (fun k => ?_) (Ev.now _)
    simp only [impl_DotBytes.l0]; rw [if_neg (by omega)]
  · intro i hi ih
    refine Ev.step (fun k => ?_) ih
    simp only [impl_DotBytes.l0]
    rw [if_pos (by omega), if_pos (by omega), if_pos (by omega), if_pos (by omega), wnext i p.length hi (by omega), Dot_step p q hp hq hl hn i hi]
theorem specDotBytes_is (sa sb : Int) (p q : List Int) (h1 : 1 ≤ sa) (h2 : sa ≤ 1000) (h3 : 1 ≤ sb) (h4 : sb ≤ 1000) (hp : ∀ x ∈ p, 0 ≤ x ∧ x ≤ 255) (hq : ∀ x ∈ q, 0 ≤ x ∧ x ≤ 255) (hl : p.length = q.length) (hn : p.length ≤ 4096) :
    Ev (fun k => spec_DotBytes.f k sa 127 sb 127 p q) (dsum (pq p q) p.length) := by
  unfold spec_DotBytes.f
  simp only [specScaleOk_yes h1 (show sa ≤ 1099511627776 by omega) (show (0 : Int) ≤ 127 by omega) (by omega), specScaleOk_yes h3 (show sb ≤ 1099511627776 by omega) (show (0 : Int) ≤ 127 by omega) (by omega), Option.bind_some, if_true, if_pos (show (p.length : Int) = q.length by omega)]
  refine Ev.bind (l14Bytes_yes p hn hp) ?_
  simp only [if_true]
  refine Ev.bind (l14Bytes_yes q (by omega) hq) ?_
  refine Ev.step (f := fun k => spec_DotBytes.l0 k p q 0 0 sa 127 sb 127) (fun k => by simp [spec_DotBytes.j0]) ?_
  refine down (P := fun i => Ev (fun k => spec_DotBytes.l0 k p q (dsum (pq p q) i) (i : Int) sa 127 sb 127) (dsum (pq p q) p.length)) (n := p.length) ?_ ?_ 0 (Nat.zero_le _)
  · refine Ev.step (f := fun _ => some _) (fun k => ?_) (Ev.now _)
    simp only [spec_DotBytes.l0]; rw [if_neg (by omega)]
  · intro i hi ih
    refine Ev.step (fun k => ?_) ih
    simp only [spec_DotBytes.l0]
    rw [if_pos (by omega), if_pos (by omega), if_pos (by omega), wnext i p.length hi (by omega), Dot_step p q hp hq hl hn i hi]
theorem clip_eq (N : Int) : spec_l14Clip.f N 0 255 = some (mx 0 (mn N 255)) := by
  unfold spec_l14Clip.f mx mn
  by_cases h1 : N < 0
  · rw [if_pos h1, if_neg (show ¬ (255 : Int) < N by omega), if_neg (by omega)]
  · rw [if_neg h1]
    by_cases h2 : N > 255
    · rw [if_pos h2, if_pos (show (255 : Int) < N from h2)]; rfl
    · rw [if_neg h2, if_neg (show ¬ (255 : Int) < N by omega)]
      by_cases h3 : 0 < N
      · rw [if_pos h3]
      · rw [if_neg h3]; congr 1; omega
/-- What a sum becomes. -/
theorem Requant_is (D m s cs : Int) (hD : -1000000 ≤ D) (hD2 : D ≤ 1000000) (hm : 0 ≤ m) (hm2 : m ≤ 2147483648) (hs : 0 ≤ s) (hs2 : s ≤ 62) (hc : 1 ≤ cs) (hc2 : cs ≤ 10000) :
    ∃ N, 2 * (D * m - N * 2 ^ s.toNat) ≤ 2 ^ s.toNat ∧ -(2 ^ s.toNat) ≤ 2 * (D * m - N * 2 ^ s.toNat) ∧ Ev (fun k => impl_Requant.f k D m s cs 128) (mx 0 (mn (128 + N) 255)) ∧ Ev (fun k => spec_Requant.f k D m s cs 128) (mx 0 (mn (128 + N) 255)) := by
  have hp := pow_bound s hs hs2
  have hb := mul_bound (a := D) (b := m) (A := 1000000) (B := 2147483648) hD hD2 (by omega) hm2
  obtain ⟨N, hN, a1, a2⟩ := near_val (D * m) (2 ^ s.toNat) hp.1 hp.2 (by omega) (by omega)
  have hI := Shift_eq (D * m) s hs hs2 (by omega) (by omega)
  have hS := fun k => specShift_eq k (D * m) s hs hs2 (by omega) (by omega)
  rw [hN] at hI
  simp only [hN] at hS
  generalize (2 : Int) ^ s.toNat = P at *
  have b1 : N * P ≤ 4000000000000000 * P := by omega
  have b2 : (-4000000000000000) * P ≤ N * P := by omega
  have c1 : N ≤ 4000000000000000 := Int.le_of_mul_le_mul_right b1 (by omega)
  have c2 : -4000000000000000 ≤ N := Int.le_of_mul_le_mul_right b2 (by omega)
  refine ⟨N, a1, a2, ⟨1, fun k hk => ?_⟩, ⟨2, fun k hk => ?_⟩⟩
  · obtain ⟨k, rfl⟩ : ∃ m, k = m + 1 := ⟨k - 1, by omega⟩
    unfold impl_Requant.f
    simp only [ScaleOk_yes hc (show cs ≤ 1099511627776 by omega) (show (0 : Int) ≤ 128 by omega) (by omega), Option.bind_some, if_true, within_yes (show (-1073741824 : Int) ≤ D ∧ D ≤ 1073741824 by omega), within_yes (show (0 : Int) ≤ m ∧ m ≤ 2147483648 from ⟨hm, hm2⟩), within_yes (show (0 : Int) ≤ s ∧ s ≤ 62 from ⟨hs, hs2⟩), impl_Requant.j0, Bool.not_true, Bool.false_eq_true, if_false]
    rw [w64 (x := D * m) (by omega) (by omega), hI]
    simp only [Option.bind_some, bring_eq]
    rw [w64 (by omega) (by omega)]
  · obtain ⟨k, rfl⟩ : ∃ m, k = m + 2 := ⟨k - 2, by omega⟩
    unfold spec_Requant.f
    simp only [specScaleOk_yes hc (show cs ≤ 1099511627776 by omega) (show (0 : Int) ≤ 128 by omega) (by omega), Option.bind_some, if_true, l5In_yes (show (-1073741824 : Int) ≤ D ∧ D ≤ 1073741824 by omega), l5In_yes (show (0 : Int) ≤ m ∧ m ≤ 2147483648 from ⟨hm, hm2⟩), l5In_yes (show (0 : Int) ≤ s ∧ s ≤ 62 from ⟨hs, hs2⟩), spec_Requant.j0, Bool.not_true, Bool.false_eq_true, if_false]
    rw [w64 (x := D * m) (by omega) (by omega), hS]
    simp only [Option.bind_some]
    rw [w64 (by omega) (by omega), clip_eq]; rfl
theorem bytes_l1 (x0 x3 x6 : List Int) (x1 x4 x17 x18 x20 x95 x96 c0 c1 c2 c3 c4 c5 : Int) (x94 : List (List Int)) (L : List Int) (hL : ∀ x ∈ L, 0 ≤ x ∧ x ≤ 255) (hn : L.length ≤ 4096) (r : List Int)
    (h : Ev (fun k => impl_MatBytes.l0 k x0 x1 x3 x4 x6 x17 x18 x20 x94 x95 (wrap64 (x96 + 1)) c0 c1 c2 c3 c4 c5) r) :
    Ev (fun k => impl_MatBytes.l1 k x0 x1 x3 x4 x6 x17 x18 x20 x94 x95 x96 L (L.length : Int) 0 c0 c1 c2 c3 c4 c5) r := by
  refine down (P := fun i => Ev (fun k => impl_MatBytes.l1 k x0 x1 x3 x4 x6 x17 x18 x20 x94 x95 x96 L (L.length : Int) (i : Int) c0 c1 c2 c3 c4 c5) r) (n := L.length) ?_ ?_ 0 (Nat.zero_le _)
  · refine Ev.step (fun k => ?_) h
    simp only [impl_MatBytes.l1]; rw [if_neg (by omega)]
  · intro i hi ih
    refine Ev.step (fun k => ?_) ih
    simp only [impl_MatBytes.l1]
    rw [if_pos (by omega), if_pos (by omega), if_pos (by omega), isByte_yes (rd_all hL i hi).1 (rd_all hL i hi).2]
    simp only [Option.bind_some, if_true]
    rw [wnext i L.length hi (by omega)]
theorem MatBytes_is (p q : List Int) (m s cs y : Int) (hp : ∀ x ∈ p, 0 ≤ x ∧ x ≤ 255) (hq : ∀ x ∈ q, 0 ≤ x ∧ x ≤ 255) (hl : p.length = q.length) (h1 : 1 ≤ p.length) (hn : p.length ≤ 8)
    (hF : Ev (fun k => impl_Factor.f k 785 127 393 127 cs 128) (m, s, true)) (hR : Ev (fun k => impl_Requant.f k (dsum (pq p q) p.length) m s cs 128) y) :
    Ev (fun k => impl_MatBytes.f k p (p.length : Int) 785 127 q 1 393 127 [0] cs 128) [y] := by
  have hd := dsum_bound (pq p q) 16384 p.length (pq_bound p q hp hq hl)
  have e : (p.length : Int) * 16384 ≤ 8 * 16384 := Int.mul_le_mul_of_nonneg_right (by omega) (by omega)
  have edd : (p.length : Int) / (p.length : Int) = 1 := Int.ediv_self (by omega)
  have emd : (p.length : Int) % (p.length : Int) = 0 := Int.emod_self
  unfold impl_MatBytes.f
  refine Ev.bind hF ?_
  simp only [if_true, within_yes (show (1 : Int) ≤ (p.length : Int) ∧ (p.length : Int) ≤ 4096 by omega), within_yes (show (1 : Int) ≤ 1 ∧ (1 : Int) ≤ 4096 by omega), Option.bind_some, if_neg (show ¬ (p.length : Int) = 0 by omega), emd, Int.one_mul, w64 (x := (p.length : Int)) (by omega) (by omega), if_pos (show (q.length : Int) = p.length by omega), List.length_singleton]
  refine Ev.step (f := fun k => impl_MatBytes.j1 k p (p.length : Int) q 1 [0] m s 1 false 785 127 393 127 cs 128) (fun k => ?_) ?_
  · simp only [impl_MatBytes.j0, edd]
    rw [if_neg (by decide), if_neg (by omega), w64 (x := 1) (by omega) (by omega), if_neg (by decide), show wrap64 (1 * 1) = 1 from by decide +kernel, if_neg (by decide), Int.one_mul, w64 (x := (p.length : Int)) (by omega) (by omega), decide_eq_false (by omega)]
  refine Ev.step (f := fun k => impl_MatBytes.l0 k p (p.length : Int) q 1 [0] m s 1 [p, q] 2 0 785 127 393 127 cs 128) (fun k => by simp [impl_MatBytes.j1]) ?_
  refine Ev.step (f := fun k => impl_MatBytes.l1 k p (p.length : Int) q 1 [0] m s 1 [p, q] 2 0 p (p.length : Int) 0 785 127 393 127 cs 128) (fun k => by simp only [impl_MatBytes.l0]; rfl) (bytes_l1 _ _ _ _ _ _ _ _ _ _ _ _ _ _ _ _ _ p hp (by omega) _ ?_)
  refine Ev.step (f := fun k => impl_MatBytes.l1 k p (p.length : Int) q 1 [0] m s 1 [p, q] 2 1 q (q.length : Int) 0 785 127 393 127 cs 128) (fun k => by rw [show wrap64 (0 + 1) = 1 from by decide +kernel]; simp only [impl_MatBytes.l0]; rfl) (bytes_l1 _ _ _ _ _ _ _ _ _ _ _ _ _ _ _ _ _ q hq (by omega) _ ?_)
  refine Ev.step (f := fun k => impl_MatBytes.l2 k p (p.length : Int) q 1 [0] m s 1 [0] 1 0 785 127 393 127 cs 128) (fun k => by rw [show wrap64 (1 + 1) = 2 from by decide +kernel]; simp only [impl_MatBytes.l0]; rfl) ?_
  refine Ev.step (f := fun k => impl_MatBytes.l2 k p (p.length : Int) q 1 [0] m s 1 [0] 1 1 785 127 393 127 cs 128) (fun k => by simp only [impl_MatBytes.l2]; rw [if_pos (by omega), if_pos (by omega), if_pos (by simp), show rd [0] 0 = 0 from rfl, within_yes (by omega), show wrap64 (0 + 1) = 1 from by decide +kernel]; rfl) ?_
  refine Ev.step (f := fun k => impl_MatBytes.l3 k p (p.length : Int) q 1 [0] m s [] 1 0 785 127 393 127 cs 128) (fun k => by simp only [impl_MatBytes.l2]; rfl) ?_
  refine Ev.step (f := fun k => impl_MatBytes.l4 k p (p.length : Int) q 1 [0] m s [] 0 1 0 1 0 785 127 393 127 cs 128) (fun k => by simp only [impl_MatBytes.l3]; rfl) ?_
  refine Ev.step (f := fun k => (impl_DotBytes.f k 785 127 393 127 p q).bind fun t194 => (impl_bring_int.f (wrap64 (t194 + rd [0] 0)) (-1073741824) 1073741824).bind fun t196 => (impl_Requant.f k t196 m s cs 128).bind fun t197 => impl_MatBytes.l4 k p (p.length : Int) q 1 [0] m s ([] ++ [t197]) 0 1 0 1 1 785 127 393 127 cs 128) (fun k => ?_) ?_
  · simp only [impl_MatBytes.l4, show wrap64 (0 + 1) = 1 from by decide +kernel, Int.zero_mul, Int.one_mul, show wrap64 0 = 0 from by decide +kernel, w64 (x := (p.length : Int)) (by omega) (by omega), Int.toNat_natCast, show (0 : Int).toNat = 0 from rfl, List.drop_zero, List.take_length]
    rw [if_pos (by omega), if_pos (by omega), if_pos (by omega), if_pos (by omega), if_pos (by omega), if_pos (by omega), if_pos (by omega)]
    rw [show q.take p.length = q from by rw [hl]; exact List.take_length]
    simp
  refine Ev.bind (DotBytes_is 785 393 p q (by omega) (by omega) (by omega) (by omega) hp hq hl (by omega)) ?_
  simp only [show rd [0] 0 = 0 from rfl, Int.add_zero, w64 (x := dsum (pq p q) p.length) (by omega) (by omega), bring_eq, Option.bind_some]
  rw [show mx (-1073741824) (mn (dsum (pq p q) p.length) 1073741824) = dsum (pq p q) p.length by unfold mx mn; rw [if_neg (show ¬ (1073741824 : Int) < _ by omega), if_pos (by omega)]]
  refine Ev.bind hR ?_
  refine Ev.step (f := fun k => impl_MatBytes.l3 k p (p.length : Int) q 1 [0] m s [y] 1 1 785 127 393 127 cs 128) (fun k => by simp only [impl_MatBytes.l4]; rw [if_neg (by omega), show wrap64 (0 + 1) = 1 from by decide +kernel]; rfl) ?_
  exact Ev.step (f := fun _ => some [y]) (fun k => by simp only [impl_MatBytes.l3]; rfl) (Ev.now _)
theorem specMatBytes_is (p q : List Int) (m s cs y : Int) (hp : ∀ x ∈ p, 0 ≤ x ∧ x ≤ 255) (hq : ∀ x ∈ q, 0 ≤ x ∧ x ≤ 255) (hl : p.length = q.length) (h1 : 1 ≤ p.length) (hn : p.length ≤ 8)
    (hF : Ev (fun k => spec_Factor.f k 785 127 393 127 cs 128) (m, s, true)) (hR : Ev (fun k => spec_Requant.f k (dsum (pq p q) p.length) m s cs 128) y) :
    Ev (fun k => spec_MatBytes.f k p (p.length : Int) 785 127 q 1 393 127 [0] cs 128) [y] := by
  have hd := dsum_bound (pq p q) 16384 p.length (pq_bound p q hp hq hl)
  have e : (p.length : Int) * 16384 ≤ 8 * 16384 := Int.mul_le_mul_of_nonneg_right (by omega) (by omega)
  have edd : (p.length : Int) / (p.length : Int) = 1 := Int.ediv_self (by omega)
  have emd : (p.length : Int) % (p.length : Int) = 0 := Int.emod_self
  unfold spec_MatBytes.f
  simp only [Option.bind_some]
  refine Ev.bind hF ?_
  simp only [if_true, l5In_yes (show (1 : Int) ≤ (p.length : Int) ∧ (p.length : Int) ≤ 4096 by omega), l5In_yes (show (1 : Int) ≤ 1 ∧ (1 : Int) ≤ 4096 by omega), Option.bind_some]
  refine Ev.bind (l14Bytes_yes p (by omega) hp) ?_
  simp only [if_true]
  refine Ev.bind (l14Bytes_yes q (by omega) hq) ?_
  simp only [if_true, if_neg (show ¬ (p.length : Int) = 0 by omega), emd, Int.mul_one, w64 (x := (p.length : Int)) (by omega) (by omega), if_pos (show (q.length : Int) = p.length by omega), List.length_singleton]
  refine Ev.step (f := fun k => spec_MatBytes.j1 k p (p.length : Int) q 1 [0] [] m s 1 false 785 127 393 127 cs 128) (fun k => ?_) ?_
  · simp only [spec_MatBytes.j0, edd]
    rw [if_neg (by decide), if_neg (by omega), w64 (x := 1) (by omega) (by omega), show wrap64 (1 * 1) = 1 from by decide +kernel, if_neg (by decide), Int.one_mul, w64 (x := (p.length : Int)) (by omega) (by omega), decide_eq_false (by omega)]
  refine Ev.step (f := fun k => spec_MatBytes.l0 k p (p.length : Int) q 1 [0] [] m s 1 0 785 127 393 127 cs 128) (fun k => by simp [spec_MatBytes.j1]) ?_
  refine Ev.step (f := fun k => spec_MatBytes.l0 k p (p.length : Int) q 1 [0] [] m s 1 1 785 127 393 127 cs 128) (fun k => by simp only [spec_MatBytes.l0]; rw [if_pos (by omega), if_pos (by omega), if_pos (by simp), show rd [0] 0 = 0 from rfl, l5In_yes (by omega), show wrap64 (0 + 1) = 1 from by decide +kernel]; rfl) ?_
  refine Ev.step (f := fun k => spec_MatBytes.l1 k p (p.length : Int) q 1 [0] [] m s 1 0 785 127 393 127 cs 128) (fun k => by simp only [spec_MatBytes.l0]; rfl) ?_
  refine Ev.step (f := fun k => spec_MatBytes.l2 k p (p.length : Int) q 1 [0] [] m s 1 0 0 785 127 393 127 cs 128) (fun k => by simp only [spec_MatBytes.l1]; rfl) ?_
  refine Ev.step (f := fun k => (spec_DotBytes.f k 785 127 393 127 p q).bind fun t194 => (spec_l14Clip.f (wrap64 (t194 + rd [0] 0)) (-1073741824) 1073741824).bind fun t196 => (spec_Requant.f k t196 m s cs 128).bind fun t197 => spec_MatBytes.l2 k p (p.length : Int) q 1 [0] ([] ++ [t197]) m s 1 0 1 785 127 393 127 cs 128) (fun k => ?_) ?_
  · simp only [spec_MatBytes.l2, show wrap64 1 = 1 from by decide +kernel, Int.zero_mul, show wrap64 0 = 0 from by decide +kernel, Int.zero_add, w64 (x := (p.length : Int)) (by omega) (by omega), Int.toNat_natCast, show (0 : Int).toNat = 0 from rfl, List.drop_zero, List.take_length]
    rw [if_pos (by omega), if_pos (by omega), if_pos (by omega), if_pos (by omega), if_pos (by omega), if_pos (by omega), if_pos (by omega)]
    rw [show q.take p.length = q from by rw [hl]; exact List.take_length]
    simp
  refine Ev.bind (specDotBytes_is 785 393 p q (by omega) (by omega) (by omega) (by omega) hp hq hl (by omega)) ?_
  simp only [show rd [0] 0 = 0 from rfl, Int.add_zero, w64 (x := dsum (pq p q) p.length) (by omega) (by omega)]
  rw [show spec_l14Clip.f (dsum (pq p q) p.length) (-1073741824) 1073741824 = some (dsum (pq p q) p.length) by unfold spec_l14Clip.f; rw [if_neg (by omega), if_neg (by omega)]]
  simp only [Option.bind_some]
  refine Ev.bind hR ?_
  refine Ev.step (f := fun k => spec_MatBytes.l1 k p (p.length : Int) q 1 [0] [y] m s 1 1 785 127 393 127 cs 128) (fun k => by simp only [spec_MatBytes.l2]; rw [if_neg (by omega), show wrap64 (0 + 1) = 1 from by decide +kernel]; rfl) ?_
  exact Ev.step (f := fun _ => some [y]) (fun k => by simp only [spec_MatBytes.l1]; rfl) (Ev.now _)
end Go.Proofs.Ytemcipcijhkhjaa.Pure
