/- For every input the law FnMatBound returns true: the product of a row and a column of drawn reals by bytes is within the told bound of the exact product, where no byte was brought into bounds; no condition. -/
import Derived.Test.YtemcipcijhkhjaaEFnMatBoundc
namespace Go.Proofs.Ytemcipcijhkhjaa.Pure
open Go.RowKit Go.Proofs.Ytemcipcijhkhjaa.PFnMatBound Go.Proofs.YtemcipcijhkhjaaW.PrintWords Go.Proofs.YtemcipcijhkhjaaW.PrintLast Go.Proofs.YtemcipcijhkhjaaW.PrintMore

theorem xw_step (xs ws : List Int) (hx : ∀ x ∈ xs, -89600 ≤ x ∧ x ≤ 89600) (hw : ∀ x ∈ ws, -38400 ≤ x ∧ x ≤ 38400) (hl : xs.length = ws.length) (hn : xs.length ≤ 8) (i : Nat) (hi : i < xs.length) :
    wrap64 (dsum (xw xs ws) i + wrap64 (rd xs i * rd ws i)) = dsum (xw xs ws) (i + 1) := by
  have c : ∀ j, j < xs.length → -4000000000 ≤ xw xs ws j ∧ xw xs ws j ≤ 4000000000 := fun j hj => by
    have a := rd_all hx j hj; have b := rd_all hw j (hl ▸ hj)
    have := mul_bound (A := 89600) (B := 38400) a.1 a.2 b.1 b.2
    unfold xw; omega
  have d := dsum_bound (xw xs ws) 4000000000 i (fun j hj => c j (by omega))
  have e : (i : Int) * 4000000000 ≤ 8 * 4000000000 := Int.mul_le_mul_of_nonneg_right (by omega) (by omega)
  have ci := c i hi
  show wrap64 (dsum (xw xs ws) i + wrap64 (xw xs ws i)) = _
  rw [w64 (x := xw xs ws i) (by omega) (by omega), w64 (by omega) (by omega)]; rfl
theorem sums_near (xs ws p q : List Int) (hx : ∀ x ∈ xs, -89600 ≤ x ∧ x ≤ 89600) (hp : Offs 785 xs p) (hq : Offs 393 ws q) (hl : xs.length = ws.length) : ∀ n, n ≤ xs.length →
    -((n : Int) * 40000000) ≤ dsum (xw xs ws) n - 308505 * dsum (pq p q) n ∧ dsum (xw xs ws) n - 308505 * dsum (pq p q) n ≤ (n : Int) * 40000000 := by
  intro n
  induction n with
  | zero => intro _; simp [dsum]
  | succ n ih =>
    intro hn
    have a := ih (by omega)
    have b := near_product (rd_all hx n (by omega)) (Offs_at hp n (by omega)) (Offs_at hq n (by omega))
    have e : ((n + 1 : Nat) : Int) * 40000000 = (n : Int) * 40000000 + 40000000 := by omega
    rw [e]; simp only [dsum, xw, pq]; omega
theorem Offs_bytes {s : Int} : ∀ {xs qs : List Int}, Offs s xs qs → ∀ q ∈ qs, 0 ≤ q ∧ q ≤ 255
  | [], [], _, _, h => by cases h
  | _ :: _, _ :: _, ⟨⟨h1, h2, _, _⟩, h⟩, q, hq => by
    rcases List.mem_cons.1 hq with rfl | hq
    · omega
    · exact Offs_bytes h q hq
theorem same_one (y : Int) : Ev (fun k => laws_sameInts.f k [y] [y]) true := by
  refine ⟨2, fun k hk => ?_⟩
  obtain ⟨k, rfl⟩ : ∃ m, k = m + 2 := ⟨k - 2, by omega⟩
  simp only [laws_sameInts.f, if_true, laws_sameInts.l0.eq_2, show wrap64 (0 + 1) = 1 from by decide +kernel]
  simp
theorem last_part (xs ws p q : List Int) (t : Nat) (ht : t < 256) (hx : ∀ x ∈ xs, -89600 ≤ x ∧ x ≤ 89600) (hw : ∀ x ∈ ws, -38400 ≤ x ∧ x ≤ 38400) (hl : xs.length = ws.length) (h1 : 1 ≤ xs.length) (hn : xs.length ≤ 8) (hp : Offs 785 xs p) (hq : Offs 393 ws q) :
    Ev (fun k => laws_FnMatBound.j3 k (xs.length : Int) xs ws p q false 785 127 393 127 (3000 + (t : Int) * 20) 128) true := by
  obtain ⟨m, s, a1, a2, a3, a4, a5, a6, hFi, hFs⟩ := Factor_is t ht
  have lp := Offs_len hp
  have lq := Offs_len hq
  have bp := Offs_bytes hp
  have bq := Offs_bytes hq
  have hd := dsum_bound (pq p q) 16384 p.length (pq_bound p q bp bq (by omega))
  have e : (p.length : Int) * 16384 ≤ 8 * 16384 := Int.mul_le_mul_of_nonneg_right (by omega) (by omega)
  obtain ⟨N, n1, n2, hRi, hRs⟩ := Requant_is (dsum (pq p q) p.length) m s (3000 + (t : Int) * 20) (by omega) (by omega) a1 a2 (by omega) a4 (by omega) (by omega)
  have hMi := MatBytes_is p q m s _ _ bp bq (by omega) (by omega) (by omega) hFi hRi
  have hMs := specMatBytes_is p q m s _ _ bp bq (by omega) (by omega) (by omega) hFs hRs
  have hs := sums_near xs ws p q hx hp hq hl xs.length (Nat.le_refl _)
  have hP : (1048576 : Int) ≤ 2 ^ s.toNat := by
    have := Nat.pow_le_pow_right (n := 2) (by omega) (show 20 ≤ s.toNat by omega)
    have c : ((2 ^ s.toNat : Nat) : Int) = (2 : Int) ^ s.toNat := by rw [Int.natCast_pow]; rfl
    rw [show (2 : Nat) ^ 20 = 1048576 from rfl] at this
    rw [← c]; omega
  rw [← lp] at hMi hMs
  rw [← lp] at n1 n2
  generalize hy : mx 0 (mn (128 + N) 255) = y at *
  have hy0 : 0 ≤ y ∧ y ≤ 255 ∧ (y ≠ 0 → y ≠ 255 → y = 128 + N) := by
    subst hy
    unfold mx mn
    refine ⟨?_, ?_, ?_⟩ <;> (split <;> split <;> omega)
  refine Ev.step (f := fun k => (impl_MatBytes.f k p (xs.length : Int) 785 127 q 1 393 127 [0] (3000 + (t : Int) * 20) 128).bind fun t323 => if (t323.length : Int) = 1 then ((spec_MatBytes.f k p (xs.length : Int) 785 127 q 1 393 127 [0] (3000 + (t : Int) * 20) 128).bind fun t329 => (laws_sameInts.f k t323 t329).bind fun t332 => laws_FnMatBound.j4 k (xs.length : Int) xs ws t323 (!t332) 785 127 393 127 (3000 + (t : Int) * 20) 128) else laws_FnMatBound.j4 k (xs.length : Int) xs ws t323 true 785 127 393 127 (3000 + (t : Int) * 20) 128) (fun k => by simp [laws_FnMatBound.j3]) ?_
  refine Ev.bind hMi ?_
  simp only [show (([y].length : Nat) : Int) = 1 from rfl, if_true]
  refine Ev.bind hMs (Ev.bind (same_one y) ?_)
  refine Ev.step (f := fun k => laws_FnMatBound.l1 k (xs.length : Int) xs ws [y] 0 0 785 127 393 127 (3000 + (t : Int) * 20) 128) (fun k => by simp [laws_FnMatBound.j4]) ?_
  have hend : Ev (fun k => laws_FnMatBound.l1 k (xs.length : Int) xs ws [y] (dsum (xw xs ws) xs.length) (xs.length : Int) 785 127 393 127 (3000 + (t : Int) * 20) 128) true := by
    have r0 : rd [y] 0 = y := rfl
    by_cases y0 : y = 0
    · refine Ev.step (f := fun k => laws_FnMatBound.j6 k (xs.length : Int) [y] (dsum (xw xs ws) xs.length) true 785 127 393 127 (3000 + (t : Int) * 20) 128) (fun k => by simp only [laws_FnMatBound.l1]; rw [if_neg (by omega), if_pos (by simp), r0, if_pos y0]) ?_
      exact Ev.step (f := fun _ => some true) (fun k => by simp [laws_FnMatBound.j6]) (Ev.now _)
    by_cases y1 : y = 255
    · refine Ev.step (f := fun k => laws_FnMatBound.j6 k (xs.length : Int) [y] (dsum (xw xs ws) xs.length) true 785 127 393 127 (3000 + (t : Int) * 20) 128) (fun k => by simp only [laws_FnMatBound.l1]; rw [if_neg (by omega), if_pos (by simp), r0, if_neg y0, y1]; rfl) ?_
      exact Ev.step (f := fun _ => some true) (fun k => by simp [laws_FnMatBound.j6]) (Ev.now _)
    have hyN := hy0.2.2 y0 y1
    have hk := reckoned (xs.length : Int) (3000 + (t : Int) * 20) (dsum (pq p q) xs.length) m N (2 ^ s.toNat) (dsum (xw xs ws) xs.length) (by omega) (by omega) (by omega) hP (by rw [lp]; omega) (by rw [lp]; omega) n1 n2 a5 a6 hs.1 hs.2
    have hV := Value_is (3000 + (t : Int) * 20) y (by omega) (by omega) hy0.1 hy0.2.1
    have hvb := mul_bound (a := 3000 + (t : Int) * 20) (b := y - 128) (A := 10000) (B := 128) (by omega) (by omega) (by omega) (by omega)
    have eN : y - 128 = N := by omega
    have hsb : -40000000000 ≤ dsum (xw xs ws) xs.length ∧ dsum (xw xs ws) xs.length ≤ 40000000000 := by
      have := dsum_bound (xw xs ws) 4000000000 xs.length (fun j hj => by
        have a := rd_all hx j hj; have b := rd_all hw j (hl ▸ hj)
        have := mul_bound (A := 89600) (B := 38400) a.1 a.2 b.1 b.2
        unfold xw; omega)
      have e : (xs.length : Int) * 4000000000 ≤ 8 * 4000000000 := Int.mul_le_mul_of_nonneg_right (by omega) (by omega)
      omega
    refine Ev.step (f := fun k => laws_FnMatBound.j6 k (xs.length : Int) [y] (dsum (xw xs ws) xs.length) false 785 127 393 127 (3000 + (t : Int) * 20) 128) (fun k => by simp only [laws_FnMatBound.l1]; rw [if_neg (by omega), if_pos (by simp), r0, if_neg y0, show (y == 255) = false by simpa using y1]) ?_
    refine Ev.step (f := fun k => (impl_Bound.f k (xs.length : Int) 785 127 393 127 (3000 + (t : Int) * 20) 128 89600 38400).bind fun t340 => some (decide ((if (3000 + (t : Int) * 20) * (y - 128) * 65536 - dsum (xw xs ws) xs.length < 0 then -((3000 + (t : Int) * 20) * (y - 128) * 65536 - dsum (xw xs ws) xs.length) else (3000 + (t : Int) * 20) * (y - 128) * 65536 - dsum (xw xs ws) xs.length) ≤ wrap64 (t340 * 65536)))) (fun k => ?_) ?_
    · simp only [laws_FnMatBound.j6]
      rw [if_neg (by decide), if_pos (by simp), r0, hV]
      simp only [Option.bind_some]
      rw [w64 (x := (3000 + (t : Int) * 20) * (y - 128) * 65536) (by omega) (by omega), w64 (x := (3000 + (t : Int) * 20) * (y - 128) * 65536 - _) (by omega) (by omega)]
      unfold laws_abs.f
      by_cases c : (3000 + (t : Int) * 20) * (y - 128) * 65536 - dsum (xw xs ws) xs.length < 0
      · rw [if_pos c, if_pos c, w64 (by omega) (by omega)]; rfl
      · rw [if_neg c, if_neg c]; rfl
    · refine Ev.bind (Bound_is (xs.length : Int) (3000 + (t : Int) * 20) (by omega) (by omega) (by omega) (by omega)) ?_
      rw [w64 (by omega) (by omega)]
      rw [eN] at hvb ⊢
      rw [decide_eq_true (by split <;> omega)]
      exact Ev.now _
  refine down (P := fun i => Ev (fun k => laws_FnMatBound.l1 k (xs.length : Int) xs ws [y] (dsum (xw xs ws) i) (i : Int) 785 127 393 127 (3000 + (t : Int) * 20) 128) true) hend ?_ 0 (Nat.zero_le _)
  intro i hi ih
  refine Ev.step (fun k => ?_) ih
  simp only [laws_FnMatBound.l1]
  rw [if_pos (by omega), if_pos (by omega), if_pos (by omega), if_pos (by omega), wnext i xs.length hi (by omega), xw_step xs ws hx hw hl hn i hi]
theorem tail_is (l0 l1 : List Int) (hw1 : ∀ x ∈ l1, 0 ≤ x ∧ x ≤ 255) (xs ws : List Int) (hx : ∀ x ∈ xs, -89600 ≤ x ∧ x ≤ 89600) (hw : ∀ x ∈ ws, -38400 ≤ x ∧ x ≤ 38400) (hl : xs.length = ws.length) (h1 : 1 ≤ xs.length) (hn : xs.length ≤ 8) :
    Ev (fun k => laws_FnMatBound.l0 k l0 l1 (xs.length : Int) xs ws (xs.length : Int)) true := by
  obtain ⟨v, hv, v0, v1⟩ := at_is l1 hw1 0 (by omega)
  obtain ⟨t, rfl⟩ := Int.eq_ofNat_of_zero_le v0
  obtain ⟨p, hp, hqp⟩ := quantised_is 785 xs (by omega) (by omega) hn (fun x hm => by have := hx x hm; omega)
  obtain ⟨q, hq, hqq⟩ := quantised_is 393 ws (by omega) (by omega) (by omega) (fun x hm => by have := hw x hm; omega)
  refine Ev.step (f := fun k => (impl_Calibrate.f k ([-100000, 100000] ++ xs)).bind fun bt296 => (impl_Calibrate.f k ([-50000, 50000] ++ ws)).bind fun bt306 => if bt296.2.2 = true then laws_FnMatBound.j2 k (xs.length : Int) xs ws (!bt306.2.2) bt296.1 bt296.2.1 bt306.1 bt306.2.1 (3000 + (t : Int) * 20) 128 else laws_FnMatBound.j2 k (xs.length : Int) xs ws true bt296.1 bt296.2.1 bt306.1 bt306.2.1 (3000 + (t : Int) * 20) 128) (fun k => ?_) ?_
  · simp only [laws_FnMatBound.l0]
    rw [if_neg (by omega)]
    simp only [Option.bind_some, if_pos (show ([-100000, 100000] : List Int).length + xs.length < 17592186044416 by simp only [List.length_cons, List.length_nil]; omega), if_pos (show ([-50000, 50000] : List Int).length + ws.length < 17592186044416 by simp only [List.length_cons, List.length_nil]; omega), show laws_at.f l1 0 = some (t : Int) from hv]
    rw [w64 (x := (t : Int) * 20) (by omega) (by omega), w64 (x := 3000 + (t : Int) * 20) (by omega) (by omega)]
  refine Ev.bind (Cal_a xs (fun x hm => by have := hx x hm; omega) hn) (Ev.bind (Cal_b ws (fun x hm => by have := hw x hm; omega) (by omega)) ?_)
  simp only [if_true, Bool.not_true]
  refine Ev.step (f := fun k => (laws_quantised.f k 785 127 xs).bind fun bt312 => (laws_quantised.f k 393 127 ws).bind fun bt316 => if bt312.2 = true then laws_FnMatBound.j3 k (xs.length : Int) xs ws bt312.1 bt316.1 (!bt316.2) 785 127 393 127 (3000 + (t : Int) * 20) 128 else laws_FnMatBound.j3 k (xs.length : Int) xs ws bt312.1 bt316.1 true 785 127 393 127 (3000 + (t : Int) * 20) 128) (fun k => by simp [laws_FnMatBound.j2]) ?_
  refine Ev.bind hqp (Ev.bind hqq ?_)
  simp only [if_true, Bool.not_true]
  exact last_part xs ws p q t (by omega) hx hw hl h1 hn hp hq
theorem FnMatBound : laws_FnMatBound.Pure := by
  intro l0 l1 _ _ hw0 _ _ hw1
  replace hw0 : ∀ x ∈ l0, 0 ≤ x ∧ x ≤ 255 := fun x hm => wf_byte (hw0 x hm)
  replace hw1 : ∀ x ∈ l1, 0 ≤ x ∧ x ≤ 255 := fun x hm => wf_byte (hw1 x hm)
  suffices h : Ev (fun k => laws_FnMatBound.f k l0 l1) true by
    obtain ⟨K, h⟩ := h
    exact ⟨K, h K (Nat.le_refl _)⟩
  have yes : Ev (fun k => laws_FnMatBound.j0 k l0 l1 true) true := Ev.step (f := fun _ => some true) (fun k => by simp [laws_FnMatBound.j0]) (Ev.now _)
  unfold laws_FnMatBound.f laws_big.f
  simp only [Option.bind_some]
  by_cases b0 : (l0.length : Int) > 1048576
  · simp only [decide_eq_true b0, if_true]; exact yes
  simp only [decide_eq_false b0, Bool.false_eq_true, if_false]
  by_cases b1 : (l1.length : Int) > 1048576
  · simp only [decide_eq_true b1]; exact yes
  simp only [decide_eq_false b1]
  obtain ⟨v, hv, v0, v1⟩ := at_is l0 hw0 0 (by omega)
  obtain ⟨n, hn1, hn8, hn⟩ : ∃ n : Nat, 1 ≤ n ∧ n ≤ 8 ∧ wrap64 (1 + Int.tmod v 8) = (n : Int) := by
    rw [Int.tmod_eq_emod_of_nonneg v0, w64 (by omega) (by omega)]
    exact ⟨(1 + v % 8).toNat, by omega, by omega, by omega⟩
  refine Ev.step (f := fun k => laws_FnMatBound.l0 k l0 l1 (n : Int) [] [] 0) (fun k => by simp only [laws_FnMatBound.j0]; rw [if_neg (by decide), show laws_at.f l0 0 = some v from hv]; simp only [Option.bind_some]; rw [hn]) ?_
  have key : ∀ d i : Nat, i + d = n → ∀ xs ws : List Int, xs.length = i → ws.length = i → (∀ x ∈ xs, -89600 ≤ x ∧ x ≤ 89600) → (∀ x ∈ ws, -38400 ≤ x ∧ x ≤ 38400) → Ev (fun k => laws_FnMatBound.l0 k l0 l1 (n : Int) xs ws (i : Int)) true := by
    intro d
    induction d with
    | zero =>
      intro i hi xs ws h1 h2 hx hw
      obtain rfl : i = n := by omega
      have := tail_is l0 l1 hw1 xs ws hx hw (by omega) (by omega) (by omega)
      rwa [h1] at this
    | succ d ih =>
      intro i hi xs ws h1 h2 hx hw
      obtain ⟨a, ha, a0, a1⟩ := at_is l0 hw0 (i + 1) (by omega)
      obtain ⟨b, hb, c0, c1⟩ := at_is l1 hw1 (i + 1) (by omega)
      have := ih (i + 1) (by omega) (xs ++ [(a - 128) * 700]) (ws ++ [(b - 128) * 300]) (by simp [h1]) (by simp [h2])
        (fun x hm => by rcases List.mem_append.1 hm with hm | hm; exact hx x hm; rw [List.mem_singleton.1 hm]; omega)
        (fun x hm => by rcases List.mem_append.1 hm with hm | hm; exact hw x hm; rw [List.mem_singleton.1 hm]; omega)
      refine Ev.step (fun k => ?_) this
      simp only [laws_FnMatBound.l0]
      rw [if_pos (by omega), wnext i n (by omega) (by omega), ha]
      simp only [Option.bind_some]
      rw [if_pos (by omega), hb]
      simp only [Option.bind_some]
      rw [if_pos (by omega), w64 (x := a - 128) (by omega) (by omega), w64 (x := b - 128) (by omega) (by omega), w64 (x := (a - 128) * 700) (by omega) (by omega), w64 (x := (b - 128) * 300) (by omega) (by omega)]
  exact key n 0 (by omega) [] [] rfl rfl (by simp) (by simp)
end Go.Proofs.Ytemcipcijhkhjaa.Pure
