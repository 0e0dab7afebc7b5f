/- For every rule, state and gradients the law answers true: the given StepOpt and the model's are one function; what it returns is its own. -/
import Derived.Test.YtodfhokndnmdoaaPFnExactStepOptx13
import Derived.Test.YtodfhokndnmdoaaEFnExactStepOptd
namespace Go.Proofs.Ytodfhokndnmdoaa.Pure
open Go.RowKit Go.Proofs.Ytodfhokndnmdoaa.PFnExactStepOpt Go.Proofs.YtodfhokndnmdoaaW.PrintWords Go.Proofs.YtodfhokndnmdoaaW.PrintLast Go.Proofs.YtodfhokndnmdoaaW.PrintMore
set_option linter.unusedSimpArgs false

theorem Ev.shift {α : Type} {g : Nat → Option α} {r : α} (h : Ev (fun k => g (k + 1)) r) : Ev g r := Ev.step (fun _ => rfl) h
def L20 (n : Nat) : Prop := n ≤ 1048576
theorem toInt (l : List Int) (hl : L20 l.length) : Ev (fun k => laws_toIntS.f k l) l := by
  unfold L20 at hl
  unfold laws_toIntS.f
  refine Ev.congr (fun k => by rw [if_pos (by omega), if_pos (by omega), Int.toNat_natCast]) ?_
  refine down (P := fun i => Ev (fun k => laws_toIntS.l0 k l (l.take i ++ List.replicate (l.length - i) 0) (i : Int)) l) (n := l.length) ?_ ?_ 0 (Nat.zero_le _)
  · rw [fill_end]
    exact Ev.stop fun k => by simp only [laws_toIntS.l0]; rw [if_neg (by omega)]
  · intro i hi ih
    refine Ev.step (fun k => ?_) ih
    simp only [laws_toIntS.l0]
    rw [if_pos (by omega), if_pos (by omega), if_pos (by rw [fill_len 0 l i (by omega)]; omega), Int.toNat_natCast, fill_step 0 l i hi _ (rd_lt l i hi).symm, wn i (by omega)]
theorem eqInt (l : List Int) (hl : L20 l.length) : Ev (fun k => laws_eqIntS.f k l l) true := by
  unfold L20 at hl
  unfold laws_eqIntS.f
  refine Ev.congr (fun k => by rw [if_pos rfl]) ?_
  refine down (P := fun i => Ev (fun k => laws_eqIntS.l0 k l l (i : Int)) true) (n := l.length) ?_ ?_ 0 (Nat.zero_le _)
  · exact Ev.stop fun k => by simp only [laws_eqIntS.l0]; rw [if_neg (by omega)]
  · intro i hi ih
    refine Ev.step (fun k => ?_) ih
    simp only [laws_eqIntS.l0]
    rw [if_pos (by omega), if_pos (by omega), if_pos (by omega), if_pos trivial, wn i (by omega)]
/-- Numbers in order, from a on. -/
def upto (a : Int) : Nat → List Int
  | 0 => []
  | n + 1 => a :: upto (a + 1) n
theorem upto_len (a : Int) : ∀ n, (upto a n).length = n
  | 0 => rfl
  | n + 1 => by rw [upto, List.length_cons, upto_len (a + 1) n]
theorem mark_loop (k0 : Int) (h0 : 0 ≤ k0) (h1 : k0 ≤ 4611686018427387904) : ∀ (t e : List Int), (e ++ t).length ≤ 1048576 → Ev (fun k => laws_markIntS.l0 k (e ++ t) (k0 + e.length) (e.length : Int)) (k0 + e.length + t.length, e ++ upto (k0 + e.length) t.length)
  | [], e, hl => by
    refine Ev.stop fun k => ?_
    simp only [laws_markIntS.l0, List.append_nil, List.length_nil, upto]
    rw [if_neg (by omega)]
    simp
  | x :: t, e, hl => by
    rw [List.length_append, List.length_cons] at hl
    have ih := mark_loop k0 h0 h1 t (e ++ [k0 + e.length]) (by simp; omega)
    refine Ev.step (fun k => ?_) (f := fun k => laws_markIntS.l0 k ((e ++ [k0 + e.length]) ++ t) (k0 + (e ++ [k0 + e.length]).length) ((e ++ [k0 + e.length]).length : Int)) ?_
    · simp only [laws_markIntS.l0]
      rw [if_pos (by rw [List.length_append, List.length_cons]; omega), if_pos (by omega), w64 (x := k0 + e.length + 1) (by omega) (by omega), w64 (x := (e.length : Int) + 1) (by omega) (by omega)]
      rw [show (e ++ x :: t).set (e.length : Int).toNat (k0 + e.length) = (e ++ [k0 + e.length]) ++ t by rw [Int.toNat_natCast, List.set_append_right _ _ (Nat.le_refl _)]; simp]
      rw [List.length_append, List.length_singleton]
      congr 1 <;> omega
    · rw [show (k0 + e.length + ((x :: t).length : Int), e ++ upto (k0 + e.length) (x :: t).length) = (k0 + ((e ++ [k0 + e.length]).length : Int) + (t.length : Int), (e ++ [k0 + e.length]) ++ upto (k0 + ((e ++ [k0 + e.length]).length : Int)) t.length) from ?_]
      · exact ih
      · rw [List.length_append, List.length_singleton, List.length_cons, upto, List.append_assoc, List.singleton_append]
        refine Prod.ext (by simp; omega) ?_
        show e ++ _ = e ++ _
        rw [show k0 + (e.length : Int) + 1 = k0 + ((e.length + 1 : Nat) : Int) by omega]
theorem mark_ev (k0 : Int) (h0 : 0 ≤ k0) (h1 : k0 ≤ 4611686018427387904) (l : List Int) (hl : l.length ≤ 1048576) : Ev (fun k => laws_markIntS.f k l k0) (k0 + l.length, upto k0 l.length) := by
  have := mark_loop k0 h0 h1 l [] (by simpa using hl)
  simpa [laws_markIntS.f] using this
theorem held_loop (k0 : Int) (h0 : 0 ≤ k0) (h1 : k0 ≤ 4611686018427387904) (l : List Int) (n : Nat) (he : l = upto k0 n) (hl : n ≤ 1048576) : ∀ i, i ≤ l.length → Ev (fun k => laws_heldIntS.l0 k l (k0 + (i : Int)) (i : Int)) (k0 + (l.length : Int)) := by
  have hn : l.length = n := by rw [he, upto_len]
  have hg : ∀ (n : Nat) (a : Int) (i : Nat), (hi : i < (upto a n).length) → (upto a n)[i] = a + i := by
    intro n
    induction n with
    | zero => intro a i hi; simp [upto] at hi
    | succ n ih =>
      intro a i hi
      cases i with
      | zero => simp [upto]
      | succ i =>
        have : i < (upto (a + 1) n).length := by rw [upto_len] at hi ⊢; omega
        simp only [upto, List.getElem_cons_succ]
        rw [ih (a + 1) i this]; omega
  refine down (P := fun i => Ev (fun k => laws_heldIntS.l0 k l (k0 + (i : Int)) (i : Int)) (k0 + (l.length : Int))) ?_ ?_
  · refine Ev.stop fun k => ?_
    simp only [laws_heldIntS.l0]
    rw [if_neg (by omega)]
  · intro i hi ih
    refine Ev.step (fun k => ?_) ih
    simp only [laws_heldIntS.l0]
    have e : rd l (i : Int) = k0 + i := by
      rw [rd_lt l i hi]
      subst he
      exact hg n k0 i hi
    rw [if_pos (by omega), if_pos (by omega), if_pos e, wn i (by omega), w64 (x := k0 + (i : Int) + 1) (by omega) (by omega)]
    congr 1
    omega
theorem held_ev (k0 : Int) (h0 : 0 ≤ k0) (h1 : k0 ≤ 4611686018427387904) (n : Nat) (hl : n ≤ 1048576) : Ev (fun k => laws_heldIntS.f k (upto k0 n) k0) (k0 + n) := by
  have := held_loop k0 h0 h1 (upto k0 n) n rfl hl 0 (Nat.zero_le _)
  rw [upto_len] at this
  simpa [laws_heldIntS.f] using this
/-! ### states -/
theorem toOpt (p f s : List Int) (c fac g : Int) (hp : L20 p.length) (hf : L20 f.length) (hs : L20 s.length) : Ev (fun k => laws_toOpt.f k p f s c fac g) (p, f, s, c, fac, g) := by
  unfold laws_toOpt.f
  exact Ev.bind (toInt p hp) (Ev.bind (toInt f hf) (Ev.bind (toInt s hs) (Ev.now _)))
theorem eqOpt (p f s : List Int) (c fac g : Int) (hp : L20 p.length) (hf : L20 f.length) (hs : L20 s.length) : Ev (fun k => laws_eqOpt.f k p f s c fac g p f s c fac g) true := by
  unfold laws_eqOpt.f
  refine Ev.bind (eqInt p hp) (Ev.congr (fun k => by rw [if_pos rfl]) (Ev.bind (eqInt f hf) (Ev.congr (fun k => by rw [if_pos rfl]) (Ev.bind (eqInt s hs) (Ev.congr (fun k => by rw [if_pos rfl, if_pos rfl, if_pos rfl, if_pos rfl]) (Ev.now _))))))
theorem markOpt (p f s : List Int) (c fac g : Int) (hp : L20 p.length) (hf : L20 f.length) (hs : L20 s.length) : Ev (fun k => laws_markOpt.f k p f s c fac g 1)
    (1 + p.length + f.length + s.length, upto 1 p.length, upto (1 + p.length) f.length, upto (1 + p.length + f.length) s.length) := by
  unfold L20 at hp hf hs
  unfold laws_markOpt.f
  exact Ev.bind (mark_ev 1 (by omega) (by omega) p hp) (Ev.bind (mark_ev _ (by dsimp only; omega) (by dsimp only; omega) f hf) (Ev.bind (mark_ev _ (by dsimp only; omega) (by dsimp only; omega) s hs) (Ev.now _)))
theorem heldOpt (a b d : Nat) (c fac g : Int) (hp : L20 a) (hf : L20 b) (hs : L20 d) : Ev (fun k => laws_heldOpt.f k (upto 1 a) (upto (1 + a) b) (upto (1 + a + b) d) c fac g 1) (1 + a + b + d) := by
  unfold L20 at hp hf hs
  unfold laws_heldOpt.f
  refine Ev.bind (held_ev 1 (by omega) (by omega) a hp) (Ev.congr (fun k => by rw [if_neg (by omega)]) (Ev.bind (held_ev _ (by omega) (by omega) b hf) (Ev.congr (fun k => by rw [if_neg (by omega)]) (Ev.bind (held_ev _ (by omega) (by omega) d hs) (Ev.congr (fun k => by rw [if_neg (by omega)]) (Ev.now _))))))
theorem szInt (l : List Int) (a : Int) (hl : l.length ≤ 9223372036854775807) (h0 : 0 ≤ a) (h1 : a ≤ 1048576) : ∃ t, laws_szIntS.f l a = some t ∧ (0 ≤ t → t ≤ 1048576 ∧ L20 l.length) := by
  unfold laws_szIntS.f
  rw [w64 (by omega) (by omega)]
  by_cases c : a - (l.length : Int) < 0
  · exact ⟨-1, by rw [if_pos c], fun h => by omega⟩
  · exact ⟨a - l.length, by rw [if_neg c], fun h => ⟨by omega, by unfold L20; omega⟩⟩
theorem szOpt (p f s : List Int) (c fac g : Int) (hp : p.length ≤ 9223372036854775807) (hf : f.length ≤ 9223372036854775807) (hs : s.length ≤ 9223372036854775807) : ∃ t, laws_szOpt.f p f s c fac g 1048576 = some t ∧ (¬ t < 0 → L20 p.length ∧ L20 f.length ∧ L20 s.length) := by
  unfold laws_szOpt.f
  obtain ⟨t1, e1, b1⟩ := szInt p 1048576 hp (by omega) (by omega)
  rw [e1, Option.bind_some]
  by_cases c1 : t1 < 0
  · exact ⟨-1, by rw [if_pos c1], fun h => absurd (by decide) h⟩
  rw [if_neg c1]
  obtain ⟨t2, e2, b2⟩ := szInt f t1 hf (by omega) (b1 (by omega)).1
  rw [e2, Option.bind_some]
  by_cases c2 : t2 < 0
  · exact ⟨-1, by rw [if_pos c2], fun h => absurd (by decide) h⟩
  rw [if_neg c2]
  obtain ⟨t3, e3, b3⟩ := szInt s t2 hs (by omega) (b2 (by omega)).1
  rw [e3, Option.bind_some]
  by_cases c3 : t3 < 0
  · exact ⟨-1, by rw [if_pos c3], fun h => absurd (by decide) h⟩
  rw [if_neg c3]
  exact ⟨t3, rfl, fun h => ⟨(b1 (by omega)).2, (b2 (by omega)).2, (b3 (by omega)).2⟩⟩
theorem FnExactStepOpt : laws_FnExactStepOpt.Pure := by
  rintro ⟨kd, ⟨s1, s2, s3, s4⟩, keep, keep2, low, decay, most, grow⟩ ⟨P, F, S, cnt, fac, good⟩ q _ ⟨⟨h1, _⟩, ⟨h2, _⟩, ⟨h3, _⟩, _⟩ ⟨hq, _⟩
  unfold maxLen at h1 h2 h3 hq
  dsimp only at h1 h2 h3 ⊢
  unfold laws_FnExactStepOpt.f
  by_cases c0 : (q.length : Int) > 1048576
  · exact ⟨0, by rw [if_pos c0]⟩
  obtain ⟨t, ht, hb⟩ := szOpt P F S cnt fac good (by omega) (by omega) (by omega)
  refine Ev.rounds (g := fun k => _) (Ev.congr (fun k => by rw [if_neg c0, ht, Option.bind_some]) ?_)
  by_cases c : t < 0
  · exact Ev.congr (fun k => by rw [if_pos c]) (Ev.now true)
  refine Ev.congr (fun k => by rw [if_neg c]) ?_
  obtain ⟨b1, b2, b3⟩ := hb c
  have hq2 : L20 q.length := by unfold L20; omega
  have T := toOpt P F S cnt fac good b1 b2 b3
  have Q := toInt q hq2
  have R : Ev (fun _ : Nat => laws_toRule.f kd s1 s2 s3 s4 keep keep2 low decay most grow) (kd, s1, s2, s3, s4, keep, keep2, low, decay, most, grow) := Ev.now _
  obtain ⟨⟨v1, v2, v3, v4, v5, v6, v7⟩, eS, eI, l1, l2, l3⟩ := step_both kd s1 s2 s3 s4 keep keep2 low decay most grow P F S cnt fac good q hq2
  dsimp only at l1 l2 l3
  have m1 : L20 v1.length := by unfold L20; omega
  have m2 : L20 v2.length := by unfold L20; omega
  have m3 : L20 v3.length := by unfold L20; omega
  have eV := eqOpt v1 v2 v3 v4 v5 v6 m1 m2 m3
  have eT := eqOpt P F S cnt fac good b1 b2 b3
  have hM := markOpt P F S cnt fac good b1 b2 b3
  have hV := markOpt v1 v2 v3 v4 v5 v6 m1 m2 m3
  have hH := heldOpt v1.length v2.length v3.length v4 v5 v6 m1 m2 m3
  unfold L20 at b1 b2 b3 hq2
  refine Ev.bind R (Ev.bind T (Ev.bind Q (Ev.bind eS (Ev.bind T (Ev.bind Q (Ev.bind R (Ev.bind eI (Ev.bind eV ?_))))))))
  refine Ev.congr (fun k => by rw [if_pos rfl]) ?_
  dsimp only
  rw [show (v7 != v7) = false from bne_self_eq_false v7]
  refine Ev.shift ?_
  simp only [laws_FnExactStepOpt.j0, Bool.false_eq_true, if_false]
  refine Ev.bind T (Ev.bind eT ?_)
  refine Ev.congr (fun k => by rw [if_pos rfl]) (Ev.bind Q (Ev.bind (eqInt q hq2) ?_))
  refine Ev.congr (fun k => by rw [if_pos rfl]) (Ev.bind hM ?_)
  refine Ev.bind (mark_ev _ (by dsimp only; omega) (by dsimp only; omega) q hq2) ?_
  refine Ev.congr (fun k => by rw [if_neg (by dsimp only; omega)]) (Ev.bind eV ?_)
  refine Ev.congr (fun k => by rw [if_pos rfl, show (v7 != v7) = false from bne_self_eq_false v7]) ?_
  refine Ev.shift ?_
  simp only [laws_FnExactStepOpt.j1, Bool.false_eq_true, if_false]
  refine Ev.bind hV (Ev.bind hH ?_)
  refine Ev.congr (fun k => by rw [if_neg (by omega), if_pos rfl]) (Ev.bind R (Ev.bind T (Ev.bind Q (Ev.bind eI (Ev.bind eV ?_)))))
  refine Ev.congr (fun k => by rw [if_pos rfl]) ?_
  dsimp only
  rw [show (v7 != v7) = false from bne_self_eq_false v7]
  refine Ev.shift ?_
  simp only [laws_FnExactStepOpt.j2, Bool.false_eq_true, if_false]
  exact Ev.bind hH (Ev.congr (fun k => by rw [if_neg (by omega), if_pos rfl]) (Ev.now true))
end Go.Proofs.Ytodfhokndnmdoaa.Pure
