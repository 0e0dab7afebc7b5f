/- StepOpt: told by the model and by the given program it is one function. -/
import Derived.Test.YtodfhokndnmdoaaEFnFactorc
import Derived.Test.YtodfhokndnmdoaaPFnFactorx4
import Derived.Test.YtodfhokndnmdoaaPFnFactorx11
namespace Go.Proofs.Ytodfhokndnmdoaa.Pure
open Go.RowKit Go.Proofs.Ytodfhokndnmdoaa.PFnFactor Go.Proofs.YtodfhokndnmdoaaW.PrintWords Go.Proofs.YtodfhokndnmdoaaW.PrintLast Go.Proofs.YtodfhokndnmdoaaW.PrintMore
set_option linter.unusedSimpArgs false
set_option linter.unusedVariables false

abbrev Res := List Int × List Int × List Int × Int × Int × Int × Bool
/-- Both compute the same, of lists as long as told. -/
def Both (g f : Nat → Option Res) : Prop := ∃ v : Res, Ev g v ∧ Ev f v ∧ v.1.length ≤ 4096 ∧ v.2.1.length ≤ 4096 ∧ v.2.2.1.length ≤ 4096
theorem Both.congr {g g' f f' : Nat → Option Res} (h : Both g' f') (hg : ∀ k, g k = g' k) (hf : ∀ k, f k = f' k) : Both g f := by
  obtain ⟨v, a, b, c⟩ := h
  exact ⟨v, Ev.congr hg a, Ev.congr hf b, c⟩
theorem Both.step {g g' f f' : Nat → Option Res} (h : Both g' f') (hg : ∀ k, g (k + 1) = g' k) (hf : ∀ k, f (k + 1) = f' k) : Both g f := by
  obtain ⟨v, a, b, c⟩ := h
  exact ⟨v, Ev.step hg a, Ev.step hf b, c⟩
theorem Both.stepL {g g' f : Nat → Option Res} (h : Both g' f) (hg : ∀ k, g (k + 1) = g' k) : Both g f := by
  obtain ⟨v, a, b, c⟩ := h
  exact ⟨v, Ev.step hg a, b, c⟩
theorem Both.stepR {g f f' : Nat → Option Res} (h : Both g f') (hf : ∀ k, f (k + 1) = f' k) : Both g f := by
  obtain ⟨v, a, b, c⟩ := h
  exact ⟨v, a, Ev.step hf b, c⟩
theorem Both.congrL {g g' f : Nat → Option Res} (h : Both g' f) (hg : ∀ k, g k = g' k) : Both g f := h.congr hg (fun _ => rfl)
theorem Both.congrR {g f f' : Nat → Option Res} (h : Both g f') (hf : ∀ k, f k = f' k) : Both g f := h.congr (fun _ => rfl) hf
theorem Both.bindL {α : Type} {x : Nat → Option α} {y : Nat → α → Option Res} {f : Nat → Option Res} {a : α} (hx : Ev x a) (h : Both (fun k => y k a) f) : Both (fun k => (x k).bind (y k)) f := by
  obtain ⟨v, p, q, c⟩ := h
  exact ⟨v, Ev.bind hx p, q, c⟩
theorem Both.bindR {α : Type} {x : Nat → Option α} {y : Nat → α → Option Res} {g : Nat → Option Res} {a : α} (hx : Ev x a) (h : Both g (fun k => y k a)) : Both g (fun k => (x k).bind (y k)) := by
  obtain ⟨v, p, q, c⟩ := h
  exact ⟨v, p, Ev.bind hx q, c⟩
theorem Both.now (v : Res) (h : v.1.length ≤ 4096 ∧ v.2.1.length ≤ 4096 ∧ v.2.2.1.length ≤ 4096) : Both (fun _ => some v) (fun _ => some v) := ⟨v, Ev.now _, Ev.now _, h⟩

def clampV (a lo hi : Int) : Int := if a < lo then lo else if a > hi then hi else a
theorem clampS (a lo hi : Int) : spec_l14Clip.f a lo hi = some (clampV a lo hi) := by
  unfold spec_l14Clip.f clampV
  split <;> (try split) <;> rfl
theorem clampI (a lo hi : Int) (h : lo ≤ hi) : impl_bring_int.f a lo hi = some (clampV a lo hi) := by
  unfold impl_bring_int.f clampV mx mn
  congr 1
  (repeat' split) <;> omega
theorem bringS (a : Int) : spec_l15Bring.f a = some (clampV a (-68719476736) 68719476736) := by
  unfold spec_l15Bring.f
  rw [clampS]; rfl
theorem set_same (l : List Int) (i : Nat) (h : i < l.length) : l.set i (rd l (i : Int)) = l := by
  rw [rd_lt l i h]; exact List.set_getElem_self h
theorem drop_set {l m : List Int} {i : Nat} {x : Int} (h : l.drop i = m.drop i) : (l.set i x).drop (i + 1) = m.drop (i + 1) := by
  rw [List.drop_set_of_lt (by omega), ← List.drop_drop, h, List.drop_drop]
theorem rd_of {l m : List Int} {i : Nat} (h : l.drop i = m.drop i) (hl : i < l.length) (hm : i < m.length) : rd l (i : Int) = rd m (i : Int) := by
  rw [dropi l i hl, dropi m i hm] at h
  injection h
section
variable (G P F S : List Int) (n : Nat) (rate kd s1 s2 s3 s4 keep keep2 low decay most grow cnt fac good cnt' : Int)
theorem loop_end (hG : G.length = n) (hP : P.length = n) (hn : n ≤ 4096) (hf : fac ∈ pows) (g0 : 0 ≤ good) (g1 : good ≤ 1000000) (L Q U : List Int) (hL : L.length = n) (hQ : Q.length = n) (hU : U.length = n) :
    Both (fun k => spec_StepOpt.l1 k G rate (n : Int) kd s1 s2 s3 s4 keep keep2 low decay most grow P F S cnt fac good L Q U cnt' fac good)
      (fun k => impl_StepOpt.l0 k G rate P (n : Int) (n : Int) kd s1 s2 s3 s4 keep keep2 low decay most grow P F S cnt fac good L Q U cnt' fac good) := by
  have hgd : mn (wrap64 (good + 1)) 1000000 = if good < 1000000 then good + 1 else good := by
    rw [w64 (by omega) (by omega)]; unfold mn; (repeat' split) <;> omega
  have hfc : mn (wrap64 (2 * fac)) 65536 = if fac < 65536 then wrap64 (fac * 2) else fac := by
    have : 1 ≤ fac ∧ fac ≤ 65536 ∧ (fac < 65536 → fac ≤ 32768) := by
      have : ∀ x ∈ pows, 1 ≤ x ∧ x ≤ 65536 ∧ (x < 65536 → x ≤ 32768) := by decide
      exact this _ hf
    rw [w64 (by omega) (by omega), w64 (by omega) (by omega)]; unfold mn; (repeat' split) <;> omega
  refine Both.stepL (g' := fun k => spec_StepOpt.j6 k kd s1 s2 s3 s4 keep keep2 low decay most grow L Q U cnt' fac (if good < 1000000 then good + 1 else good)) ?_ (fun k => ?_)
  rotate_left
  · simp only [spec_StepOpt.l1]
    rw [if_neg (by omega)]
    by_cases c : good < 1000000
    · rw [if_pos c, if_pos c, w64 (by omega) (by omega)]
    · rw [if_neg c, if_neg c]
  refine Both.stepR (f' := fun k => (if grow > 0 then (if (if good < 1000000 then good + 1 else good) ≥ grow then (some (L, Q, U, cnt', (if fac < 65536 then wrap64 (fac * 2) else fac), 0, true)) else (some (L, Q, U, cnt', fac, (if good < 1000000 then good + 1 else good), true))) else (some (L, Q, U, cnt', fac, (if good < 1000000 then good + 1 else good), true)))) ?_ (fun k => ?_)
  rotate_left
  · simp only [impl_StepOpt.l0]
    rw [if_neg (by omega), hgd, hfc]
  generalize (if good < 1000000 then good + 1 else good) = gd
  have hlen : L.length ≤ 4096 ∧ Q.length ≤ 4096 ∧ U.length ≤ 4096 := by omega
  by_cases c : grow > 0
  · refine Both.stepL (g' := fun k => spec_StepOpt.j7 k (decide (gd ≥ grow)) L Q U cnt' fac gd) ?_ (fun k => by simp only [spec_StepOpt.j6]; rw [if_pos c])
    refine Both.congrR ?_ (fun k => by rw [if_pos c])
    by_cases c2 : gd ≥ grow
    · refine Both.stepL (g' := fun _ => some (L, Q, U, cnt', (if fac < 65536 then wrap64 (fac * 2) else fac), 0, true)) ?_ (fun k => by simp only [spec_StepOpt.j7]; rw [if_pos (decide_eq_true c2)]; split <;> rfl)
      exact Both.congrR (Both.now _ hlen) (fun k => by rw [if_pos c2])
    · refine Both.stepL (g' := fun _ => some (L, Q, U, cnt', fac, gd, true)) ?_ (fun k => by simp only [spec_StepOpt.j7]; rw [if_neg (by simpa using c2)])
      exact Both.congrR (Both.now _ hlen) (fun k => by rw [if_neg c2])
  · refine Both.stepL (g' := fun k => spec_StepOpt.j7 k false L Q U cnt' fac gd) ?_ (fun k => by simp only [spec_StepOpt.j6]; rw [if_neg c])
    refine Both.congrR ?_ (fun k => by rw [if_neg c])
    exact Both.stepL (g' := fun _ => some (L, Q, U, cnt', fac, gd, true)) (Both.now _ hlen) (fun k => by simp only [spec_StepOpt.j7]; rw [if_neg (by decide)])
theorem mover_both (i : Nat) (p : Int) (hG : G.length = n) (hP : P.length = n) (hF : F.length = n) (hS : S.length = n) (hn : n ≤ 4096) (hi : i < n) (hk : 1 ≤ kd ∧ kd ≤ 3) (L Q U : List Int) (hL : L.length = n) (hQ : Q.length = n) (hU : U.length = n) (hUS : U.drop i = S.drop i)
    (ih : ∀ L Q U : List Int, L.length = n → Q.length = n → U.length = n → U.drop (i + 1) = S.drop (i + 1) →
      Both (fun k => spec_StepOpt.l1 k G rate ((i + 1 : Nat) : Int) kd s1 s2 s3 s4 keep keep2 low decay most grow P F S cnt fac good L Q U cnt' fac good)
        (fun k => impl_StepOpt.l0 k G rate P (n : Int) ((i + 1 : Nat) : Int) kd s1 s2 s3 s4 keep keep2 low decay most grow P F S cnt fac good L Q U cnt' fac good)) :
    Both (fun k => spec_StepOpt.j4 k G rate (i : Int) p kd s1 s2 s3 s4 keep keep2 low decay most grow P F S cnt fac good L Q U cnt' fac good)
      (fun k => (impl_moverOf.f k kd s1 s2 s3 s4 keep keep2 low decay most grow rate (rd G (i : Int)) p (rd F (i : Int)) (rd S (i : Int))).bind fun r => impl_StepOpt.l0 k G rate P (n : Int) ((i + 1 : Nat) : Int) kd s1 s2 s3 s4 keep keep2 low decay most grow P F S cnt fac good (L.set i (clampV r.1 (-68719476736) 68719476736)) (Q.set i r.2.1) (U.set i r.2.2) cnt' fac good) := by
  have h5 : ∀ (p' f' : Int) (U' : List Int), U'.length = n → U'.drop (i + 1) = S.drop (i + 1) →
      Both (fun k => spec_StepOpt.j5 k G rate (i : Int) p' f' kd s1 s2 s3 s4 keep keep2 low decay most grow P F S cnt fac good L Q U' cnt' fac good)
        (fun k => impl_StepOpt.l0 k G rate P (n : Int) ((i + 1 : Nat) : Int) kd s1 s2 s3 s4 keep keep2 low decay most grow P F S cnt fac good (L.set i (clampV p' (-68719476736) 68719476736)) (Q.set i f') U' cnt' fac good) := by
    intro p' f' U' hU' hd
    refine Both.stepL (ih (L.set i (clampV p' (-68719476736) 68719476736)) (Q.set i f') U' (by simpa using hL) (by simpa using hQ) hU' hd) (fun k => ?_)
    simp only [spec_StepOpt.j5, bringS, Option.bind_some]
    rw [if_pos (by omega), if_pos (by omega), if_pos (by omega), Int.toNat_natCast, wn i (by omega)]
  have hsame : U.set i (rd S (i : Int)) = U := by
    rw [← rd_of hUS (by omega) (by omega)]; exact set_same U i (by omega)
  have hUd : U.drop (i + 1) = S.drop (i + 1) := by rw [← List.drop_drop, hUS, List.drop_drop]
  unfold impl_moverOf.f StepP.moverF
  by_cases k2 : kd = 2
  · subst k2
    simp only [if_pos trivial]
    unfold impl_heavyMover_move.f
    refine Both.congrR ?_ (fun k => by rw [near_val, Option.bind_some, clampI _ _ _ (by decide), Option.bind_some, near_val, Option.bind_some, Option.bind_some])
    refine Both.stepL (h5 _ _ U hU hUd |>.congrR (fun k => by dsimp only; rw [hsame])) (fun k => ?_)
    simp only [spec_StepOpt.j4, near_valS, clampS, Option.bind_some]
    rw [if_pos (by omega), if_pos (by omega), if_neg (by decide), if_pos trivial, if_pos (by omega)]
  · by_cases k3 : kd = 3
    · subst k3
      simp only [if_neg (show ¬ ((3 : Int) = 2) by decide), if_pos trivial]
      unfold impl_evenMover_move.f
      refine Both.congrR (f' := fun k => (impl_Root.f k (wrap64 (65536 * nearV (wrap64 ((wrap64 (keep2 * rd S (i : Int))) + (wrap64 ((wrap64 (65536 - keep2)) * nearV (wrap64 (rd G (i : Int) * rd G (i : Int))) 65536)))) 65536))).bind fun A => impl_StepOpt.l0 k G rate P (n : Int) ((i + 1 : Nat) : Int) 3 s1 s2 s3 s4 keep keep2 low decay most grow P F S cnt fac good (L.set i (clampV (wrap64 (p - nearV (wrap64 (rate * nearV (wrap64 ((wrap64 (keep * rd F (i : Int))) + (wrap64 ((wrap64 (65536 - keep)) * rd G (i : Int))))) 65536)) (wrap64 (A + low)))) (-68719476736) 68719476736)) (Q.set i (nearV (wrap64 ((wrap64 (keep * rd F (i : Int))) + (wrap64 ((wrap64 (65536 - keep)) * rd G (i : Int))))) 65536)) (U.set i (nearV (wrap64 ((wrap64 (keep2 * rd S (i : Int))) + (wrap64 ((wrap64 (65536 - keep2)) * nearV (wrap64 (rd G (i : Int) * rd G (i : Int))) 65536)))) 65536)) cnt' fac good) ?_ (fun k => ?_)
      rotate_left
      · simp only [near_val, Option.bind_some]
        cases impl_Root.f k _ <;> rfl
      refine Both.bindR (rootI _) ?_
      have e4 : ∀ k, spec_StepOpt.j4 (k + 1) G rate (i : Int) p 3 s1 s2 s3 s4 keep keep2 low decay most grow P F S cnt fac good L Q U cnt' fac good = (spec_Root.f k (wrap64 (65536 * nearV (wrap64 ((wrap64 (keep2 * rd S (i : Int))) + (wrap64 ((wrap64 (65536 - keep2)) * nearV (wrap64 (rd G (i : Int) * rd G (i : Int))) 65536)))) 65536))).bind fun A => spec_StepOpt.j5 k G rate (i : Int) (wrap64 (p - nearV (wrap64 (rate * nearV (wrap64 ((wrap64 (keep * rd F (i : Int))) + (wrap64 ((wrap64 (65536 - keep)) * rd G (i : Int))))) 65536)) (wrap64 (A + low)))) (nearV (wrap64 ((wrap64 (keep * rd F (i : Int))) + (wrap64 ((wrap64 (65536 - keep)) * rd G (i : Int))))) 65536) 3 s1 s2 s3 s4 keep keep2 low decay most grow P F S cnt fac good L Q (U.set i (nearV (wrap64 ((wrap64 (keep2 * rd S (i : Int))) + (wrap64 ((wrap64 (65536 - keep2)) * nearV (wrap64 (rd G (i : Int) * rd G (i : Int))) 65536)))) 65536)) cnt' fac good := by
        intro k
        simp only [spec_StepOpt.j4, near_valS, Option.bind_some]
        rw [if_pos (by omega), if_pos (by omega), if_neg (by decide), if_neg (by decide), if_pos trivial, if_pos (by omega), if_pos (by omega)]
        simp only [if_pos (show (i : Int) < (U.length : Int) by omega), Int.toNat_natCast]
      exact Both.stepL (Both.bindL (rootS _) (h5 _ _ _ (by simpa using hU) (drop_set hUS))) e4
    · have k1 : kd = 1 := by omega
      subst k1
      simp only [if_neg (show ¬ ((1 : Int) = 2) by decide), if_neg (show ¬ ((1 : Int) = 3) by decide)]
      unfold StepP.plainF
      refine Both.congrR ?_ (fun k => by rw [near_val, Option.bind_some, Option.bind_some])
      refine Both.stepL (h5 _ _ U hU hUd |>.congrR (fun k => by dsimp only; rw [hsame])) (fun k => ?_)
      simp only [spec_StepOpt.j4, near_valS, Option.bind_some]
      rw [if_pos (by omega), if_pos (by omega), if_pos trivial, if_pos (by omega)]
theorem loop_both (hG : G.length = n) (hP : P.length = n) (hF : F.length = n) (hS : S.length = n) (hn : n ≤ 4096) (hk : 1 ≤ kd ∧ kd ≤ 3) (hf : fac ∈ pows) (g0 : 0 ≤ good) (g1 : good ≤ 1000000) :
    ∀ i, i ≤ n → ∀ L Q U : List Int, L.length = n → Q.length = n → U.length = n → U.drop i = S.drop i →
      Both (fun k => spec_StepOpt.l1 k G rate (i : Int) kd s1 s2 s3 s4 keep keep2 low decay most grow P F S cnt fac good L Q U cnt' fac good)
        (fun k => impl_StepOpt.l0 k G rate P (n : Int) (i : Int) kd s1 s2 s3 s4 keep keep2 low decay most grow P F S cnt fac good L Q U cnt' fac good) := by
  refine down ?_ ?_
  · intro L Q U hL hQ hU _
    exact loop_end G P F S n rate kd s1 s2 s3 s4 keep keep2 low decay most grow cnt fac good cnt' hG hP hn hf g0 g1 L Q U hL hQ hU
  · intro i hi ih L Q U hL hQ hU hUS
    have M := fun p => mover_both G P F S n rate kd s1 s2 s3 s4 keep keep2 low decay most grow cnt fac good cnt' i p hG hP hF hS hn hi hk L Q U hL hQ hU hUS ih
    refine Both.step (M (if decay > 0 then clampV (wrap64 (rd P (i : Int) - nearV (wrap64 (rate * nearV (wrap64 (decay * rd P (i : Int))) 65536)) 65536)) (-68719476736) 68719476736 else rd P (i : Int))) (fun k => ?_) (fun k => ?_)
    · simp only [spec_StepOpt.l1, near_valS, bringS, Option.bind_some]
      rw [if_pos (by omega), if_pos (by omega), if_pos (by omega)]
      split <;> rfl
    · simp only [impl_StepOpt.l0, near_val, clampI _ _ _ (show (-68719476736 : Int) ≤ 68719476736 by decide), Option.bind_some]
      rw [if_pos (by omega), if_pos (by omega), if_pos (by omega)]
      simp only [if_pos (show (i : Int) < (G.length : Int) by omega), if_pos (show (i : Int) < (F.length : Int) by omega), if_pos (show (i : Int) < (S.length : Int) by omega), if_pos (show (i : Int) < (Q.length : Int) by omega), if_pos (show (i : Int) < (U.length : Int) by omega), if_pos (show (i : Int) < (L.length : Int) by omega), Int.toNat_natCast, wn i (by omega)]
      split <;> rfl
end
theorem sched_some (a b c d : Int) : ∃ v, impl_SchedOk.f a b c d = some v := by
  unfold impl_SchedOk.f
  simp only [within_val, Option.bind_some]
  (repeat' split) <;> exact ⟨_, rfl⟩
theorem rate_some (a b c d e : Int) : ∃ v, impl_Rate.f a b c d e = some v := by
  obtain ⟨v, hv⟩ := sched_some a b c d
  unfold impl_Rate.f
  rw [hv, Option.bind_some]
  simp only [within_val, near_val, Option.bind_some]
  (repeat' split) <;> exact ⟨_, rfl⟩
theorem rule_val (kd s1 s2 s3 s4 keep keep2 low decay most grow : Int) : ∃ b, impl_RuleOk.f kd s1 s2 s3 s4 keep keep2 low decay most grow = some b ∧ (b = true → (1 ≤ kd ∧ kd ≤ 3) ∧ 0 ≤ most ∧ most ≤ 1073741824) := by
  obtain ⟨v, hv⟩ := sched_some s1 s2 s3 s4
  unfold impl_RuleOk.f impl_isPart.f
  rw [hv]
  simp only [within_val, Option.bind_some]
  cases c1 : inR 1 3 kd with
  | false => exact ⟨false, by rw [if_neg (by decide)], fun h => by cases h⟩
  | true =>
    rw [if_pos rfl]
    cases c2 : inR 0 1073741824 most with
    | false =>
      refine ⟨false, ?_, fun h => by cases h⟩
      (repeat' split) <;> first | rfl | contradiction
    | true =>
      have h1 := inR_iff.1 c1
      have h2 := inR_iff.1 c2
      have : ∃ b, (if v = true then (if inR 0 65536 keep = true then (if inR 0 65536 keep2 = true then (if inR 0 65536 decay = true then (if inR 1 16777216 low = true then (if true = true then (some (inR 0 1000000 grow)) else (some false)) else (some false)) else (some false)) else (some false)) else (some false)) else (some false)) = some b := by
        (repeat' split) <;> exact ⟨_, rfl⟩
      obtain ⟨b, hb⟩ := this
      exact ⟨b, hb, fun _ => ⟨h1, h2⟩⟩
def failV : Res := ([], [], [], 0, 0, 0, false)
section
variable (kd s1 s2 s3 s4 keep keep2 low decay most grow : Int) (P F S : List Int) (cnt fac good : Int) (gr : List Int)
theorem fail_step (k : Nat) : spec_StepOpt.j0 (k + 1) gr true kd s1 s2 s3 s4 keep keep2 low decay most grow P F S cnt fac good = some failV := by
  simp only [spec_StepOpt.j0]
  rw [if_pos trivial]; rfl
theorem ints_val (l : List Int) (h : l.length ≤ 4096) : spec_l3Ints.f l = some l := by
  unfold spec_l3Ints.f
  rw [Option.bind_some, if_pos (by simp; omega), List.nil_append]
theorem clone_val (l : List Int) (h : l.length ≤ 4096) : slices_Clone_int_int.f l = some l := ints_val l h
theorem gOk_near (l : List Int) (h : gOk l = true) : gOk (l.map fun x => nearV x fac) = true := by
  unfold gOk at h ⊢
  rw [Bool.and_eq_true] at h ⊢
  refine ⟨?_, by simpa using h.2⟩
  have h1 := h.1
  unfold allIn at h1 ⊢
  rw [List.all_eq_true] at h1 ⊢
  intro x hx
  obtain ⟨y, hy, rfl⟩ := List.mem_map.1 hx
  have := inR_iff.1 (h1 y hy)
  have b := near_le (l := y) (a := fac) (B := 16777216) (by omega) (by omega) (by omega) (by omega)
  exact inR_iff.2 ⟨by omega, b.2⟩
theorem grads_loop (hg : gr.length ≤ 4096) (nP nF nS : List Int) (nc nf ng : Int) (f : Nat → Option Res)
    (h : Both (fun k => if most > 0 then ((spec_Clip.f k (gr.map fun x => nearV x fac) most).bind fun j0 => (spec_StepOpt.j2 k j0 kd s1 s2 s3 s4 keep keep2 low decay most grow P F S cnt fac good nP nF nS nc nf ng)) else (spec_StepOpt.j2 k (gr.map fun x => nearV x fac) kd s1 s2 s3 s4 keep keep2 low decay most grow P F S cnt fac good nP nF nS nc nf ng)) f) :
    Both (fun k => spec_StepOpt.l0 k gr [] 0 kd s1 s2 s3 s4 keep keep2 low decay most grow P F S cnt fac good nP nF nS nc nf ng) f := by
  have hm : (gr.map fun x => nearV x fac).length = gr.length := by simp
  refine down (P := fun i => Both (fun k => spec_StepOpt.l0 k gr ((gr.map fun x => nearV x fac).take i) (i : Int) kd s1 s2 s3 s4 keep keep2 low decay most grow P F S cnt fac good nP nF nS nc nf ng) f) (n := gr.length) ?_ ?_ 0 (Nat.zero_le _)
  · refine Both.stepL h (fun k => ?_)
    simp only [spec_StepOpt.l0]
    rw [if_neg (by omega), ← hm, List.take_length]
  · intro i hi ih
    have ht : (gr.map fun x => nearV x fac).take (i + 1) = (gr.map fun x => nearV x fac).take i ++ [nearV (rd gr (i : Int)) fac] := by
      rw [List.take_succ_eq_append_getElem (by omega), List.getElem_map, rd_lt gr i hi]
    rw [ht] at ih
    refine Both.stepL ih (fun k => ?_)
    simp only [spec_StepOpt.l0, near_valS, Option.bind_some]
    rw [if_pos (by omega), if_pos (by omega), if_pos (by rw [List.length_take]; omega), wn i (by omega)]
theorem step_both (hgr : gr.length ≤ 1048576) :
    Both (fun k => spec_StepOpt.f k kd s1 s2 s3 s4 keep keep2 low decay most grow P F S cnt fac good gr)
      (fun k => impl_StepOpt.f k kd s1 s2 s3 s4 keep keep2 low decay most grow P F S cnt fac good gr) := by
  have hF : Both (fun _ => some failV) (fun _ => some failV) := Both.now _ ⟨by simp [failV], by simp [failV], by simp [failV]⟩
  have hFail : Both (fun k => spec_StepOpt.j0 k gr true kd s1 s2 s3 s4 keep keep2 low decay most grow P F S cnt fac good) (fun _ => some failV) :=
    Both.stepL hF (fun k => fail_step kd s1 s2 s3 s4 keep keep2 low decay most grow P F S cnt fac good gr k)
  obtain ⟨b, hb, hbr⟩ := rule_val kd s1 s2 s3 s4 keep keep2 low decay most grow
  unfold spec_StepOpt.f impl_StepOpt.f
  simp only [rule_same, hb, Option.bind_some]
  cases b with
  | false => exact hFail.congr (fun k => by rw [if_neg (by decide)]) (fun k => by rw [if_neg (by decide)]; rfl)
  | true =>
    obtain ⟨hk, hm0, hm1⟩ := hbr rfl
    refine Both.congr ?_ (fun k => by rw [if_pos rfl]) (fun k => by rw [if_pos rfl])
    refine Both.bindL (okS P F S cnt fac good) (Both.bindR (okI P F S cnt fac good) ?_)
    cases hok : okV P F S cnt fac good with
    | false => exact hFail.congr (fun k => by rw [if_neg (by decide)]) (fun k => by rw [if_neg (by decide)]; rfl)
    | true =>
      refine Both.congr ?_ (fun k => by rw [if_pos rfl]) (fun k => by rw [if_pos rfl])
      unfold okV at hok
      simp only [Bool.and_eq_true, decide_eq_true_eq, inR_iff] at hok
      obtain ⟨o1, o2, o3, _, _, _, ⟨c0, c1⟩, hfac, g0, g1⟩ := hok
      by_cases e1 : cnt = 1000000
      · exact hFail.congr (fun k => by rw [if_pos e1]) (fun k => by rw [if_pos e1]; rfl)
      refine Both.congr ?_ (fun k => by rw [if_neg e1]) (fun k => by rw [if_neg e1])
      by_cases e2 : gr.length = P.length
      rotate_left
      · exact hFail.congr (fun k => by rw [show ((gr.length : Int) != (P.length : Int)) = true from bne_iff_ne.2 (by omega)]) (fun k => by rw [if_neg (by omega)]; rfl)
      refine Both.congrR ?_ (fun k => by rw [if_pos (by omega)])
      rw [show ((gr.length : Int) != (P.length : Int)) = false from bne_eq_false_iff_eq.2 (by omega)]
      have hcl : impl_cloneOpt.f P F S cnt fac good = some (P, F, S, cnt, fac, good) := by
        unfold impl_cloneOpt.f
        rw [clone_val P (by omega), Option.bind_some, clone_val F (by omega), Option.bind_some, clone_val S (by omega), Option.bind_some]
      refine Both.congrR ?_ (fun k => by rw [hcl, Option.bind_some])
      refine Both.stepL (g' := fun k => (spec_l15Grad.f k gr).bind fun b0 => (if b0 = true then (spec_StepOpt.l0 k gr (([] : List Int)) 0 kd s1 s2 s3 s4 keep keep2 low decay most grow P F S cnt fac good P F S (wrap64 (cnt + 1)) fac good) else (if fac > 1 then (some (P, F, S, wrap64 (cnt + 1), wrap64 (Int.tdiv fac 2), 0, true)) else (some (P, F, S, wrap64 (cnt + 1), fac, 0, true))))) ?_ (fun k => by
        simp only [spec_StepOpt.j0]
        rw [if_neg (by decide), ints_val P (by omega), Option.bind_some, ints_val F (by omega), Option.bind_some, ints_val S (by omega), Option.bind_some])
      refine Both.bindL (gradS gr hgr) (Both.bindR (gradI gr hgr) ?_)
      cases hg : gOk gr with
      | false =>
        have hf : 1 ≤ fac ∧ fac ≤ 65536 := by
          have : ∀ x ∈ pows, 1 ≤ x ∧ x ≤ 65536 := by decide
          exact this _ hfac
        have hx : mx 1 (wrap64 (Int.tdiv fac 2)) = if fac > 1 then wrap64 (Int.tdiv fac 2) else fac := by
          rw [Int.tdiv_eq_ediv_of_nonneg (by omega), w64 (by omega) (by omega)]
          unfold mx; (repeat' split) <;> omega
        refine Both.congr (Both.now (P, F, S, wrap64 (cnt + 1), (if fac > 1 then wrap64 (Int.tdiv fac 2) else fac), 0, true) ⟨by dsimp only; omega, by dsimp only; omega, by dsimp only; omega⟩) (fun k => ?_) (fun k => ?_)
        · rw [if_neg (by decide)]; split <;> rfl
        · rw [if_neg (by decide), hx]
      | true =>
        refine Both.congr ?_ (fun k => by rw [if_pos rfl]) (fun k => by rw [if_pos rfl])
        have hgm := gOk_near fac gr hg
        have hlm : (gr.map fun x => nearV x fac).length = P.length := by simpa using e2
        obtain ⟨rt, hrt⟩ := rate_some s1 s2 s3 s4 cnt
        refine grads_loop kd s1 s2 s3 s4 keep keep2 low decay most grow P F S cnt fac good gr (by omega) P F S _ fac good _ ?_
        refine Both.bindR (a := gr.map fun x => nearV x fac) (by unfold impl_mapped_int_int.f; exact mapped_ev gr hgr _ _ (fun x => near_val x fac)) ?_
        have core : ∀ G : List Int, G.length = P.length → Both (fun k => spec_StepOpt.j2 k G kd s1 s2 s3 s4 keep keep2 low decay most grow P F S cnt fac good P F S (wrap64 (cnt + 1)) fac good)
            (fun k => (impl_Rate.f s1 s2 s3 s4 cnt).bind fun g0 => ((impl_StepOpt_1.f kd s1 s2 s3 s4 keep keep2 low decay most grow).bind fun j0 => (impl_StepOpt.l0 k G g0 P (P.length : Int) 0 kd s1 s2 s3 s4 keep keep2 low decay most grow P F S cnt fac good P F S (wrap64 (cnt + 1)) fac good))) := by
          intro G hG
          have := loop_both G P F S P.length rt kd s1 s2 s3 s4 keep keep2 low decay most grow cnt fac good (wrap64 (cnt + 1)) hG rfl o2 o3 (by omega) hk hfac g0 g1 0 (Nat.zero_le _) P F S rfl o2 o3 rfl
          refine Both.congrR ?_ (fun k => by rw [hrt, Option.bind_some])
          exact Both.stepL this (fun k => by simp only [spec_StepOpt.j2, rate_same, hrt, Option.bind_some]; rfl)
        by_cases e3 : most > 0
        · refine Both.congr ?_ (fun k => by rw [if_pos e3]) (fun k => by rw [if_pos e3])
          refine Both.bindL (clipS _ most (by omega) hgm hm0 hm1) (Both.bindR (clipI _ most (by omega) hgm hm0 hm1) ?_)
          exact core _ (by rw [clipV_len]; exact hlm)
        · refine Both.congr ?_ (fun k => by rw [if_neg e3]) (fun k => by rw [if_neg e3])
          exact core _ hlm
end
end Go.Proofs.Ytodfhokndnmdoaa.Pure
