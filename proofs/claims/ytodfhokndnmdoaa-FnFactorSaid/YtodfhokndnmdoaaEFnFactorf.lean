/- A step with a factor, of gradients that many times as great, moves what a step with the factor 1 moves. -/
import Derived.Test.YtodfhokndnmdoaaEFnFactore
namespace Go.Proofs.Ytodfhokndnmdoaa.Pure
open Go.RowKit Go.Proofs.Ytodfhokndnmdoaa.PFnFactor Go.Proofs.YtodfhokndnmdoaaW.PrintWords Go.Proofs.YtodfhokndnmdoaaW.PrintLast Go.Proofs.YtodfhokndnmdoaaW.PrintMore
set_option linter.unusedSimpArgs false
set_option linter.unusedVariables false

theorem Ev.uniq {α : Type} {g : Nat → Option α} {a b : α} (ha : Ev g a) (hb : Ev g b) : a = b := by
  obtain ⟨K, h⟩ := ha
  obtain ⟨L, h'⟩ := hb
  have e := h (max K L) (Nat.le_max_left _ _)
  rw [h' (max K L) (Nat.le_max_right _ _)] at e
  exact (Option.some.inj e).symm
theorem near_times (x fac : Int) (h0 : -128 ≤ x) (h1 : x ≤ 127) (f0 : 1 ≤ fac) (f1 : fac ≤ 65536) : wrap64 (x * fac) = x * fac ∧ nearV (wrap64 (x * fac)) fac = x := by
  have b1 : x * fac ≤ 127 * 65536 := by
    rcases Int.le_total 0 x with h | h
    · exact Int.mul_le_mul h1 f1 (by omega) (by omega)
    · have : x * fac ≤ 0 := Int.mul_nonpos_of_nonpos_of_nonneg h (by omega)
      omega
  have b2 : -(128 * 65536) ≤ x * fac := by
    have : -x * fac ≤ 128 * 65536 := by
      rcases Int.le_total 0 (-x) with h | h
      · exact Int.mul_le_mul (by omega) f1 (by omega) (by omega)
      · have : -x * fac ≤ 0 := Int.mul_nonpos_of_nonpos_of_nonneg h (by omega)
        omega
    rw [Int.neg_mul] at this
    omega
  have e : wrap64 (x * fac) = x * fac := w64 (by omega) (by omega)
  refine ⟨e, ?_⟩
  have hv := near_val (wrap64 (x * fac)) fac
  generalize nearV (wrap64 (x * fac)) fac = v at hv
  rw [e] at hv
  unfold impl_Near.f at hv
  have hm : Int.tmod (x * fac) fac = 0 := Int.mul_tmod_left x fac
  have hd : Int.tdiv (x * fac) fac = x := Int.mul_tdiv_cancel x (by omega)
  rw [if_neg (by omega), if_neg (by omega), if_neg (by omega), hm, hd, if_neg (by omega), w64 (x := x) (by omega) (by omega)] at hv
  unfold impl_near.f at hv
  rw [w64 (x := fac - 0) (by omega) (by omega), if_neg (by omega), if_neg (by omega)] at hv
  exact (Option.some.inj hv).symm
/-- Two that move the same. -/
def Twin (g f : Nat → Option Res) : Prop := ∃ v w : Res, Ev g v ∧ Ev f w ∧ v.2.2.2.2.2.2 = true ∧ v.1 = w.1 ∧ v.2.1 = w.2.1 ∧ v.2.2.1 = w.2.2.1
theorem Twin.congr {g g' f f' : Nat → Option Res} (h : Twin g' f') (hg : ∀ k, g k = g' k) (hf : ∀ k, f k = f' k) : Twin g f := by
  obtain ⟨v, w, a, b, c⟩ := h
  exact ⟨v, w, Ev.congr hg a, Ev.congr hf b, c⟩
theorem Twin.step {g g' f f' : Nat → Option Res} (h : Twin g' f') (hg : ∀ k, g (k + 1) = g' k) (hf : ∀ k, f (k + 1) = f' k) : Twin g f := by
  obtain ⟨v, w, a, b, c⟩ := h
  exact ⟨v, w, Ev.step hg a, Ev.step hf b, c⟩
theorem Twin.bind {α : Type} {x : Nat → Option α} {y z : Nat → α → Option Res} {a : α} (hx : Ev x a) (h : Twin (fun k => y k a) (fun k => z k a)) : Twin (fun k => (x k).bind (y k)) (fun k => (x k).bind (z k)) := by
  obtain ⟨v, w, p, q, c⟩ := h
  exact ⟨v, w, Ev.bind hx p, Ev.bind hx q, c⟩
section
variable (G P F S : List Int) (n : Nat) (rate kd s1 s2 s3 s4 keep keep2 low decay most grow cnt fac good cnt' : Int)
theorem mover_ev (g p f s : Int) : ∃ r, Ev (fun k => impl_moverOf.f k kd s1 s2 s3 s4 keep keep2 low decay most grow rate g p f s) r := by
  have : Gd (fun _ => True) (fun k => impl_moverOf.f k kd s1 s2 s3 s4 keep keep2 low decay most grow rate g p f s) := by
    unfold impl_moverOf.f StepP.moverF
    refine Gd.ite (fun _ => ?_) (fun _ => Gd.ite (fun _ => ?_) (fun _ => ?_))
    · unfold impl_heavyMover_move.f
      simp only [near_val, Option.bind_some, clampI _ _ _ (show (-4294967296 : Int) ≤ 4294967296 by decide)]
      exact Gd.now _ trivial
    · unfold impl_evenMover_move.f
      simp only [near_val, Option.bind_some]
      exact Gd.bind (P := fun _ => True) ⟨_, rootI _, trivial⟩ fun a _ => Gd.now _ trivial
    · unfold StepP.plainF
      simp only [near_val, Option.bind_some]
      exact Gd.now _ trivial
  obtain ⟨r, h, _⟩ := this
  exact ⟨r, h⟩
theorem twin_loop (hG : G.length = n) (hP : P.length = n) (hF : F.length = n) (hS : S.length = n) (hn : n ≤ 4096) :
    ∀ i, i ≤ n → ∀ L Q U : List Int, L.length = n → Q.length = n → U.length = n →
      Twin (fun k => impl_StepOpt.l0 k G rate P (n : Int) (i : Int) kd s1 s2 s3 s4 keep keep2 low decay most grow P F S cnt fac good L Q U cnt' fac good)
        (fun k => impl_StepOpt.l0 k G rate P (n : Int) (i : Int) kd s1 s2 s3 s4 keep keep2 low decay most grow P F S cnt 1 good L Q U cnt' 1 good) := by
  refine down ?_ ?_
  · intro L Q U hL hQ hU
    have e : ∀ D : Int, ∃ v : Res, (∀ k, impl_StepOpt.l0 (k + 1) G rate P (n : Int) (n : Int) kd s1 s2 s3 s4 keep keep2 low decay most grow P F S cnt D good L Q U cnt' D good = some v) ∧ v.2.2.2.2.2.2 = true ∧ v.1 = L ∧ v.2.1 = Q ∧ v.2.2.1 = U := by
      intro D
      by_cases c : grow > 0
      · by_cases c2 : mn (wrap64 (good + 1)) 1000000 ≥ grow
        · exact ⟨_, fun k => by simp only [impl_StepOpt.l0]; rw [if_neg (by omega), if_pos c, if_pos c2], rfl, rfl, rfl, rfl⟩
        · exact ⟨_, fun k => by simp only [impl_StepOpt.l0]; rw [if_neg (by omega), if_pos c, if_neg c2], rfl, rfl, rfl, rfl⟩
      · exact ⟨_, fun k => by simp only [impl_StepOpt.l0]; rw [if_neg (by omega), if_neg c], rfl, rfl, rfl, rfl⟩
    obtain ⟨v, hv, a0, a1, a2, a3⟩ := e fac
    obtain ⟨w, hw, _, b1, b2, b3⟩ := e 1
    exact ⟨v, w, Ev.stop hv, Ev.stop hw, a0, a1.trans b1.symm, a2.trans b2.symm, a3.trans b3.symm⟩
  · intro i hi ih L Q U hL hQ hU
    obtain ⟨r, hr⟩ := mover_ev rate kd s1 s2 s3 s4 keep keep2 low decay most grow (rd G (i : Int)) (if decay > 0 then clampV (wrap64 (rd P (i : Int) - nearV (wrap64 (rate * nearV (wrap64 (decay * rd P (i : Int))) 65536)) 65536)) (-68719476736) 68719476736 else rd P (i : Int)) (rd F (i : Int)) (rd S (i : Int))
    have T := ih (L.set i (clampV r.1 (-68719476736) 68719476736)) (Q.set i r.2.1) (U.set i r.2.2) (by simpa using hL) (by simpa using hQ) (by simpa using hU)
    have e : ∀ (D : Int) (k : Nat), impl_StepOpt.l0 (k + 1) G rate P (n : Int) (i : Int) kd s1 s2 s3 s4 keep keep2 low decay most grow P F S cnt D good L Q U cnt' D good = (impl_moverOf.f k kd s1 s2 s3 s4 keep keep2 low decay most grow rate (rd G (i : Int)) (if decay > 0 then clampV (wrap64 (rd P (i : Int) - nearV (wrap64 (rate * nearV (wrap64 (decay * rd P (i : Int))) 65536)) 65536)) (-68719476736) 68719476736 else rd P (i : Int)) (rd F (i : Int)) (rd S (i : Int))).bind fun r => impl_StepOpt.l0 k G rate P (n : Int) ((i + 1 : Nat) : Int) kd s1 s2 s3 s4 keep keep2 low decay most grow P F S cnt D good (L.set i (clampV r.1 (-68719476736) 68719476736)) (Q.set i r.2.1) (U.set i r.2.2) cnt' D good := by
      intro D k
      simp only [impl_StepOpt.l0, near_val, clampI _ _ _ (show (-68719476736 : Int) ≤ 68719476736 by decide), Option.bind_some]
      rw [if_pos (by omega), if_pos (by omega), if_pos (by omega)]
      simp only [if_pos (show (i : Int) < (G.length : Int) by omega), if_pos (show (i : Int) < (F.length : Int) by omega), if_pos (show (i : Int) < (S.length : Int) by omega), if_pos (show (i : Int) < (Q.length : Int) by omega), if_pos (show (i : Int) < (U.length : Int) by omega), if_pos (show (i : Int) < (L.length : Int) by omega), Int.toNat_natCast, wn i (by omega)]
      split <;> rfl
    exact Twin.step (Twin.bind (y := fun k r => impl_StepOpt.l0 k G rate P (n : Int) ((i + 1 : Nat) : Int) kd s1 s2 s3 s4 keep keep2 low decay most grow P F S cnt fac good (L.set i (clampV r.1 (-68719476736) 68719476736)) (Q.set i r.2.1) (U.set i r.2.2) cnt' fac good) (z := fun k r => impl_StepOpt.l0 k G rate P (n : Int) ((i + 1 : Nat) : Int) kd s1 s2 s3 s4 keep keep2 low decay most grow P F S cnt 1 good (L.set i (clampV r.1 (-68719476736) 68719476736)) (Q.set i r.2.1) (U.set i r.2.2) cnt' 1 good) hr T) (e fac) (e 1)
/-- What a step does once all is well. -/
def tailF (k : Nat) (X : List Int) (D : Int) : Option Res :=
  if most > 0 then ((impl_Clip.f k X most).bind fun e0 => ((impl_Rate.f s1 s2 s3 s4 cnt).bind fun f0 => (impl_StepOpt.l0 k e0 f0 P (P.length : Int) 0 kd s1 s2 s3 s4 keep keep2 low decay most grow P F S cnt D good P F S (wrap64 (cnt + 1)) D good)))
  else ((impl_Rate.f s1 s2 s3 s4 cnt).bind fun g0 => (impl_StepOpt.l0 k X g0 P (P.length : Int) 0 kd s1 s2 s3 s4 keep keep2 low decay most grow P F S cnt D good P F S (wrap64 (cnt + 1)) D good))
theorem step_ok (gr : List Int) (hgr : gr.length ≤ 1048576) (hb : impl_RuleOk.f kd s1 s2 s3 s4 keep keep2 low decay most grow = some true) (hok : okV P F S cnt fac good = true) (hc : cnt ≠ 1000000) (hl : gr.length = P.length) (hg : gOk gr = true) (h4 : P.length ≤ 4096 ∧ F.length ≤ 4096 ∧ S.length ≤ 4096) {v : Res}
    (h : Ev (fun k => tailF P F S kd s1 s2 s3 s4 keep keep2 low decay most grow cnt good k (gr.map fun x => nearV x fac) fac) v) : Ev (fun k => impl_StepOpt.f k kd s1 s2 s3 s4 keep keep2 low decay most grow P F S cnt fac good gr) v := by
  have hcl : impl_cloneOpt.f P F S cnt fac good = some (P, F, S, cnt, fac, good) := by
    unfold impl_cloneOpt.f
    rw [clone_val P h4.1, Option.bind_some, clone_val F h4.2.1, Option.bind_some, clone_val S h4.2.2, Option.bind_some]
  unfold impl_StepOpt.f
  simp only [hb, Option.bind_some]
  refine Ev.congr (fun k => by rw [if_pos trivial]) ?_
  refine Ev.bind (okI P F S cnt fac good) ?_
  rw [hok]
  refine Ev.congr (fun k => by rw [if_pos rfl, if_neg hc, if_pos (by omega), hcl, Option.bind_some]) ?_
  refine Ev.bind (gradI gr hgr) ?_
  rw [hg]
  refine Ev.congr (fun k => by rw [if_pos rfl]) ?_
  refine Ev.bind (a := gr.map fun x => nearV x fac) (by unfold impl_mapped_int_int.f; exact mapped_ev gr hgr _ _ (fun x => near_val x fac)) ?_
  exact Ev.congr (fun k => rfl) h
theorem twin_tail (X : List Int) (hX : X.length = P.length) (hF : F.length = P.length) (hS : S.length = P.length) (hn : P.length ≤ 4096) (hg : gOk X = true) (m0 : 0 ≤ most) (m1 : most ≤ 1073741824) :
    Twin (fun k => tailF P F S kd s1 s2 s3 s4 keep keep2 low decay most grow cnt good k X fac) (fun k => tailF P F S kd s1 s2 s3 s4 keep keep2 low decay most grow cnt good k X 1) := by
  obtain ⟨rt, hrt⟩ := rate_some s1 s2 s3 s4 cnt
  unfold tailF
  simp only [hrt, Option.bind_some]
  by_cases c : most > 0
  · refine Twin.congr ?_ (fun k => by rw [if_pos c]) (fun k => by rw [if_pos c])
    refine Twin.bind (clipI X most (by omega) hg m0 m1) ?_
    exact twin_loop (clipV X most) P F S P.length rt kd s1 s2 s3 s4 keep keep2 low decay most grow cnt fac good (wrap64 (cnt + 1)) (by rw [clipV_len]; exact hX) rfl hF hS hn 0 (Nat.zero_le _) P F S rfl hF hS
  · refine Twin.congr ?_ (fun k => by rw [if_neg c]) (fun k => by rw [if_neg c])
    exact twin_loop X P F S P.length rt kd s1 s2 s3 s4 keep keep2 low decay most grow cnt fac good (wrap64 (cnt + 1)) hX rfl hF hS hn 0 (Nat.zero_le _) P F S rfl hF hS
/-- A step fails, or it moves what the step with the factor 1 moves. -/
theorem fac_step (g : List Int) (hgr : g.length ≤ 1048576) (hr : ∀ x ∈ g, -128 ≤ x ∧ x ≤ 127) :
    Ev (fun k => impl_StepOpt.f k kd s1 s2 s3 s4 keep keep2 low decay most grow P F S cnt fac good (g.map fun x => wrap64 (x * fac))) failV ∨
    Twin (fun k => impl_StepOpt.f k kd s1 s2 s3 s4 keep keep2 low decay most grow P F S cnt fac good (g.map fun x => wrap64 (x * fac))) (fun k => impl_StepOpt.f k kd s1 s2 s3 s4 keep keep2 low decay most grow P F S cnt 1 good g) := by
  obtain ⟨b, hb, hbr⟩ := rule_val kd s1 s2 s3 s4 keep keep2 low decay most grow
  cases b with
  | false =>
    refine Or.inl ?_
    unfold impl_StepOpt.f
    simp only [hb, Option.bind_some]
    exact Ev.congr (fun k => by rw [if_neg (by decide)]; rfl) (Ev.now failV)
  | true =>
    obtain ⟨hk, hm0, hm1⟩ := hbr rfl
    cases hok : okV P F S cnt fac good with
    | false =>
      refine Or.inl ?_
      unfold impl_StepOpt.f
      simp only [hb, Option.bind_some]
      refine Ev.congr (fun k => by rw [if_pos trivial]) ?_
      refine Ev.bind (okI P F S cnt fac good) ?_
      rw [hok]
      exact Ev.congr (fun k => by rw [if_neg (by decide)]; rfl) (Ev.now failV)
    | true =>
      by_cases hc : cnt = 1000000
      · refine Or.inl ?_
        unfold impl_StepOpt.f
        simp only [hb, Option.bind_some]
        refine Ev.congr (fun k => by rw [if_pos trivial]) ?_
        refine Ev.bind (okI P F S cnt fac good) ?_
        rw [hok]
        exact Ev.congr (fun k => by rw [if_pos rfl, if_pos hc]; rfl) (Ev.now failV)
      by_cases hl : g.length = P.length
      rotate_left
      · refine Or.inl ?_
        unfold impl_StepOpt.f
        simp only [hb, Option.bind_some]
        refine Ev.congr (fun k => by rw [if_pos trivial]) ?_
        refine Ev.bind (okI P F S cnt fac good) ?_
        rw [hok]
        exact Ev.congr (fun k => by rw [if_pos rfl, if_neg hc, if_neg (by rw [List.length_map]; omega)]; rfl) (Ev.now failV)
      have hok2 := hok
      unfold okV at hok2
      simp only [Bool.and_eq_true, decide_eq_true_eq, inR_iff] at hok2
      obtain ⟨o1, o2, o3, p1, p2, p3, pc, hfac, pg⟩ := hok2
      have hok1 : okV P F S cnt 1 good = true := by
        unfold okV
        simp only [Bool.and_eq_true, decide_eq_true_eq, inR_iff]
        exact ⟨o1, o2, o3, p1, p2, p3, pc, by decide, pg⟩
      have hf : 1 ≤ fac ∧ fac ≤ 65536 := by
        have : ∀ x ∈ pows, 1 ≤ x ∧ x ≤ 65536 := by decide
        exact this _ hfac
      have h4 : P.length ≤ 4096 ∧ F.length ≤ 4096 ∧ S.length ≤ 4096 := by omega
      have gOk_of : ∀ (D : Int), 1 ≤ D → D ≤ 65536 → gOk (g.map fun x => wrap64 (x * D)) = true := by
        intro D d0 d1
        unfold gOk allIn
        rw [Bool.and_eq_true, List.all_eq_true, decide_eq_true_eq, List.length_map]
        refine ⟨fun y hy => ?_, by omega⟩
        obtain ⟨x, hx, rfl⟩ := List.mem_map.1 hy
        obtain ⟨x0, x1⟩ := hr x hx
        have e := (near_times x D x0 x1 d0 d1).1
        rw [e]
        have b1 : x * D ≤ 127 * 65536 := by
          rcases Int.le_total 0 x with h | h
          · exact Int.mul_le_mul x1 d1 (by omega) (by omega)
          · have : x * D ≤ 0 := Int.mul_nonpos_of_nonpos_of_nonneg h (by omega)
            omega
        have b2 : -x * D ≤ 128 * 65536 := by
          rcases Int.le_total 0 (-x) with h | h
          · exact Int.mul_le_mul (by omega) d1 (by omega) (by omega)
          · have : -x * D ≤ 0 := Int.mul_nonpos_of_nonpos_of_nonneg h (by omega)
            omega
        rw [Int.neg_mul] at b2
        exact inR_iff.2 ⟨by omega, by omega⟩
      have same1 : g.map (fun x => wrap64 (x * 1)) = g := by
        conv => rhs; rw [← List.map_id g]
        exact List.map_congr_left fun x hx => by
          obtain ⟨x0, x1⟩ := hr x hx
          rw [(near_times x 1 x0 x1 (by omega) (by omega)).1]; simp
      have g1 := gOk_of 1 (by omega) (by omega)
      rw [same1] at g1
      have mapf : ((g.map fun x => wrap64 (x * fac)).map fun x => nearV x fac) = g := by
        rw [List.map_map]
        conv => rhs; rw [← List.map_id g]
        exact List.map_congr_left fun x hx => (near_times x fac (hr x hx).1 (hr x hx).2 hf.1 hf.2).2
      have map1 : (g.map fun x => nearV x 1) = g := by
        conv => rhs; rw [← List.map_id g]
        exact List.map_congr_left fun x hx => by
          have := near_times x 1 (hr x hx).1 (hr x hx).2 (by omega) (by omega)
          rw [this.1] at this
          simpa using this.2
      obtain ⟨v, w, ev, ew, e⟩ := twin_tail P F S kd s1 s2 s3 s4 keep keep2 low decay most grow cnt fac good g hl o2 o3 (by omega) g1 hm0 hm1
      refine Or.inr ⟨v, w, ?_, ?_, e⟩
      · refine step_ok P F S kd s1 s2 s3 s4 keep keep2 low decay most grow cnt fac good _ (by simpa using hgr) hb hok hc (by simpa using hl) (gOk_of fac hf.1 hf.2) h4 ?_
        rw [mapf]; exact ev
      · refine step_ok P F S kd s1 s2 s3 s4 keep keep2 low decay most grow cnt 1 good _ hgr hb hok1 hc hl g1 h4 ?_
        rw [map1]; exact ew
end
end Go.Proofs.Ytodfhokndnmdoaa.Pure
