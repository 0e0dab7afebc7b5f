/- The draws: each tells something, for every code; the cursor stays within the code. -/
import Derived.Test.YtodfhokndnmdoaaEFnFactord
import Derived.Test.YtodfhokndnmdoaaPFnFactorx15
namespace Go.Proofs.Ytodfhokndnmdoaa.Pure
open Go.RowKit Go.Proofs.Ytodfhokndnmdoaa.PFnFactor Go.Proofs.YtodfhokndnmdoaaW.PrintWords Go.Proofs.YtodfhokndnmdoaaW.PrintLast Go.Proofs.YtodfhokndnmdoaaW.PrintMore
set_option linter.unusedSimpArgs false
set_option linter.unusedVariables false

/-- It tells, in the end, something of which Q holds. -/
def Gd {α : Type} (Q : α → Prop) (g : Nat → Option α) : Prop := ∃ v, Ev g v ∧ Q v
theorem Gd.bind {α β : Type} {P : α → Prop} {Q : β → Prop} {x : Nat → Option α} {y : Nat → α → Option β} (hx : Gd P x) (h : ∀ a, P a → Gd Q (fun k => y k a)) : Gd Q (fun k => (x k).bind (y k)) := by
  obtain ⟨a, ha, pa⟩ := hx
  obtain ⟨v, hv, qv⟩ := h a pa
  exact ⟨v, Ev.bind ha hv, qv⟩
theorem Gd.now {α : Type} {Q : α → Prop} (v : α) (h : Q v) : Gd Q (fun _ => some v) := ⟨v, Ev.now v, h⟩
theorem Gd.congr {α : Type} {Q : α → Prop} {g f : Nat → Option α} (hf : Gd Q f) (h : ∀ k, g k = f k) : Gd Q g := by
  obtain ⟨v, a, b⟩ := hf
  exact ⟨v, Ev.congr h a, b⟩
theorem Gd.step {α : Type} {Q : α → Prop} {g f : Nat → Option α} (hf : Gd Q f) (h : ∀ k, g (k + 1) = f k) : Gd Q g := by
  obtain ⟨v, a, b⟩ := hf
  exact ⟨v, Ev.step h a, b⟩
theorem Gd.ite {α : Type} {Q : α → Prop} {g f : Nat → Option α} {c : Prop} [Decidable c] (h1 : c → Gd Q g) (h2 : ¬ c → Gd Q f) : Gd Q (fun k => if c then g k else f k) := by
  by_cases h : c
  · exact (h1 h).congr fun k => by rw [if_pos h]
  · exact (h2 h).congr fun k => by rw [if_neg h]
theorem mask255 (a : Int) : 0 ≤ Go.bits .and .i64 a 255 := by
  simp only [Go.bits, BitVec.toNat_and]
  have h : (BitVec.ofInt IntKind.i64.bits 255).toNat = 255 := by decide
  rw [h, IntKind.wrap_i64]
  have := Nat.and_le_right (n := (BitVec.ofInt IntKind.i64.bits a).toNat) (m := 255)
  omega
section
variable (c : List Int)
def Cur (i : Int) : Prop := 0 ≤ i ∧ i ≤ (c.length : Int)
theorem byte_some (hc : c.length ≤ 1048576) {i : Int} (s : Int) (h : Cur c i) : ∃ r, spec_l1Byte.f c i s = some r ∧ 0 ≤ r.1 ∧ Cur c r.2.1 := by
  unfold spec_l1Byte.f Cur at *
  by_cases h1 : i < (c.length : Int)
  · rw [if_pos h1, if_pos h.1]
    exact ⟨_, rfl, mask255 _, by dsimp only; rw [w64 (by omega) (by omega)]; omega, by dsimp only; rw [w64 (by omega) (by omega)]; omega⟩
  · rw [if_neg h1]
    exact ⟨_, rfl, mask255 _, h⟩
def Bl (n : Int) (r : Int × Int × Int) : Prop := Cur c r.2.1 ∧ (n ≤ 256 → 0 ≤ r.1) ∧ (0 < n → r.1 < n)
theorem below_some (hc : c.length ≤ 1048576) {i : Int} (s n : Int) (h : Cur c i) : ∃ r, spec_l1Below.f c i s n = some r ∧ Bl c n r := by
  unfold spec_l1Below.f Bl
  by_cases h1 : n ≤ 0
  · rw [if_pos h1]
    exact ⟨_, rfl, h, fun _ => Int.le_refl _, fun _ => by omega⟩
  rw [if_neg h1]
  obtain ⟨a, ea, a0, ca⟩ := byte_some c hc s h
  by_cases h2 : n ≤ 256
  · rw [if_pos h2, ea, Option.bind_some, if_neg (by omega)]
    exact ⟨_, rfl, ca, fun _ => Int.tmod_nonneg _ a0, fun _ => Int.tmod_lt_of_pos _ (by omega)⟩
  rw [if_neg h2, ea, Option.bind_some]
  obtain ⟨b, eb, b0, cb⟩ := byte_some c hc a.2.2 ca
  rw [eb, Option.bind_some]
  obtain ⟨d, ed, d0, cd⟩ := byte_some c hc b.2.2 cb
  rw [ed, Option.bind_some]
  obtain ⟨e, ee, e0, ce⟩ := byte_some c hc d.2.2 cd
  rw [ee, Option.bind_some, if_neg (by omega)]
  exact ⟨_, rfl, ce, fun _ => by omega, fun _ => Int.tmod_lt_of_pos _ (by omega)⟩
theorem Gd.of {α : Type} {Q : α → Prop} {o : Option α} (h : ∃ r, o = some r ∧ Q r) : Gd Q (fun _ => o) := by
  obtain ⟨r, e, q⟩ := h
  exact (Gd.now r q).congr fun _ => e
theorem below (hc : c.length ≤ 1048576) {i : Int} (s n : Int) (h : Cur c i) : Gd (Bl c n) (fun _ => spec_l1Below.f c i s n) := Gd.of (below_some c hc s n h)
theorem once (hc : c.length ≤ 1048576) {i : Int} (s n : Int) (h : Cur c i) : Gd (fun r => Cur c r.2.1) (fun _ => spec_l1Once.f c i s n) := by
  unfold spec_l1Once.f
  exact Gd.bind (below c hc s n h) fun a ha => Gd.now _ ha.1
theorem pick (hc : c.length ≤ 1048576) {i : Int} (s : Int) (l : List Int) (hl : l.length ≤ 256) (h0 : 0 < l.length) (h : Cur c i) : Gd (fun r => Cur c r.2.1) (fun _ => spec_l1PickInt.f c i s l) := by
  unfold spec_l1PickInt.f
  refine Gd.bind (below c hc s _ h) fun a ha => ?_
  obtain ⟨h1, h2, h3⟩ := ha
  exact Gd.ite (fun _ => Gd.ite (fun _ => Gd.now _ h1) (fun hn => absurd (h3 (by omega)) hn)) (fun hn => absurd (h2 (by omega)) hn)
theorem sched (hc : c.length ≤ 1048576) {i : Int} (s : Int) (h : Cur c i) : Gd (fun r => Cur c r.2.2.2.2.1) (fun k => spec_l15DrawSched.f k c i s) := by
  have j0 : ∀ {i : Int} (s y z u e : Int), Cur c i → Gd (fun r => Cur c r.2.2.2.2.1) (fun k => spec_l15DrawSched.j0 k c i s y z u e) := by
    intro i s y z u e h
    refine Gd.step ?_ (fun k => by rw [spec_l15DrawSched.j0])
    refine Gd.bind (once c hc s _ h) fun a ha => Gd.ite (fun _ => ?_) (fun _ => Gd.now _ ha)
    exact Gd.bind (pick c hc _ _ (by simp) (by simp) ha) fun b hb => Gd.now _ hb
  unfold spec_l15DrawSched.f
  refine Gd.bind (below c hc s _ h) fun a ha => Gd.bind (below c hc _ _ ha.1) fun b hb => Gd.bind (below c hc _ _ hb.1) fun d hd => Gd.bind (below c hc _ _ hd.1) fun e he => Gd.bind (once c hc _ _ he.1) fun f hf => ?_
  refine Gd.ite (fun _ => ?_) (fun _ => j0 _ _ _ _ _ hf)
  exact Gd.bind (pick c hc _ _ (by simp) (by simp) hf) fun g hg => j0 _ _ _ _ _ hg
abbrev R13 := Int × Int × Int × Int × Int × Int × Int × Int × Int × Int × Int × Int × Int
def C12 (r : R13) : Prop := Cur c r.2.2.2.2.2.2.2.2.2.2.2.1
theorem rule (hc : c.length ≤ 1048576) {i : Int} (s : Int) (h : Cur c i) : Gd (C12 c) (fun k => spec_l15DrawRule.f k c i s) := by
  have j2 : ∀ {i : Int} (s a1 a2 a3 a4 a5 a6 a7 a8 a9 a10 a11 : Int), Cur c i → Gd (C12 c) (fun k => spec_l15DrawRule.j2 k c i s a1 a2 a3 a4 a5 a6 a7 a8 a9 a10 a11) := by
    intro i s a1 a2 a3 a4 a5 a6 a7 a8 a9 a10 a11 h
    refine Gd.step ?_ (fun k => by rw [spec_l15DrawRule.j2])
    refine Gd.bind (once c hc s _ h) fun a ha => Gd.ite (fun _ => ?_) (fun _ => Gd.now _ ha)
    refine Gd.bind (below c hc _ _ ha) fun b hb => ?_
    refine Gd.ite (fun _ => Gd.bind (pick c hc _ _ (by simp) (by simp) hb.1) fun d hd => Gd.now _ hd) (fun _ => ?_)
    refine Gd.ite (fun _ => Gd.now _ hb.1) (fun _ => ?_)
    refine Gd.ite (fun _ => Gd.now _ hb.1) (fun _ => ?_)
    refine Gd.ite (fun _ => Gd.now _ hb.1) (fun _ => ?_)
    exact Gd.ite (fun _ => Gd.now _ hb.1) (fun _ => Gd.now _ hb.1)
  have j1 : ∀ {i : Int} (s a1 a2 a3 a4 a5 a6 a7 a8 a9 a10 a11 : Int), Cur c i → Gd (C12 c) (fun k => spec_l15DrawRule.j1 k c i s a1 a2 a3 a4 a5 a6 a7 a8 a9 a10 a11) := by
    intro i s a1 a2 a3 a4 a5 a6 a7 a8 a9 a10 a11 h
    refine Gd.step ?_ (fun k => by rw [spec_l15DrawRule.j1])
    refine Gd.bind (once c hc s _ h) fun a ha => Gd.ite (fun _ => ?_) (fun _ => j2 _ _ _ _ _ _ _ _ _ _ _ _ ha)
    exact Gd.bind (below c hc _ _ ha) fun b hb => j2 _ _ _ _ _ _ _ _ _ _ _ _ hb.1
  have j0 : ∀ {i : Int} (s a1 a2 a3 a4 a5 a6 a7 a8 a9 a10 a11 : Int), Cur c i → Gd (C12 c) (fun k => spec_l15DrawRule.j0 k c i s a1 a2 a3 a4 a5 a6 a7 a8 a9 a10 a11) := by
    intro i s a1 a2 a3 a4 a5 a6 a7 a8 a9 a10 a11 h
    refine Gd.step ?_ (fun k => by rw [spec_l15DrawRule.j0])
    refine Gd.bind (once c hc s _ h) fun a ha => Gd.ite (fun _ => ?_) (fun _ => j1 _ _ _ _ _ _ _ _ _ _ _ _ ha)
    exact Gd.bind (below c hc _ _ ha) fun b hb => j1 _ _ _ _ _ _ _ _ _ _ _ _ hb.1
  unfold spec_l15DrawRule.f
  refine Gd.bind (below c hc s _ h) fun a ha => Gd.bind (sched c hc _ ha.1) fun b hb => Gd.bind (below c hc _ _ hb) fun d hd => Gd.bind (below c hc _ _ hd.1) fun e he => Gd.bind (below c hc _ _ he.1) fun f hf => Gd.bind (once c hc _ _ hf.1) fun g hg => ?_
  refine Gd.ite (fun _ => ?_) (fun _ => j0 _ _ _ _ _ _ _ _ _ _ _ _ hg)
  exact Gd.bind (below c hc _ _ hg) fun l hl => j0 _ _ _ _ _ _ _ _ _ _ _ _ hl.1
abbrev R8 := List Int × List Int × List Int × Int × Int × Int × Int × Int
def C7 (r : R8) : Prop := r.1.length ≤ 16 ∧ Cur c r.2.2.2.2.2.2.1
theorem opt (hc : c.length ≤ 1048576) {i : Int} (s : Int) (h : Cur c i) : Gd (C7 c) (fun k => spec_l15DrawOpt.f k c i s) := by
  have j1 : ∀ (b : Bool) {i : Int} (s : Int) (p f q : List Int) (a1 a2 a3 : Int), p.length ≤ 16 → f.length = p.length → q.length = p.length → (b = true → 0 < p.length) → Cur c i → Gd (C7 c) (fun k => spec_l15DrawOpt.j1 k b c i s p f q a1 a2 a3) := by
    intro b i s p f q a1 a2 a3 hp hf hq hb h
    refine Gd.step ?_ (fun k => by rw [spec_l15DrawOpt.j1])
    refine Gd.ite (fun e => ?_) (fun _ => Gd.now _ ⟨hp, h⟩)
    have h0 := hb e
    refine Gd.bind (below c hc _ _ h) fun a ha => ?_
    refine Gd.ite (fun _ => Gd.bind (pick c hc _ _ (by simp) (by simp) ha.1) fun d hd => Gd.ite (fun _ => Gd.now _ ⟨by simpa using hp, hd⟩) (fun hn => absurd (by omega) hn)) (fun _ => ?_)
    refine Gd.ite (fun _ => Gd.bind (pick c hc _ _ (by simp) (by simp) ha.1) fun d hd => Gd.ite (fun _ => Gd.now _ ⟨hp, hd⟩) (fun hn => absurd (by omega) hn)) (fun _ => ?_)
    refine Gd.ite (fun _ => Gd.bind (pick c hc _ _ (by simp) (by simp) ha.1) fun d hd => Gd.ite (fun _ => Gd.now _ ⟨hp, hd⟩) (fun hn => absurd (by omega) hn)) (fun _ => ?_)
    refine Gd.ite (fun _ => Gd.bind (pick c hc _ _ (by simp) (by simp) ha.1) fun d hd => Gd.now _ ⟨hp, hd⟩) (fun _ => ?_)
    refine Gd.ite (fun _ => Gd.bind (pick c hc _ _ (by simp) (by simp) ha.1) fun d hd => Gd.now _ ⟨hp, hd⟩) (fun _ => ?_)
    exact Gd.ite (fun _ => Gd.ite (fun _ => Gd.now _ ⟨hp, ha.1⟩) (fun hn => absurd (by omega) hn)) (fun _ => Gd.now _ ⟨hp, ha.1⟩)
  have l0 : ∀ (n : Nat) (u : Int) {i : Int} (s : Int) (p f q : List Int) (a1 a2 a3 : Int), u ≤ n → n + p.length ≤ 16 → f.length = p.length → q.length = p.length → Cur c i → Gd (C7 c) (fun k => spec_l15DrawOpt.l0 k u c i s p f q a1 a2 a3) := by
    intro n
    induction n with
    | zero =>
      intro u i s p f q a1 a2 a3 hu hn hf hq h
      refine Gd.step ?_ (fun k => by rw [spec_l15DrawOpt.l0, if_neg (by omega)])
      refine Gd.bind (once c hc _ _ h) fun a ha => Gd.ite (fun _ => j1 _ _ _ _ _ _ _ _ (by omega) hf hq (fun e => by have := of_decide_eq_true e; omega) ha) (fun _ => j1 _ _ _ _ _ _ _ _ (by omega) hf hq (fun e => by cases e) ha)
    | succ n ih =>
      intro u i s p f q a1 a2 a3 hu hn hf hq h
      by_cases c0 : u > 0
      · refine Gd.step ?_ (fun k => by rw [spec_l15DrawOpt.l0, if_pos c0])
        refine Gd.bind (below c hc _ _ h) fun a ha => ?_
        refine Gd.ite (fun _ => Gd.bind (below c hc _ _ ha.1) fun b hb => ?_) (fun hn => absurd (by omega) hn)
        refine Gd.ite (fun _ => Gd.bind (below c hc _ _ hb.1) fun d hd => ?_) (fun hn => absurd (by omega) hn)
        refine Gd.ite (fun _ => ?_) (fun hn => absurd (by omega) hn)
        by_cases cu : u ≤ 4611686018427387904
        · exact ih _ _ _ _ _ _ _ _ (by rw [w64 (by omega) (by omega)]; omega) (by simp; omega) (by simp; omega) (by simp; omega) hd.1
        · omega
      · refine Gd.step ?_ (fun k => by rw [spec_l15DrawOpt.l0, if_neg c0])
        refine Gd.bind (once c hc _ _ h) fun a ha => Gd.ite (fun _ => j1 _ _ _ _ _ _ _ _ (by omega) hf hq (fun e => by have := of_decide_eq_true e; omega) ha) (fun _ => j1 _ _ _ _ _ _ _ _ (by omega) hf hq (fun e => by cases e) ha)
  unfold spec_l15DrawOpt.f
  refine Gd.bind (below c hc s _ h) fun a ha => ?_
  refine Gd.ite (fun _ => ?_) (fun hn => absurd (by rw [show IntKind.u64.wrap a.1 = a.1 % 18446744073709551616 from by simp [IntKind.wrap, IntKind.bits, IntKind.signed]]; omega) hn)
  refine Gd.bind (below c hc _ _ ha.1) fun b hb => Gd.bind (below c hc _ _ hb.1) fun d hd => Gd.bind (below c hc _ _ hd.1) fun e he => ?_
  exact l0 6 _ _ _ _ _ _ _ _ (by have := he.2.2 (by omega); omega) (by simp) rfl rfl he.1
theorem grad (hc : c.length ≤ 1048576) : ∀ (n : Nat) (u : Int) {i : Int} (s : Int) (z : List Int), u ≤ n → n ≤ 64 → n + z.length ≤ 64 → Cur c i → Gd (fun _ => True) (fun k => spec_l15DrawGrad.l0 k u z c i s) := by
  have e : ∀ {i : Int} (s : Int) (z : List Int), Cur c i → Gd (fun _ => True) (fun _ => (spec_l1Once.f c i s 12).bind fun u => (if u.1 = true then (if (z.length : Int) > 0 then ((spec_l1PickInt.f c u.2.1 u.2.2 (([16777217, (-16777217), 4611686018427387904] : List Int))).bind fun E => (if 0 < (z.length : Int) then (some ((z.set (0 : Int).toNat E.1), E.2.1, E.2.2)) else (none))) else (some (z, u.2.1, u.2.2))) else (some (z, u.2.1, u.2.2)))) := by
    intro i s z h
    refine Gd.bind (once c hc _ _ h) fun a ha => Gd.ite (fun _ => Gd.ite (fun hz => ?_) (fun _ => Gd.now _ trivial)) (fun _ => Gd.now _ trivial)
    exact Gd.bind (pick c hc _ _ (by simp) (by simp) ha) fun d hd => Gd.ite (fun _ => Gd.now _ trivial) (fun hn => absurd hz hn)
  intro n
  induction n with
  | zero =>
    intro u i s z hu _ hn h
    exact Gd.step (e s z h) (fun k => by rw [spec_l15DrawGrad.l0, if_neg (by omega)])
  | succ n ih =>
    intro u i s z hu h64 hn h
    by_cases c0 : u > 0
    · refine Gd.step ?_ (fun k => by rw [spec_l15DrawGrad.l0, if_pos c0])
      refine Gd.bind (below c hc _ _ h) fun a ha => Gd.bind (once c hc _ _ ha.1) fun b hb => ?_
      refine Gd.ite (fun _ => Gd.bind (pick c hc _ _ (by simp) (by simp) hb) fun d hd => Gd.ite (fun _ => ?_) (fun hn => absurd (by omega) hn)) (fun _ => Gd.ite (fun _ => ?_) (fun hn => absurd (by omega) hn))
      · exact ih _ _ _ (by rw [w64 (by omega) (by omega)]; omega) (by omega) (by simp; omega) hd
      · exact ih _ _ _ (by rw [w64 (by omega) (by omega)]; omega) (by omega) (by simp; omega) hb
    · exact Gd.step (e s z h) (fun k => by rw [spec_l15DrawGrad.l0, if_neg c0])
theorem new_ev (hc : c.length ≤ 1048576) : ∀ (n : Nat) (u y : Int), 0 ≤ u → (c.length : Int) - u ≤ n → Gd (fun r => r.1 = c ∧ r.2.1 = 0) (fun k => spec_l1New.l0 k c y u) := by
  intro n
  induction n with
  | zero => intro u y h0 h1; exact Gd.step (Gd.now (c, 0, y) ⟨rfl, rfl⟩) (fun k => by rw [spec_l1New.l0, if_neg (by omega)])
  | succ n ih =>
    intro u y h0 h1
    by_cases c1 : u < (c.length : Int)
    · by_cases c2 : u < 4000
      · refine Gd.step ?_ (fun k => by rw [spec_l1New.l0, if_pos c1, if_pos c2, if_pos h0])
        exact ih _ _ (by rw [w64 (by omega) (by omega)]; omega) (by rw [w64 (by omega) (by omega)]; omega)
      · exact Gd.step (Gd.now (c, 0, y) ⟨rfl, rfl⟩) (fun k => by rw [spec_l1New.l0, if_pos c1, if_neg c2])
    · exact Gd.step (Gd.now (c, 0, y) ⟨rfl, rfl⟩) (fun k => by rw [spec_l1New.l0, if_neg c1])
abbrev R18 := Int × Int × Int × Int × Int × Int × Int × Int × Int × Int × Int × List Int × List Int × List Int × Int × Int × Int × List Int
theorem draw_ev (hc : c.length ≤ 1048576) : Gd (fun r : R18 => r.2.2.2.2.2.2.2.2.2.2.2.1.length ≤ 16) (fun k => spec_DrawStepOpt.f k c) := by
  unfold spec_DrawStepOpt.f spec_l1New.f spec_l15DrawGrad.f
  refine Gd.bind (new_ev c hc c.length 0 _ (by omega) (by omega)) fun y hy => ?_
  obtain ⟨y1, y2, y3⟩ := y
  obtain ⟨rfl, h2⟩ := hy
  dsimp only at h2 ⊢
  subst h2
  refine Gd.bind (rule y1 hc y3 ⟨by omega, by omega⟩) fun q hq => Gd.bind (opt y1 hc _ hq) fun u hu => Gd.bind (below y1 hc _ _ hu.2) fun z hz => ?_
  have hz2 := hz.2.2 (by omega)
  have hz1 := hz.2.1 (by omega)
  have hu1 := hu.1
  have ht : 0 ≤ Int.tdiv z.1 39 ∧ Int.tdiv z.1 39 ≤ 1 := by rw [Int.tdiv_eq_ediv_of_nonneg hz1]; omega
  refine Gd.bind (grad y1 hc 20 _ _ _ (by rw [w64 (x := Int.tdiv z.1 39) (by omega) (by omega), w64 (by omega) (by omega)]; omega) (by omega) (by simp) hz.1) fun a _ => ?_
  exact Gd.now _ hu1
end
end Go.Proofs.Ytodfhokndnmdoaa.Pure
