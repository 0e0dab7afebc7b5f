/- A kernel's accesses: the model's function and the given one compute the same. -/
import Derived.Test.YtmcboiffbcnalaaPFnExactLivesx4
import Derived.Test.YtmcboiffbcnalaaPFnExactLivesx14
import Derived.Test.YtmcboiffbcnalaaEFnExactLivesa
namespace Go.Proofs.Ytmcboiffbcnalaa.Pure
open Go.RowKit Go.Proofs.Ytmcboiffbcnalaa.PFnExactLives Go.Proofs.YtmcboiffbcnalaaW.PrintWords Go.Proofs.YtmcboiffbcnalaaW.PrintLast Go.Proofs.YtmcboiffbcnalaaW.PrintMore
set_option linter.unusedSimpArgs false
set_option linter.unusedVariables false
def badC (c d : Int) : Bool := (decide (d = 1) && !(decide (c = 0))) || (decide (c < -4096) || decide (c > 4096))
def fitF (size lo hi : Int) : List Int → List Int → Bool
  | c :: cs, d :: ds => if badC c d = true then false else fitF size (lo + mn 0 (c * (d - 1))) (hi + mx 0 (c * (d - 1))) cs ds
  | _, _ => decide (0 ≤ lo) && decide (hi < size)
theorem cd {c d : Int} (h1 : -4096 ≤ c) (h2 : c ≤ 4096) (h3 : 1 ≤ d) (h4 : d ≤ 65536) : -268435456 ≤ c * (d - 1) ∧ c * (d - 1) ≤ 268435456 ∧ (c < 0 → c * (d - 1) ≤ 0) ∧ (0 ≤ c → 0 ≤ c * (d - 1)) := by
  refine ⟨?_, ?_, fun h => ?_, fun h => ?_⟩
  · have := Int.mul_le_mul_of_nonneg_right h1 (show 0 ≤ d - 1 by omega); omega
  · have := Int.mul_le_mul_of_nonneg_right h2 (show 0 ≤ d - 1 by omega); omega
  · exact Int.mul_nonpos_of_nonpos_of_nonneg (by omega) (by omega)
  · exact Int.mul_nonneg h (by omega)
theorem mn0 {x : Int} : mn 0 x = if x ≤ 0 then x else 0 := by unfold mn; split <;> split <;> omega
theorem mx0 {x : Int} : mx 0 x = if x ≤ 0 then 0 else x := by unfold mx; split <;> split <;> omega
theorem fits_loop (cs ds : List Int) (size : Int) (hc : cs.length = ds.length) (hd : ∀ d ∈ ds, 1 ≤ d ∧ d ≤ 65536) (hl : ds.length ≤ 1048576) (b off : Int) :
    ∀ i, i ≤ cs.length → ∀ lo hi : Int, -(268435456 * (i : Int)) ≤ lo → lo ≤ 1048576 → 0 ≤ hi → hi ≤ 1048576 + 268435456 * (i : Int) →
    Ev (fun k => impl_Access_fitsIn.l0 k ds size lo hi cs (cs.length : Int) (i : Int)) (fitF size lo hi (cs.drop i) (ds.drop i)) := by
  refine down (P := fun i => ∀ lo hi : Int, -(268435456 * (i : Int)) ≤ lo → lo ≤ 1048576 → 0 ≤ hi → hi ≤ 1048576 + 268435456 * (i : Int) → Ev (fun k => impl_Access_fitsIn.l0 k ds size lo hi cs (cs.length : Int) (i : Int)) (fitF size lo hi (cs.drop i) (ds.drop i))) ?_ ?_
  · intro lo hi _ _ _ _
    rw [List.drop_length, hc, List.drop_length]
    refine Ev.stop fun k => ?_
    simp only [impl_Access_fitsIn.l0, fitF]
    rw [if_neg (by omega)]
    by_cases h : lo ≥ 0
    · rw [if_pos h, decide_eq_true (by omega : 0 ≤ lo)]; rfl
    · rw [if_neg h, decide_eq_false (by omega : ¬ 0 ≤ lo)]; rfl
  · intro i hi ih lo hi2 h1 h2 h3 h4
    have hi' : i < ds.length := by omega
    rw [dropi cs i hi, dropi ds i hi', fitF]
    have hD : 1 ≤ rd ds (i : Int) ∧ rd ds (i : Int) ≤ 65536 := by rw [rd_lt ds i hi']; exact hd _ (List.getElem_mem hi')
    generalize hcc : rd cs (i : Int) = c
    generalize hdd : rd ds (i : Int) = d at hD
    have no : ∀ x : Int, Ev (fun k => impl_Access_fitsIn.j2 k ds size lo hi2 (i : Int) x cs (cs.length : Int) (i : Int) true) false := fun x => Ev.stop fun k => by simp only [impl_Access_fitsIn.j2, if_true]
    by_cases c1 : c < -4096
    · rw [if_pos (by unfold badC; simp [c1])]
      refine Ev.step (fun k => ?_) (no c)
      simp only [impl_Access_fitsIn.l0, hcc, hdd]
      rw [if_pos (by omega), if_pos (by omega), if_pos (by omega), if_pos c1]
    · by_cases c2 : c > 4096
      · rw [if_pos (by unfold badC; simp [c2])]
        refine Ev.step (fun k => ?_) (no c)
        simp only [impl_Access_fitsIn.l0, hcc, hdd]
        rw [if_pos (by omega), if_pos (by omega), if_pos (by omega), if_neg c1, if_pos c2]
      · have hcd := cd (show -4096 ≤ c by omega) (show c ≤ 4096 by omega) hD.1 hD.2
        have e1 : wrap64 (d - 1) = d - 1 := w64 (by omega) (by omega)
        have e2 : wrap64 (c * (d - 1)) = c * (d - 1) := w64 (by omega) (by omega)
        have hm := @mn0 (c * (d - 1))
        have hx := @mx0 (c * (d - 1))
        have bm : -268435456 ≤ mn 0 (c * (d - 1)) ∧ mn 0 (c * (d - 1)) ≤ 0 := by rw [hm]; split <;> omega
        have bx : 0 ≤ mx 0 (c * (d - 1)) ∧ mx 0 (c * (d - 1)) ≤ 268435456 := by rw [hx]; split <;> omega
        have go : Ev (fun k => impl_Access_fitsIn.j2 k ds size lo hi2 (i : Int) c cs (cs.length : Int) (i : Int) false) (fitF size (lo + mn 0 (c * (d - 1))) (hi2 + mx 0 (c * (d - 1))) (cs.drop (i + 1)) (ds.drop (i + 1))) := by
          refine Ev.step (fun k => ?_) (ih (lo + mn 0 (c * (d - 1))) (hi2 + mx 0 (c * (d - 1))) (by omega) (by omega) (by omega) (by omega))
          simp only [impl_Access_fitsIn.j2, hdd]
          rw [if_neg (by decide), if_pos (by omega), if_pos (by omega), e1, e2, w64 (x := lo + _) (by omega) (by omega), w64 (x := hi2 + _) (by omega) (by omega), wn i (by omega)]
        by_cases c3 : d = 1
        · by_cases c4 : c = 0
          · rw [if_neg (by unfold badC; simp [c1, c2, c4])]
            refine Ev.step (fun k => ?_) go
            simp only [impl_Access_fitsIn.l0, hcc, hdd]
            rw [if_pos (by omega), if_pos (by omega), if_pos (by omega), if_neg c1, if_neg c2, if_pos (by omega), if_pos c3, show (c != 0) = false by rw [c4]; rfl]
          · rw [if_pos (by unfold badC; simp [c3, c4])]
            refine Ev.step (fun k => ?_) (no c)
            simp only [impl_Access_fitsIn.l0, hcc, hdd]
            rw [if_pos (by omega), if_pos (by omega), if_pos (by omega), if_neg c1, if_neg c2, if_pos (by omega), if_pos c3, show (c != 0) = true from bne_iff_ne.mpr c4]
        · rw [if_neg (by unfold badC; simp [c1, c2, c3])]
          refine Ev.step (fun k => ?_) go
          simp only [impl_Access_fitsIn.l0, hcc, hdd]
          rw [if_pos (by omega), if_pos (by omega), if_pos (by omega), if_neg c1, if_neg c2, if_pos (by omega), if_neg c3]
def fitB (size off : Int) (cs ds : List Int) : Bool := decide (cs.length = ds.length) && (decide (0 ≤ off) && (decide (off < size) && fitF size off off cs ds))
theorem fits_ev (b off size : Int) (cs ds : List Int) (hd : ∀ d ∈ ds, 1 ≤ d ∧ d ≤ 65536) (hl : ds.length ≤ 1048576) (hs : size ≤ 1048576) : Ev (fun k => impl_Access_fitsIn.f k b off cs ds size) (fitB size off cs ds) := by
  have no : Ev (fun k => impl_Access_fitsIn.j0 k ds size true b off cs) false := Ev.stop fun k => by simp only [impl_Access_fitsIn.j0, if_true]
  unfold fitB
  by_cases c1 : cs.length = ds.length
  · rw [decide_eq_true c1]
    by_cases c2 : off < 0
    · rw [decide_eq_false (by omega : ¬ 0 ≤ off)]
      refine Ev.congr (fun k => ?_) no
      unfold impl_Access_fitsIn.f; rw [if_pos (by omega), if_pos c2]
    · rw [decide_eq_true (by omega : 0 ≤ off)]
      refine Ev.congr (f := fun k => impl_Access_fitsIn.j0 k ds size (decide (off ≥ size)) b off cs) (fun k => ?_) ?_
      · unfold impl_Access_fitsIn.f; rw [if_pos (by omega), if_neg c2]
      · by_cases c3 : off < size
        · rw [decide_eq_true c3, decide_eq_false (by omega : ¬ off ≥ size)]
          refine Ev.step (fun k => ?_) (fits_loop cs ds size c1 hd hl b off 0 (Nat.zero_le _) off off (by omega) (by omega) (by omega) (by omega))
          simp only [impl_Access_fitsIn.j0]; rw [if_neg (by decide)]; rfl
        · rw [decide_eq_false c3, decide_eq_true (by omega : off ≥ size)]; exact no
  · rw [decide_eq_false c1]
    refine Ev.congr (fun k => ?_) no
    unfold impl_Access_fitsIn.f; rw [if_neg (by omega)]
theorem acc_loop (cs ds ss : List Int) (hc : cs.length = ds.length) (hd : ∀ d ∈ ds, 1 ≤ d ∧ d ≤ 65536) (hl : ds.length ≤ 1048576) (b off : Int) (hb : 0 ≤ b) (hb2 : b < ss.length) :
    ∀ i, i ≤ ds.length → ∀ lo hi : Int, -(268435456 * (i : Int)) ≤ lo → lo ≤ 1048576 → 0 ≤ hi → hi ≤ 1048576 + 268435456 * (i : Int) →
    Ev (fun k => spec_l11Access.l0 k ds ss lo hi (i : Int) b off cs) (fitF (rd ss b) lo hi (cs.drop i) (ds.drop i)) := by
  refine down (P := fun i => ∀ lo hi : Int, -(268435456 * (i : Int)) ≤ lo → lo ≤ 1048576 → 0 ≤ hi → hi ≤ 1048576 + 268435456 * (i : Int) → Ev (fun k => spec_l11Access.l0 k ds ss lo hi (i : Int) b off cs) (fitF (rd ss b) lo hi (cs.drop i) (ds.drop i))) ?_ ?_
  · intro lo hi _ _ _ _
    rw [← hc, List.drop_length, hc, List.drop_length]
    refine Ev.stop fun k => ?_
    simp only [spec_l11Access.l0, fitF]
    rw [if_neg (by omega)]
    by_cases h : lo ≥ 0
    · rw [if_pos h, if_pos hb, if_pos hb2, decide_eq_true (by omega : 0 ≤ lo)]; rfl
    · rw [if_neg h, decide_eq_false (by omega : ¬ 0 ≤ lo)]; rfl
  · intro i hi ih lo hi2 h1 h2 h3 h4
    have hi' : i < cs.length := by omega
    rw [dropi cs i hi', dropi ds i hi, fitF]
    have hD : 1 ≤ rd ds (i : Int) ∧ rd ds (i : Int) ≤ 65536 := by rw [rd_lt ds i hi]; exact hd _ (List.getElem_mem hi)
    generalize hcc : rd cs (i : Int) = c
    generalize hdd : rd ds (i : Int) = d at hD
    have no : Ev (fun k => spec_l11Access.j3 k ds ss lo hi2 (i : Int) c true b off cs) false := Ev.stop fun k => by simp only [spec_l11Access.j3, if_true]
    have hl0 : ∀ k, spec_l11Access.l0 (k + 1) ds ss lo hi2 (i : Int) b off cs = if d = 1 then spec_l11Access.j2 k ds ss lo hi2 (i : Int) c (c == 0) b off cs else spec_l11Access.j2 k ds ss lo hi2 (i : Int) c false b off cs := fun k => by
      simp only [spec_l11Access.l0, hcc, hdd]
      rw [if_pos (by omega), if_pos (by omega), if_pos (by omega)]
    have hj2 : ∀ k, spec_l11Access.j2 (k + 1) ds ss lo hi2 (i : Int) c false b off cs = if d = 1 then spec_l11Access.j3 k ds ss lo hi2 (i : Int) c true b off cs else if c < -4096 then spec_l11Access.j3 k ds ss lo hi2 (i : Int) c true b off cs else spec_l11Access.j3 k ds ss lo hi2 (i : Int) c (decide (c > 4096)) b off cs := fun k => by
      simp only [spec_l11Access.j2, hdd]
      rw [if_neg (by decide), if_pos (by omega), if_pos (by omega)]
    by_cases c3 : d = 1
    · by_cases c4 : c = 0
      · rw [if_neg (by unfold badC; simp [c4])]
        refine Ev.step (f := fun k => spec_l11Access.j2 k ds ss lo hi2 (i : Int) c true b off cs) (fun k => by rw [hl0, if_pos c3, c4]; rfl) ?_
        have e0 : c * (d - 1) = 0 := by rw [c4]; omega
        rw [e0, show mn 0 0 = 0 from rfl, show mx 0 0 = 0 from rfl, Int.add_zero, Int.add_zero]
        refine Ev.step (fun k => ?_) (ih lo hi2 (by omega) (by omega) (by omega) (by omega))
        simp only [spec_l11Access.j2, if_true]
        rw [wn i (by omega)]
      · rw [if_pos (by unfold badC; simp [c3, c4])]
        refine Ev.step (f := fun k => spec_l11Access.j2 k ds ss lo hi2 (i : Int) c false b off cs) (fun k => by rw [hl0, if_pos c3, show (c == 0) = false by simpa using c4]) ?_
        exact Ev.step (fun k => by rw [hj2, if_pos c3]) no
    · refine Ev.step (f := fun k => spec_l11Access.j2 k ds ss lo hi2 (i : Int) c false b off cs) (fun k => by rw [hl0, if_neg c3]) ?_
      by_cases c1 : c < -4096
      · rw [if_pos (by unfold badC; simp [c1])]
        exact Ev.step (fun k => by rw [hj2, if_neg c3, if_pos c1]) no
      · refine Ev.step (f := fun k => spec_l11Access.j3 k ds ss lo hi2 (i : Int) c (decide (c > 4096)) b off cs) (fun k => by rw [hj2, if_neg c3, if_neg c1]) ?_
        by_cases c2 : c > 4096
        · rw [if_pos (by unfold badC; simp [c2]), decide_eq_true c2]; exact no
        · rw [if_neg (by unfold badC; simp [c1, c2, c3]), decide_eq_false c2]
          have hcd := cd (show -4096 ≤ c by omega) (show c ≤ 4096 by omega) hD.1 hD.2
          have e1 : wrap64 (d - 1) = d - 1 := w64 (by omega) (by omega)
          have e2 : wrap64 (c * (d - 1)) = c * (d - 1) := w64 (by omega) (by omega)
          have hm := @mn0 (c * (d - 1))
          have hx := @mx0 (c * (d - 1))
          by_cases c5 : c < 0
          · have s := hcd.2.2.1 c5
            rw [if_pos s] at hm hx
            rw [hm, hx, Int.add_zero]
            refine Ev.step (fun k => ?_) (ih (lo + c * (d - 1)) hi2 (by omega) (by omega) (by omega) (by omega))
            simp only [spec_l11Access.j3, hdd]
            rw [if_neg (by decide), if_pos c5, if_pos (by omega), if_pos (by omega), e1, e2, w64 (x := lo + _) (by omega) (by omega), wn i (by omega)]
          · have s := hcd.2.2.2 (by omega)
            have hm' : mn 0 (c * (d - 1)) = 0 := by rw [hm]; split <;> omega
            have hx' : mx 0 (c * (d - 1)) = c * (d - 1) := by rw [hx]; split <;> omega
            rw [hm', hx', Int.add_zero]
            refine Ev.step (fun k => ?_) (ih lo (hi2 + c * (d - 1)) (by omega) (by omega) (by omega) (by omega))
            simp only [spec_l11Access.j3, hdd]
            rw [if_neg (by decide), if_neg c5, if_pos (by omega), if_pos (by omega), e1, e2, w64 (x := hi2 + _) (by omega) (by omega), wn i (by omega)]
def accB (ss ds : List Int) (b off : Int) (cs : List Int) : Bool := decide (0 ≤ b) && (decide (b < ss.length) && fitB (rd ss b) off cs ds)
theorem acc_ev (ss ds : List Int) (b off : Int) (cs : List Int) (hd : ∀ d ∈ ds, 1 ≤ d ∧ d ≤ 65536) (hl : ds.length ≤ 1048576) (hs : ∀ s ∈ ss, s ≤ 4096) : Ev (fun k => spec_l11Access.f k b off cs ds ss) (accB ss ds b off cs) := by
  have no : Ev (fun k => spec_l11Access.j0 k ds ss true b off cs) false := Ev.stop fun k => by simp only [spec_l11Access.j0, if_true]
  unfold accB fitB
  by_cases c1 : b < 0
  · rw [decide_eq_false (by omega : ¬ 0 ≤ b)]
    refine Ev.congr (fun k => ?_) no
    unfold spec_l11Access.f; rw [if_pos c1]
  · rw [decide_eq_true (by omega : 0 ≤ b)]
    by_cases c2 : b ≥ ss.length
    · rw [decide_eq_false (by omega : ¬ b < ss.length)]
      refine Ev.congr (fun k => ?_) no
      unfold spec_l11Access.f; rw [if_neg c1, if_pos c2]
    · rw [decide_eq_true (by omega : b < ss.length)]
      by_cases c3 : cs.length = ds.length
      · rw [decide_eq_true c3]
        by_cases c4 : off < 0
        · rw [decide_eq_false (by omega : ¬ 0 ≤ off)]
          refine Ev.congr (fun k => ?_) no
          unfold spec_l11Access.f; rw [if_neg c1, if_neg c2, if_pos (by omega), if_pos c4]
        · rw [decide_eq_true (by omega : 0 ≤ off)]
          refine Ev.congr (f := fun k => spec_l11Access.j0 k ds ss (decide (off ≥ rd ss b)) b off cs) (fun k => ?_) ?_
          · unfold spec_l11Access.f; rw [if_neg c1, if_neg c2, if_pos (by omega), if_neg c4, if_pos (by omega), if_pos (by omega)]
          · by_cases c5 : off < rd ss b
            · rw [decide_eq_true c5, decide_eq_false (by omega : ¬ off ≥ rd ss b)]
              have hsb : rd ss b ≤ 4096 := by
                have e : rd ss b = ss[b.toNat]'(by omega) := by
                  rw [← rd_lt ss b.toNat (by omega), Int.toNat_of_nonneg (by omega)]
                rw [e]; exact hs _ (List.getElem_mem _)
              refine Ev.step (fun k => ?_) (acc_loop cs ds ss c3 hd hl b off (by omega) (by omega) 0 (Nat.zero_le _) off off (by omega) (by omega) (by omega) (by omega))
              simp only [spec_l11Access.j0]; rw [if_neg (by decide)]; rfl
            · rw [decide_eq_false c5, decide_eq_true (by omega : off ≥ rd ss b)]; exact no
      · rw [decide_eq_false c3]
        refine Ev.congr (fun k => ?_) no
        unfold spec_l11Access.f; rw [if_neg c1, if_neg c2, if_neg (by omega)]

end Go.Proofs.Ytmcboiffbcnalaa.Pure
