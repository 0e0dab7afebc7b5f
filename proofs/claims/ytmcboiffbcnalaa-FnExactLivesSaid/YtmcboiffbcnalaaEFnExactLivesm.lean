/- Marks: whole numbers written into records that are the call's own: what was read before reads on, but for its whole numbers and truth values. -/
import Derived.Test.YtmcboiffbcnalaaPFnExactLivesx1
import Derived.Test.YtmcboiffbcnalaaXFnExactLivesKept
namespace Go.Proofs.Ytmcboiffbcnalaa.Marks
open Go.RowKit Go.Proofs.Ytmcboiffbcnalaa.PFnExactLives Go.Proofs.YtmcboiffbcnalaaW.PrintWords Go.Proofs.YtmcboiffbcnalaaW.PrintLast Go.Proofs.YtmcboiffbcnalaaW.PrintMore
attribute [local go_sem] max2_int min2_int max_two min_two max_three min_three max_four min_four
def Marked (ok : Nat → Prop) (w0 w : World) : Prop :=
  ((w0.heap.size ≤ w.heap.size ∧ w.os = w0.os ∧ w.tape = w0.tape ∧ w.output = w0.output) ∧ ∀ i, i < w0.heap.size → ¬ ok i → w.heap[i]? = w0.heap[i]?) ∧
  (∀ p v, w0.cell? p = some v → ∃ v', w.cell? p = some v' ∧ (v' = v ∨ (∃ t a b, v = .int t a ∧ v' = .int t b) ∨ ∃ a b, v = .bool a ∧ v' = .bool b)) ∧
  ∀ p v, w0.cell? p = some v → w0.frozen? p = false → w.frozen? p = false
section
variable {ok : Nat → Prop} {w0 w : World}
theorem Marked.refl : Marked ok w0 w0 := ⟨⟨⟨Nat.le_refl _, rfl, rfl, rfl⟩, fun _ _ _ => rfl⟩, fun _ v h => ⟨v, h, .inl rfl⟩, fun _ _ _ h => h⟩
theorem Marked.drewN (h : Marked ok w0 w) (n : Nat) : Marked ok w0 (w.drewN n) := h
theorem Marked.drew (h : Marked ok w0 w) : Marked ok w0 w.drew := h
theorem Marked.slice (h : Marked ok w0 w) {p : Addr} {A : Option Addr} {n c : Nat} (hc : w0.cell? p = some (.slice A n c)) : w.cell? p = some (.slice A n c) := by
  obtain ⟨v', h1, h2⟩ := h.2.1 p _ hc
  rcases h2 with rfl | ⟨t, a, b, h2, _⟩ | ⟨a, b, h2, _⟩
  · exact h1
  · cases h2
  · cases h2
theorem Marked.int (h : Marked ok w0 w) {p : Addr} {t : IntKind} {a : Int} (hc : w0.cell? p = some (.int t a)) : ∃ b, w.cell? p = some (.int t b) := by
  obtain ⟨v', h1, h2⟩ := h.2.1 p _ hc
  rcases h2 with rfl | ⟨t', a', b, h2, rfl⟩ | ⟨a, b, h2, _⟩
  · exact ⟨_, h1⟩
  · cases h2; exact ⟨_, h1⟩
  · cases h2
theorem Marked.bool (h : Marked ok w0 w) {p : Addr} {a : Bool} (hc : w0.cell? p = some (.bool a)) : ∃ b, w.cell? p = some (.bool b) := by
  obtain ⟨v', h1, h2⟩ := h.2.1 p _ hc
  rcases h2 with rfl | ⟨t', a', b, h2, rfl⟩ | ⟨a, b, h2, rfl⟩
  · exact ⟨_, h1⟩
  · cases h2
  · exact ⟨_, h1⟩
theorem Marked.put (h : Marked ok w0 w) {p : Addr} {v0 v1 v : Value} (hc : w0.cell? p = some v0) (hp : ok p.block) (hv : (v = v0 ∨ (∃ t a b, v0 = .int t a ∧ v = .int t b) ∨ ∃ a b, v0 = .bool a ∧ v = .bool b)) (hw : w.cell? p = some v1) : Marked ok w0 (w.setCell p v) := by
  obtain ⟨⟨h1, h2⟩, h3, h4⟩ := h
  refine ⟨⟨?_, fun i hi hn => ?_⟩, fun q u hq => ?_, fun q u hq hf => ?_⟩
  · exact ⟨by simpa [World.setCell] using h1.1, h1.2.1, h1.2.2.1, h1.2.2.2⟩
  · exact (Below.heap_setCell w p v i (fun e => hn (e ▸ hp))).trans (h2 i hi hn)
  · by_cases e : q = p
    · subst e
      rw [hc] at hq; cases hq
      exact ⟨v, World.cell?_setCell_same w _ _ hw, hv⟩
    · rw [World.cell?_setCell_other _ _ _ _ (fun e' => e e'.symm)]; exact h3 q u hq
  · rw [World.frozen?_setCell]; exact h4 q u hq hf
theorem Marked.setInt (h : Marked ok w0 w) {p : Addr} {t : IntKind} {a : Int} (hc : w0.cell? p = some (.int t a)) (hp : ok p.block) (b : Int) : Marked ok w0 (w.setCell p (.int t b)) := by
  obtain ⟨x, hx⟩ := h.int hc
  exact h.put hc hp (.inr (.inl ⟨t, a, b, rfl, rfl⟩)) hx
theorem Marked.setBool (h : Marked ok w0 w) {p : Addr} {a : Bool} (hc : w0.cell? p = some (.bool a)) (hp : ok p.block) (b : Bool) : Marked ok w0 (w.setCell p (.bool b)) := by
  obtain ⟨x, hx⟩ := h.bool hc
  exact h.put hc hp (.inr (.inr ⟨a, b, rfl, rfl⟩)) hx
end
theorem w64' {x : Int} (h1 : -9223372036854775808 ≤ x) (h2 : x ≤ 9223372036854775807) : wrap64 x = x := by
  unfold wrap64; omega
set_option maxHeartbeats 8000000
set_option maxRecDepth 100000
theorem markInt (ok ok' : Nat → Prop) (w0 : World) (base : Nat) (v : Value) (l : List Int) (hR : Kd.R (Kd.int .i64) 3 w0 base ok' v l) (hok : ∀ k, ok' k → ok k) (w : World) (hm : Marked ok w0 w) (a : Int) (h0 : 0 ≤ a) (h1 : a + l.length ≤ 4611686018427387904) :
    Calls Try.prog 35 #[v, .int .i64 a] w fun e w' => e = .returned (.int .i64 (a + l.length)) ∧ Marked ok w0 w' := by
  have HM := Aside0.mk hm
  have HR := Aside0.mk hR
  obtain ⟨A, c, rfl⟩ := Kd.R_slice hR
  have HA := Aside0.mk h0
  have HL := Aside0.mk h1
  clear hm hR h0 h1
  go_enter Try.func35, Try.ntmps35
  go_wp2
  go_loopg [1, 5] l.length (fun kq v1 v5 w' => ∃ (i : Int), v1 = .int .i64 (a + i) ∧ v5 = .int .i64 i ∧ Aside0 (0 ≤ i ∧ i + kq = l.length) ∧ Aside0 (Marked ok w0 w'))
  case atStart => exact ⟨0, by rw [Int.add_zero], rfl, ⟨⟨Int.le_refl _, by omega⟩⟩, HM⟩
  case round =>
    obtain ⟨i, rfl, rfl, HI, HW⟩ := hrel
    by_cases c3 : i < (l.length : Int)
    · have c3b := decide_eq_true c3
      have hi := HI.out.1
      obtain ⟨g, c', e, gb, gl, cl, HG⟩ := Kd.R_form HR.out (by omega)
      cases e
      obtain ⟨hx0, hf0⟩ := Kd.R_celln 0 HR.out i hi c3
      obtain ⟨y, hx⟩ := HW.out.int hx0
      have hf := HW.out.2.2 _ _ hx0 hf0
      have HN := Aside0.mk (HW.out.setInt hx0 (hok _ (HR.out.1 _ rfl)) (a + i))
      have q1 := eq_true hi
      have q2 := eq_true c3
      have e1 : wrap64 (a + i + 1) = a + (i + 1) := by have := HA.out; have := HL.out; rw [w64' (by omega) (by omega)]; omega
      have e2 : wrap64 (i + 1) = i + 1 := by have := HA.out; have := HL.out; rw [w64' (by omega) (by omega)]
      clear hx0 hf0 HG cl gb gl c3 hi
      go_wp2
      go_roundg (gk - 1)
      case measure => have := HI.out; have := of_eq_true q2; omega
      case rel => exact ⟨i + 1, by rw [e1], by rw [e2], ⟨by have := HI.out; have := of_eq_true q2; omega⟩, by first | exact HN | exact ⟨HN.out.drewN _⟩⟩
    · have c3b := decide_eq_false c3
      have hi := HI.out
      clear c3
      go_wp2
      go_ret
      exact ⟨by rw [show i = (l.length : Int) by have := of_decide_eq_false c3b; omega]; rfl, by first | exact HW.out | exact HW.out.drewN _⟩
theorem markCalc (ok ok' : Nat → Prop) (w0 : World) (base : Nat) (v : Value) (l : List S122) (hR : Kd.R k122 122 w0 base ok' v l) (hok : ∀ k, ok' k → ok k) (w : World) (hm : Marked ok w0 w) (a : Int) (h0 : 0 ≤ a) (h1 : a + 3 * l.length ≤ 4611686018427387904) :
    Calls Try.prog 60 #[v, .int .i64 a] w fun e w' => e = .returned (.int .i64 (a + 3 * l.length)) ∧ Marked ok w0 w' := by
  have HM := Aside0.mk hm
  have HR := Aside0.mk hR
  obtain ⟨A, c, rfl⟩ := Kd.R_slice hR
  have HA := Aside0.mk h0
  have HL := Aside0.mk h1
  clear hm hR h0 h1
  go_enter Try.func60, Try.ntmps60
  go_wp2
  go_loopg [1, 5] l.length (fun kq v1 v5 w' => ∃ (i : Int) (b : Int), v1 = .int .i64 b ∧ v5 = .int .i64 i ∧ Aside0 (0 ≤ i ∧ i + kq = l.length ∧ 0 ≤ b ∧ b = a + 3 * i) ∧ Aside0 (Marked ok w0 w'))
  case atStart => exact ⟨0, a, rfl, rfl, ⟨⟨Int.le_refl _, by omega, HA.out, by omega⟩⟩, HM⟩
  case round =>
    obtain ⟨i, b, rfl, rfl, HI, HW⟩ := hrel
    by_cases c3 : i < (l.length : Int)
    · have c3b := decide_eq_true c3
      have hi := HI.out.1
      obtain ⟨g, c', e, gb, gl, cl, HG⟩ := Kd.R_form HR.out (by omega)
      cases e
      obtain ⟨cs, hcl, hM, hcc, hff⟩ := Kd.R_elem HR.out z122 i HI.out.1 c3
      obtain rfl := k122_openM hM
      have ei : l.getD i.toNat z122 = rd_T122 l i := rfl
      rw [ei] at hcc
      have hx0 : w0.cell? ⟨g, i.toNat * 3, none⟩ = some (.int .i64 (rd_T122 l i).f0) := hcc 0 _ rfl
      have hx1 : w0.cell? ⟨g, i.toNat * 3 + 1, none⟩ = some (.int .i64 (rd_T122 l i).f1) := hcc 1 _ rfl
      have hx2 : w0.cell? ⟨g, i.toNat * 3 + 2, none⟩ = some (.int .i64 (rd_T122 l i).f2) := hcc 2 _ rfl
      have hf0 : w0.frozen? ⟨g, i.toNat * 3, none⟩ = false := hff 0
      have hf1 : w0.frozen? ⟨g, i.toNat * 3 + 1, none⟩ = false := hff 1
      have hf2 : w0.frozen? ⟨g, i.toNat * 3 + 2, none⟩ = false := hff 2
      have hg := hok g (HR.out.1 _ rfl)
      obtain ⟨y0, X0⟩ := HW.out.int hx0
      obtain ⟨y1, X1⟩ := HW.out.int hx1
      obtain ⟨y2, X2⟩ := HW.out.int hx2
      have F0 := HW.out.2.2 _ _ hx0 hf0
      have F1 := HW.out.2.2 _ _ hx1 hf1
      have F2 := HW.out.2.2 _ _ hx2 hf2
      have e1 : wrap64 (b + 1) = b + 1 := by have := HI.out; have := HL.out; have := HA.out; rw [w64' (by omega) (by omega)]
      have e3 : wrap64 (b + 1 + 1) = b + 1 + 1 := by have := HI.out; have := HL.out; have := HA.out; rw [w64' (by omega) (by omega)]
      have e4 : wrap64 (b + 1 + 1 + 1) = b + 3 := by have := HI.out; have := HL.out; have := HA.out; rw [w64' (by omega) (by omega)]; omega
      have e2 : wrap64 (i + 1) = i + 1 := by have := HI.out; have := HL.out; have := HA.out; rw [w64' (by omega) (by omega)]
      have HN := Aside0.mk (((HW.out.setInt hx0 hg b).setInt hx1 hg (wrap64 (b + 1))).setInt hx2 hg (wrap64 (wrap64 (b + 1) + 1)))
      have q1 := eq_true HI.out.1
      have q2 := eq_true c3
      have E1 := Aside0.mk (show wrap64 (wrap64 (wrap64 (b + 1) + 1) + 1) = b + 3 by rw [e1, e3, e4])
      have E2 := Aside0.mk e2
      clear hcc hff hM hcl hx0 hx1 hx2 hf0 hf1 hf2 ei HG cl gb gl c3 hi e1 e2 e3 e4 hg
      go_wp2
      go_roundg (gk - 1)
      case measure => have := HI.out; have := of_eq_true q2; omega
      case rel => exact ⟨i + 1, b + 3, by rw [E1.out], by rw [E2.out], ⟨by have := HI.out; have := of_eq_true q2; omega⟩, by first | exact HN | exact ⟨HN.out.drewN _⟩⟩
    · have c3b := decide_eq_false c3
      clear c3
      go_wp2
      go_ret
      exact ⟨by
        have e : i = l.length := by have := of_decide_eq_false c3b; have := HI.out.1; have := HI.out.2.1; omega
        rw [HI.out.2.2.2, e]; rfl, by first | exact HW.out | exact HW.out.drewN _⟩
def cntF : List S71 → Int
  | [] => 0
  | x :: r => 1 + x.f1.length + cntF r
theorem cntF_nonneg : ∀ l, 0 ≤ cntF l
  | [] => Int.le_refl _
  | x :: r => by have := cntF_nonneg r; rw [cntF]; omega
theorem cntF_drop (l : List S71) (i : Int) (h0 : 0 ≤ i) (h : i < l.length) : cntF (l.drop i.toNat) = 1 + (rd_T71 l i).f1.length + cntF (l.drop (i + 1).toNat) := by
  have hn : i.toNat < l.length := by omega
  have e : rd_T71 l i = l[i.toNat] := by simp [rd_T71, List.getD_eq_getElem?_getD, List.getElem?_eq_getElem hn]
  rw [List.drop_eq_getElem_cons hn, cntF, e, show (i + 1).toNat = i.toNat + 1 by omega]
theorem cntF_len : ∀ l : List S71, (l.length : Int) ≤ cntF l
  | [] => Int.le_refl _
  | x :: r => by have := cntF_len r; rw [cntF, List.length_cons]; omega
theorem markFix (ok ok' : Nat → Prop) (w0 : World) (base : Nat) (v : Value) (l : List S71) (hR : Kd.R k71 71 w0 base ok' v l) (hok : ∀ k, ok' k → ok k) (w : World) (hm : Marked ok w0 w) (a : Int) (h0 : 0 ≤ a) (h1 : a + cntF l ≤ 4611686018427387904) :
    Calls Try.prog 36 #[v, .int .i64 a] w fun e w' => e = .returned (.int .i64 (a + cntF l)) ∧ Marked ok w0 w' := by
  have HM := Aside0.mk hm
  have HR := Aside0.mk hR
  obtain ⟨A, c, rfl⟩ := Kd.R_slice hR
  have HA := Aside0.mk h0
  have HL := Aside0.mk h1
  clear hm hR h0 h1
  go_enter Try.func36, Try.ntmps36
  go_wp2
  go_loopg [1, 5] l.length (fun kq v1 v5 w' => ∃ (i : Int) (b : Int), v1 = .int .i64 b ∧ v5 = .int .i64 i ∧ Aside0 (0 ≤ i ∧ i + kq = l.length ∧ 0 ≤ b ∧ b + cntF (l.drop i.toNat) = a + cntF l) ∧ Aside0 (Marked ok w0 w'))
  case atStart => exact ⟨0, a, rfl, rfl, ⟨⟨Int.le_refl _, by omega, HA.out, rfl⟩⟩, HM⟩
  case round =>
    obtain ⟨i, b, rfl, rfl, HI, HW⟩ := hrel
    by_cases c3 : i < (l.length : Int)
    · have c3b := decide_eq_true c3
      have hi := HI.out.1
      obtain ⟨g, c', e, gb, gl, cl, HG⟩ := Kd.R_form HR.out (by omega)
      cases e
      have hn := (Kd.R_reads' HR.out).1
      obtain ⟨cs, hcl, hM, hcc, hff⟩ := Kd.R_elem HR.out z71 i HI.out.1 c3
      obtain ⟨v1, rfl, g1⟩ := k71_openM hM
      have ei : l.getD i.toNat z71 = rd_T71 l i := rfl
      rw [ei] at g1 hcc
      obtain ⟨A1, c1, rfl⟩ := Kd.R_slice g1
      have hx0 : w0.cell? ⟨g, i.toNat * 2, none⟩ = some (.int .i64 (rd_T71 l i).f0) := hcc 0 _ rfl
      have hx1 : w0.cell? ⟨g, i.toNat * 2 + 1, none⟩ = some (.slice A1 (rd_T71 l i).f1.length c1) := hcc 1 _ rfl
      have hf0 : w0.frozen? ⟨g, i.toNat * 2, none⟩ = false := hff 0
      have hs := cntF_drop l i HI.out.1 c3
      have hn2 := cntF_nonneg (l.drop (i + 1).toNat)
      obtain ⟨y, hx⟩ := HW.out.int hx0
      have hf := HW.out.2.2 _ _ hx0 hf0
      have HN := Aside0.mk (HW.out.setInt hx0 (hok _ (HR.out.1 _ rfl)) b)
      have hx2 := HN.out.slice hx1
      have G1 := Aside0.mk g1
      have q1 := eq_true HI.out.1
      have q2 := eq_true c3
      have HS := Aside0.mk hs
      have HS2 := Aside0.mk hn2
      have e1 : wrap64 (b + 1) = b + 1 := by have := HI.out.2.2; have := HL.out; rw [w64' (by omega) (by omega)]
      have e2 : wrap64 (i + 1) = i + 1 := by have := HI.out.2.2; have := HI.out.2.1; have := HL.out; have := HA.out; have := cntF_len l; rw [w64' (by omega) (by omega)]
      have E1 := Aside0.mk e1
      have E2 := Aside0.mk e2
      have HO := Aside0.mk (show ∀ k, (ok' k ∧ k ≠ g) → ok k from fun k hk => hok k hk.1)
      have LO : Aside0 (0 ≤ wrap64 (b + 1) ∧ wrap64 (b + 1) + ((rd_T71 l i).f1.length : Int) ≤ 4611686018427387904) := ⟨by have := HI.out.2.2; have := HL.out; rw [e1]; omega⟩
      clear hcc hff hM hcl hx0 hx1 hf0 ei HG cl gb gl c3 hn g1 hs hn2 hi e1 e2
      go_wp2_with (first | (go_at_call 35; refine (markInt ok _ w0 base _ _ G1.out HO.out _ (by first | exact HN.out | exact HN.out.drewN _) _ LO.out.1 LO.out.2).mono ?_; rintro e w' ⟨rfl, hm2⟩))
      go_roundg (gk - 1)
      case measure => have := HI.out; have := of_eq_true q2; omega
      case rel => exact ⟨i + 1, _, rfl, by rw [E2.out], ⟨by have := HI.out; have := of_eq_true q2; have := HS.out; rw [E1.out]; omega⟩, by first | exact ⟨hm2⟩ | exact ⟨hm2.drewN _⟩⟩
    · have c3b := decide_eq_false c3
      clear c3
      go_wp2
      go_ret
      exact ⟨by
        have e : i.toNat = l.length := by have := of_decide_eq_false c3b; have := HI.out.1; have := HI.out.2.1; omega
        have := HI.out.2.2.2
        rw [e, List.drop_length] at this
        rw [← this, show cntF [] = 0 from rfl, Int.add_zero]; rfl, by first | exact HW.out | exact HW.out.drewN _⟩
def cntA : List S76 → Int
  | [] => 0
  | x :: r => 2 + x.f2.length + cntA r
theorem cntA_nonneg : ∀ l, 0 ≤ cntA l
  | [] => Int.le_refl _
  | x :: r => by have := cntA_nonneg r; rw [cntA]; omega
theorem cntA_drop (l : List S76) (i : Int) (h0 : 0 ≤ i) (h : i < l.length) : cntA (l.drop i.toNat) = 2 + (rd_T76 l i).f2.length + cntA (l.drop (i + 1).toNat) := by
  have hn : i.toNat < l.length := by omega
  have e : rd_T76 l i = l[i.toNat] := by simp [rd_T76, List.getD_eq_getElem?_getD, List.getElem?_eq_getElem hn]
  rw [List.drop_eq_getElem_cons hn, cntA, e, show (i + 1).toNat = i.toNat + 1 by omega]
theorem cntA_len : ∀ l : List S76, (l.length : Int) ≤ cntA l
  | [] => Int.le_refl _
  | x :: r => by have := cntA_len r; rw [cntA, List.length_cons]; omega
theorem markAcc (ok ok' : Nat → Prop) (w0 : World) (base : Nat) (v : Value) (l : List S76) (hR : Kd.R k76 76 w0 base ok' v l) (hok : ∀ k, ok' k → ok k) (w : World) (hm : Marked ok w0 w) (a : Int) (h0 : 0 ≤ a) (h1 : a + cntA l ≤ 4611686018427387904) :
    Calls Try.prog 59 #[v, .int .i64 a] w fun e w' => e = .returned (.int .i64 (a + cntA l)) ∧ Marked ok w0 w' := by
  have HM := Aside0.mk hm
  have HR := Aside0.mk hR
  obtain ⟨A, c, rfl⟩ := Kd.R_slice hR
  have HA := Aside0.mk h0
  have HL := Aside0.mk h1
  clear hm hR h0 h1
  go_enter Try.func59, Try.ntmps59
  go_wp2
  go_loopg [1, 5] l.length (fun kq v1 v5 w' => ∃ (i : Int) (b : Int), v1 = .int .i64 b ∧ v5 = .int .i64 i ∧ Aside0 (0 ≤ i ∧ i + kq = l.length ∧ 0 ≤ b ∧ b + cntA (l.drop i.toNat) = a + cntA l) ∧ Aside0 (Marked ok w0 w'))
  case atStart => exact ⟨0, a, rfl, rfl, ⟨⟨Int.le_refl _, by omega, HA.out, rfl⟩⟩, HM⟩
  case round =>
    obtain ⟨i, b, rfl, rfl, HI, HW⟩ := hrel
    by_cases c3 : i < (l.length : Int)
    · have c3b := decide_eq_true c3
      have hi := HI.out.1
      obtain ⟨g, c', e, gb, gl, cl, HG⟩ := Kd.R_form HR.out (by omega)
      cases e
      obtain ⟨cs, hcl, hM, hcc, hff⟩ := Kd.R_elem HR.out z76 i HI.out.1 c3
      obtain ⟨v2, rfl, g2⟩ := k76_openM hM
      have ei : l.getD i.toNat z76 = rd_T76 l i := rfl
      rw [ei] at g2 hcc
      obtain ⟨A2, c2, rfl⟩ := Kd.R_slice g2
      have hx0 : w0.cell? ⟨g, i.toNat * 3, none⟩ = some (.int .i64 (rd_T76 l i).f0) := hcc 0 _ rfl
      have hx1 : w0.cell? ⟨g, i.toNat * 3 + 1, none⟩ = some (.int .i64 (rd_T76 l i).f1) := hcc 1 _ rfl
      have hx2 : w0.cell? ⟨g, i.toNat * 3 + 2, none⟩ = some (.slice A2 (rd_T76 l i).f2.length c2) := hcc 2 _ rfl
      have hf0 : w0.frozen? ⟨g, i.toNat * 3, none⟩ = false := hff 0
      have hf1 : w0.frozen? ⟨g, i.toNat * 3 + 1, none⟩ = false := hff 1
      have hg := hok g (HR.out.1 _ rfl)
      obtain ⟨y0, X0⟩ := HW.out.int hx0
      obtain ⟨y1, X1⟩ := HW.out.int hx1
      have X2 := HW.out.slice hx2
      have F0 := HW.out.2.2 _ _ hx0 hf0
      have F1 := HW.out.2.2 _ _ hx1 hf1
      have hs := cntA_drop l i HI.out.1 c3
      have hn2 := cntA_nonneg (l.drop (i + 1).toNat)
      have e1 : wrap64 (b + 1) = b + 1 := by have := HI.out.2.2; have := HL.out; rw [w64' (by omega) (by omega)]
      have e3 : wrap64 (b + 1 + 1) = b + 2 := by have := HI.out.2.2; have := HL.out; rw [w64' (by omega) (by omega)]; omega
      have e2 : wrap64 (i + 1) = i + 1 := by have := HI.out.2.2; have := HI.out.2.1; have := HL.out; have := HA.out; have := cntA_len l; rw [w64' (by omega) (by omega)]
      have HN := Aside0.mk ((HW.out.setInt hx0 hg b).setInt hx1 hg (wrap64 (b + 1)))
      have X3 := HN.out.slice hx2
      have q1 := eq_true HI.out.1
      have q2 := eq_true c3
      have E1 := Aside0.mk (show wrap64 (wrap64 (b + 1) + 1) = b + 2 by rw [e1, e3])
      have E2 := Aside0.mk e2
      have G2 := Aside0.mk g2
      have HS := Aside0.mk hs
      have HS2 := Aside0.mk hn2
      have HO := Aside0.mk (show ∀ k, (ok' k ∧ k ≠ g) → ok k from fun k hk => hok k hk.1)
      have LO : Aside0 (0 ≤ wrap64 (wrap64 (b + 1) + 1) ∧ wrap64 (wrap64 (b + 1) + 1) + ((rd_T76 l i).f2.length : Int) ≤ 4611686018427387904) := ⟨by have := HI.out.2.2; have := HL.out; rw [E1.out]; omega⟩
      clear hcc hff hM hcl hx0 hx1 hx2 hf0 hf1 ei HG cl gb gl c3 hi e1 e2 e3 hg g2 hs hn2
      go_wp2_with (first | (go_at_call 35; refine (markInt ok _ w0 base _ _ G2.out HO.out _ (by first | exact HN.out | exact HN.out.drewN _) _ LO.out.1 LO.out.2).mono ?_; rintro e w' ⟨rfl, hm2⟩))
      go_roundg (gk - 1)
      case measure => have := HI.out; have := of_eq_true q2; omega
      case rel => exact ⟨i + 1, _, rfl, by rw [E2.out], ⟨by have := HI.out; have := of_eq_true q2; have := HS.out; rw [E1.out]; omega⟩, by first | exact ⟨hm2⟩ | exact ⟨hm2.drewN _⟩⟩
    · have c3b := decide_eq_false c3
      clear c3
      go_wp2
      go_ret
      exact ⟨by
        have e : i.toNat = l.length := by have := of_decide_eq_false c3b; have := HI.out.1; have := HI.out.2.1; omega
        have := HI.out.2.2.2
        rw [e, List.drop_length] at this
        rw [← this, show cntA [] = 0 from rfl, Int.add_zero]; rfl, by first | exact HW.out | exact HW.out.drewN _⟩
def cntK : List S79 → Int
  | [] => 0
  | x :: r => x.f0.length + cntA x.f1 + 2 + x.f2.f2.length + 1 + 3 * x.f4.length + cntK r
theorem cntK_nonneg : ∀ l, 0 ≤ cntK l
  | [] => Int.le_refl _
  | x :: r => by have := cntK_nonneg r; have := cntA_nonneg x.f1; rw [cntK]; omega
theorem cntK_drop (l : List S79) (i : Int) (h0 : 0 ≤ i) (h : i < l.length) : cntK (l.drop i.toNat) = (rd_T79 l i).f0.length + cntA (rd_T79 l i).f1 + 2 + (rd_T79 l i).f2.f2.length + 1 + 3 * (rd_T79 l i).f4.length + cntK (l.drop (i + 1).toNat) := by
  have hn : i.toNat < l.length := by omega
  have e : rd_T79 l i = l[i.toNat] := by simp [rd_T79, List.getD_eq_getElem?_getD, List.getElem?_eq_getElem hn]
  rw [List.drop_eq_getElem_cons hn, cntK, e, show (i + 1).toNat = i.toNat + 1 by omega]
theorem cntK_len : ∀ l : List S79, (l.length : Int) ≤ cntK l
  | [] => Int.le_refl _
  | x :: r => by have := cntK_len r; have := cntA_nonneg x.f1; rw [cntK, List.length_cons]; omega
theorem markKer (ok ok' : Nat → Prop) (w0 : World) (base : Nat) (v : Value) (l : List S79) (hR : Kd.R k79 79 w0 base ok' v l) (hok : ∀ k, ok' k → ok k) (w : World) (hm : Marked ok w0 w) (a : Int) (h0 : 0 ≤ a) (h1 : a + cntK l ≤ 4611686018427387904) :
    Calls Try.prog 37 #[v, .int .i64 a] w fun e w' => e = .returned (.int .i64 (a + cntK l)) ∧ Marked ok w0 w' := by
  have HM := Aside0.mk hm
  have HR := Aside0.mk hR
  obtain ⟨A, c, rfl⟩ := Kd.R_slice hR
  have HA := Aside0.mk h0
  have HL := Aside0.mk h1
  clear hm hR h0 h1
  go_enter Try.func37, Try.ntmps37
  go_wp2
  go_loopg [1, 5] l.length (fun kq v1 v5 w' => ∃ (i : Int) (b : Int), v1 = .int .i64 b ∧ v5 = .int .i64 i ∧ Aside0 (0 ≤ i ∧ i + kq = l.length ∧ 0 ≤ b ∧ b + cntK (l.drop i.toNat) = a + cntK l) ∧ Aside0 (Marked ok w0 w'))
  case atStart => exact ⟨0, a, rfl, rfl, ⟨⟨Int.le_refl _, by omega, HA.out, rfl⟩⟩, HM⟩
  case round =>
    obtain ⟨i, b, rfl, rfl, HI, HW⟩ := hrel
    by_cases c3 : i < (l.length : Int)
    · have c3b := decide_eq_true c3
      have hi := HI.out.1
      obtain ⟨g, c', e, gb, gl, cl, HG⟩ := Kd.R_form HR.out (by omega)
      cases e
      obtain ⟨cs, hcl, hM, hcc, hff⟩ := Kd.R_elem HR.out z79 i HI.out.1 c3
      obtain ⟨v0, v1, v4, v6, rfl, g0, g1, g4, g6⟩ := k79_openM hM
      have ei : l.getD i.toNat z79 = rd_T79 l i := rfl
      rw [ei] at g0 g1 g4 g6 hcc
      have hs := cntK_drop l i HI.out.1 c3
      have hl := cntK_len l
      generalize hxx : rd_T79 l i = x at g0 g1 g4 g6 hcc hs
      clear hxx
      obtain ⟨A0, c0, rfl⟩ := Kd.R_slice g0
      obtain ⟨A1, c1, rfl⟩ := Kd.R_slice g1
      obtain ⟨A4, c4, rfl⟩ := Kd.R_slice g4
      obtain ⟨A6, c6, rfl⟩ := Kd.R_slice g6
      have H0 := Aside0.mk (show w0.cell? ⟨g, i.toNat * 7, none⟩ = some (.slice A0 x.f0.length c0) from hcc 0 _ rfl)
      have H1 := Aside0.mk (show w0.cell? ⟨g, i.toNat * 7 + 1, none⟩ = some (.slice A1 x.f1.length c1) from hcc 1 _ rfl)
      have H2 := Aside0.mk (show w0.cell? ⟨g, i.toNat * 7 + 2, none⟩ = some (.int .i64 x.f2.f0) from hcc 2 _ rfl)
      have H3 := Aside0.mk (show w0.cell? ⟨g, i.toNat * 7 + 3, none⟩ = some (.int .i64 x.f2.f1) from hcc 3 _ rfl)
      have H4 := Aside0.mk (show w0.cell? ⟨g, i.toNat * 7 + 4, none⟩ = some (.slice A4 x.f2.f2.length c4) from hcc 4 _ rfl)
      have H5 := Aside0.mk (show w0.cell? ⟨g, i.toNat * 7 + 5, none⟩ = some (.bool x.f3) from hcc 5 _ rfl)
      have H6 := Aside0.mk (show w0.cell? ⟨g, i.toNat * 7 + 6, none⟩ = some (.slice A6 x.f4.length c6) from hcc 6 _ rfl)
      have K2 := Aside0.mk (show w0.frozen? ⟨g, i.toNat * 7 + 2, none⟩ = false from hff 2)
      have K3 := Aside0.mk (show w0.frozen? ⟨g, i.toNat * 7 + 3, none⟩ = false from hff 3)
      have K5 := Aside0.mk (show w0.frozen? ⟨g, i.toNat * 7 + 5, none⟩ = false from hff 5)
      have Hg := Aside0.mk (hok g (HR.out.1 _ rfl))
      have X0 := HW.out.slice H0.out
      have hn2 := cntK_nonneg (l.drop (i + 1).toNat)
      have hn3 := cntA_nonneg x.f1
      have e2 : wrap64 (i + 1) = i + 1 := by have := HI.out.2.2; have := HI.out.2.1; have := HL.out; have := HA.out; rw [w64' (by omega) (by omega)]
      have HQ := Aside0.mk (show 0 ≤ b ∧ b + x.f0.length + cntA x.f1 + 2 + x.f2.f2.length + 1 + 3 * x.f4.length ≤ 4611686018427387904 by have := HI.out.2.2; have := HL.out; omega)
      have e3 : wrap64 (wrap64 (b + x.f0.length + cntA x.f1 + 1) + 1) = b + x.f0.length + cntA x.f1 + 2 := by
        have := HQ.out; rw [w64' (x := b + x.f0.length + cntA x.f1 + 1) (by omega) (by omega), w64' (by omega) (by omega)]; omega
      have e4 : wrap64 (wrap64 (wrap64 (b + x.f0.length + cntA x.f1 + 1) + 1) + x.f2.f2.length + 1) = b + x.f0.length + cntA x.f1 + 2 + x.f2.f2.length + 1 := by
        have := HQ.out; rw [e3, w64' (by omega) (by omega)]
      have q1 := eq_true HI.out.1
      have q2 := eq_true c3
      have E2 := Aside0.mk e2
      have E3 := Aside0.mk e3
      have E4 := Aside0.mk e4
      have G0 := Aside0.mk g0
      have G1 := Aside0.mk g1
      have G4 := Aside0.mk g4
      have G6 := Aside0.mk g6
      have HS := Aside0.mk hs
      have HN3 := Aside0.mk hn3
      have HO := Aside0.mk (show ∀ k, (ok' k ∧ k ≠ g) → ok k from fun k hk => hok k hk.1)
      clear hcc hff hM hcl ei HG cl gb gl c3 hi e2 e3 e4 g0 g1 g4 g6 hs hn2 hn3 hl
      go_wp2_with (first
        | (go_at_call 59; (with_reducible refine (markAcc ok _ w0 base _ _ G1.out HO.out _ ?side1 _ ?side2 ?side3).mono ?_); (case side1 => first | exact HM1.out | exact HM1.out.drewN _); (case side2 => have := HQ.out; omega); (case side3 => have := HQ.out; omega); rintro e w2 ⟨rfl, hm2⟩; have HM3 := Aside0.mk ((hm2.setInt H2.out Hg.out (b + x.f0.length + cntA x.f1)).setInt H3.out Hg.out (wrap64 (b + x.f0.length + cntA x.f1 + 1))); obtain ⟨y2, X2⟩ := hm2.int H2.out; obtain ⟨y3, X3⟩ := hm2.int H3.out; have F2 := hm2.2.2 _ _ H2.out K2.out; have F3 := hm2.2.2 _ _ H3.out K3.out; have X4 := hm2.slice H4.out; have X4' := HM3.out.slice H4.out; clear hm2)
        | (go_at_call 60; (with_reducible refine (markCalc ok _ w0 base _ _ G6.out HO.out _ ?side1 _ ?side2 ?side3).mono ?_); (case side1 => first | exact HM4.out.setBool H5.out Hg.out _ | exact (HM4.out.setBool H5.out Hg.out _).drewN _); (case side2 => have := HQ.out; have := HN3.out; rw [E4.out]; omega); (case side3 => have := HQ.out; rw [E4.out]; omega); rintro e w6 ⟨rfl, hm6⟩)
        | (go_at_call 35; (with_reducible refine (markInt ok _ w0 base _ _ G0.out HO.out _ ?side1 _ ?side2 ?side3).mono ?_); (case side1 => first | exact HW.out | exact HW.out.drewN _); (case side2 => have := HQ.out; omega); (case side3 => have := HQ.out; have := HN3.out; omega); rintro e w1 ⟨rfl, hm1⟩; have HM1 := Aside0.mk hm1; have X1 := hm1.slice H1.out; clear hm1)
        | (go_at_call 35; (with_reducible refine (markInt ok _ w0 base _ _ G4.out HO.out _ ?side1 _ ?side2 ?side3).mono ?_); (case side1 => first | exact HM3.out | exact HM3.out.drewN _); (case side2 => have := HQ.out; have := HN3.out; rw [E3.out]; omega); (case side3 => have := HQ.out; rw [E3.out]; omega); rintro e w4 ⟨rfl, hm4⟩; have HM4 := Aside0.mk hm4; obtain ⟨y5, X5⟩ := hm4.bool H5.out; have F5 := hm4.2.2 _ _ H5.out K5.out; have X6 := hm4.slice H6.out; have X6' := fun z => (hm4.setBool H5.out Hg.out z).slice H6.out; clear hm4))
      go_roundg (gk - 1)
      case measure => have := HI.out; have := of_eq_true q2; omega
      case rel => exact ⟨i + 1, _, rfl, by rw [E2.out], ⟨by have := HI.out; have := of_eq_true q2; have := HS.out; have := HQ.out; have := HN3.out; rw [E4.out]; omega⟩, by first | exact ⟨hm6⟩ | exact ⟨hm6.drewN _⟩⟩
    · have c3b := decide_eq_false c3
      clear c3
      go_wp2
      go_ret
      exact ⟨by
        have e : i.toNat = l.length := by have := of_decide_eq_false c3b; have := HI.out.1; have := HI.out.2.1; omega
        have := HI.out.2.2.2
        rw [e, List.drop_length] at this
        rw [← this, show cntK [] = 0 from rfl, Int.add_zero]; rfl, by first | exact HW.out | exact HW.out.drewN _⟩
theorem markNest (ok o0 o1 o2 o3 o4 : Nat → Prop) (base : Nat) (v0 v1 v2 v3 v4 : Value) (l0 l1 : List Int) (l2 : List S71) (l3 : List S79) (l4 : List Int) (w : World)
    (R0 : Kd.R (Kd.int .i64) 3 w base o0 v0 l0) (R1 : Kd.R (Kd.int .i64) 3 w base o1 v1 l1) (R2 : Kd.R k71 71 w base o2 v2 l2) (R3 : Kd.R k79 79 w base o3 v3 l3) (R4 : Kd.R (Kd.int .i64) 3 w base o4 v4 l4)
    (k0 : ∀ k, o0 k → ok k) (k1 : ∀ k, o1 k → ok k) (k2 : ∀ k, o2 k → ok k) (k3 : ∀ k, o3 k → ok k) (k4 : ∀ k, o4 k → ok k) (a : Int) (h0 : 0 ≤ a) (h1 : a + l0.length + l1.length + cntF l2 + cntK l3 + l4.length ≤ 4611686018427387904) :
    Calls Try.prog 16 #[.agg #[v0, v1, v2, v3, v4], .int .i64 a] w fun e w' => e = .returned (.int .i64 (a + l0.length + l1.length + cntF l2 + cntK l3 + l4.length)) ∧ ((w.heap.size ≤ w'.heap.size ∧ w'.os = w.os ∧ w'.tape = w.tape ∧ w'.output = w.output) ∧ ∀ i, i < w.heap.size → ¬ ok i → w'.heap[i]? = w.heap[i]?) := by
  have hu34 := Try.underlying34
  obtain ⟨A0, c0, rfl⟩ := Kd.R_slice R0
  obtain ⟨A1, c1, rfl⟩ := Kd.R_slice R1
  obtain ⟨A2, c2, rfl⟩ := Kd.R_slice R2
  obtain ⟨A3, c3, rfl⟩ := Kd.R_slice R3
  obtain ⟨A4, c4, rfl⟩ := Kd.R_slice R4
  have G0 := Aside0.mk R0
  have G1 := Aside0.mk R1
  have G2 := Aside0.mk R2
  have G3 := Aside0.mk R3
  have G4 := Aside0.mk R4
  have O0 := Aside0.mk k0
  have O1 := Aside0.mk k1
  have O2 := Aside0.mk k2
  have O3 := Aside0.mk k3
  have O4 := Aside0.mk k4
  have HN2 := Aside0.mk (cntF_nonneg l2)
  have HN3 := Aside0.mk (cntK_nonneg l3)
  have HQ := Aside0.mk (And.intro h0 h1)
  have HB := Aside0.mk (Below.refl w.heap.size w)
  clear R0 R1 R2 R3 R4 k0 k1 k2 k3 k4 h0 h1
  go_enter Try.func16, Try.ntmps16
  go_wp2_with (first
    | ((with_reducible refine gd 2 rfl ?_); refine zJ 2 #[.slice A0 l0.length c0, .slice A1 l1.length c1, .slice A2 l2.length c2, .slice A3 l3.length c3, .slice A4 l4.length c4] 34 ?_; intro gb hg w1 hbox hb; have Q0 := zK (Kd.R_below G0.out hb); have Q1 := zK (Kd.R_below G1.out hb); have Q2 := zK (Kd.R_below G2.out hb); have Q3 := zK (Kd.R_below G3.out hb); have Q4 := zK (Kd.R_below G4.out hb); have B0 := zK ((blk_cell hbox 0).trans rfl : w1.cell? ⟨gb, 0, none⟩ = some (.slice A0 l0.length c0)); have B1 := zK ((blk_cell hbox 1).trans rfl : w1.cell? ⟨gb, 1, none⟩ = some (.slice A1 l1.length c1)); have B2 := zK ((blk_cell hbox 2).trans rfl : w1.cell? ⟨gb, 2, none⟩ = some (.slice A2 l2.length c2)); have B3 := zK ((blk_cell hbox 3).trans rfl : w1.cell? ⟨gb, 3, none⟩ = some (.slice A3 l3.length c3)); have B4 := zK ((blk_cell hbox 4).trans rfl : w1.cell? ⟨gb, 4, none⟩ = some (.slice A4 l4.length c4)); have X0 := B0.out; have HB1 := zK hb; have HM0 := zK (Marked.refl (ok := ok) (w0 := w1)); clear hbox hb hg)
    | (go_at_call 36; (with_reducible refine (markFix ok _ w1 base _ _ Q2.out O2.out _ ?side1 _ ?side2 ?side3).mono ?_); (case side1 => first | exact HM2.out | exact HM2.out.drewN _); (case side2 => have := HQ.out; omega); (case side3 => have := HQ.out; have := HN3.out; omega); rintro e w4 ⟨rfl, hm3⟩; have HM3 := zK hm3; have X3 := hm3.slice B3.out; clear hm3)
    | (go_at_call 37; (with_reducible refine (markKer ok _ w1 base _ _ Q3.out O3.out _ ?side1 _ ?side2 ?side3).mono ?_); (case side1 => first | exact HM3.out | exact HM3.out.drewN _); (case side2 => have := HQ.out; have := HN2.out; omega); (case side3 => have := HQ.out; omega); rintro e w5 ⟨rfl, hm4⟩; have HM4 := zK hm4; have X4 := hm4.slice B4.out; clear hm4)
    | (go_at_call 35; (with_reducible refine (markInt ok _ w1 base _ _ Q0.out O0.out _ ?side1 _ ?side2 ?side3).mono ?_); (case side1 => first | exact HM0.out | exact HM0.out.drewN _); (case side2 => have := HQ.out; omega); (case side3 => have := HQ.out; have := HN2.out; have := HN3.out; omega); rintro e w2 ⟨rfl, hm1⟩; have HM1 := zK hm1; have X1 := hm1.slice B1.out; clear hm1 HM0)
    | (go_at_call 35; (with_reducible refine (markInt ok _ w1 base _ _ Q1.out O1.out _ ?side1 _ ?side2 ?side3).mono ?_); (case side1 => first | exact HM1.out | exact HM1.out.drewN _); (case side2 => have := HQ.out; omega); (case side3 => have := HQ.out; have := HN2.out; have := HN3.out; omega); rintro e w3 ⟨rfl, hm2⟩; have HM2 := zK hm2; have X2 := hm2.slice B2.out; clear hm2 HM1)
    | (go_at_call 35; (with_reducible refine (markInt ok _ w1 base _ _ Q4.out O4.out _ ?side1 _ ?side2 ?side3).mono ?_); (case side1 => first | exact HM4.out | exact HM4.out.drewN _); (case side2 => have := HQ.out; have := HN2.out; have := HN3.out; omega); (case side3 => have := HQ.out; omega); rintro e w6 ⟨rfl, hm5⟩; have HM5 := zK hm5; clear hm5))
  go_ret
  refine ⟨zE, ?_, fun i hi hn => ?_⟩
  · exact ⟨Nat.le_trans HB1.out.size HM5.out.1.1.1, HM5.out.1.1.2.1.trans HB1.out.os, HM5.out.1.1.2.2.1.trans HB1.out.tape, HM5.out.1.1.2.2.2.trans HB1.out.output⟩
  · exact (HM5.out.1.2 i (Nat.lt_of_lt_of_le hi HB1.out.size) hn).trans (HB1.out.block i hi)
/-! The contract as the law's walk wants it: told apart from all else by the types of the blocks. -/
def mkT : List Nat := [3, 71, 76, 79, 122]
def OwnT (base : Nat) (W : World) (k : Nat) : Prop := base ≤ k ∧ ∃ q, q ∈ mkT ∧ ∃ cells, W.heap[k]? = some (.cells cells q (0, 0))
def Turned (base : Nat) (W w' : World) : Prop := (W.heap.size ≤ w'.heap.size ∧ w'.os = W.os ∧ w'.tape = W.tape ∧ w'.output = W.output) ∧ ∀ i, i < W.heap.size → ¬ OwnT base W i → w'.heap[i]? = W.heap[i]?
theorem ownT {α : Type} {d : Kd α} {e : Nat} {W : World} {base : Nat} {ok : Nat → Prop} {v : Value} {xs : List α} (h : d.R e W base ok v xs) (ht : ∀ q, q ∈ e :: d.E → q ∈ mkT) : d.R e W base (OwnT base W) v xs :=
  Kd.R_mono (Kd.R_bound h) (fun k hk => ⟨hk.2.1, by obtain ⟨_, _, _, q, hq, c⟩ := hk; exact ⟨q, ht q hq, c⟩⟩)
def markF (l0 l1 : List Int) (l2 : List S71) (l3 : List S79) (l4 : List Int) (a : Int) : Option Int :=
  if 0 ≤ a ∧ a + l0.length + l1.length + cntF l2 + cntK l3 + l4.length ≤ 4611686018427387904 then some (a + l0.length + l1.length + cntF l2 + cntK l3 + l4.length) else none
theorem markNest_calls (l0 l1 : List Int) (l2 : List S71) (l3 : List S79) (l4 : List Int) (a r : Int) (base : Nat) {o0 o1 o2 o3 o4 : Nat → Prop} {v0 v1 v2 v3 v4 : Value} (W : World)
    (R0 : Kd.R (Kd.int .i64) 3 W base o0 v0 l0) (R1 : Kd.R (Kd.int .i64) 3 W base o1 v1 l1) (R2 : Kd.R k71 71 W base o2 v2 l2) (R3 : Kd.R k79 79 W base o3 v3 l3) (R4 : Kd.R (Kd.int .i64) 3 W base o4 v4 l4) (h : markF l0 l1 l2 l3 l4 a = some r) :
    Calls Try.prog 16 #[.agg #[v0, v1, v2, v3, v4], .int .i64 a] W fun e w' => e = .returned (.int .i64 r) ∧ Turned base W w' := by
  unfold markF at h
  by_cases c : 0 ≤ a ∧ a + l0.length + l1.length + cntF l2 + cntK l3 + l4.length ≤ 4611686018427387904
  · rw [if_pos c] at h
    cases h
    exact markNest (OwnT base W) _ _ _ _ _ base v0 v1 v2 v3 v4 l0 l1 l2 l3 l4 W (ownT R0 (by decide)) (ownT R1 (by decide)) (ownT R2 (by decide)) (ownT R3 (by decide)) (ownT R4 (by decide)) (fun _ h => h) (fun _ h => h) (fun _ h => h) (fun _ h => h) (fun _ h => h) a c.1 c.2
  · rw [if_neg c] at h; cases h
/-- .. the rows' own blocks left open. -/
theorem markNest_E (l0 l1 : List Int) (l2 : List S71) (l3 : List S79) (l4 : List Int) (a r : Int) (base : Nat) {v0 v1 v2 v3 v4 : Value} (W : World)
    (R0 : ∃ o, Kd.R (Kd.int .i64) 3 W base o v0 l0) (R1 : ∃ o, Kd.R (Kd.int .i64) 3 W base o v1 l1) (R2 : ∃ o, Kd.R k71 71 W base o v2 l2) (R3 : ∃ o, Kd.R k79 79 W base o v3 l3) (R4 : ∃ o, Kd.R (Kd.int .i64) 3 W base o v4 l4) (h : markF l0 l1 l2 l3 l4 a = some r) :
    Calls Try.prog 16 #[.agg #[v0, v1, v2, v3, v4], .int .i64 a] W fun e w' => e = .returned (.int .i64 r) ∧ Turned base W w' := by
  obtain ⟨o0, R0⟩ := R0
  obtain ⟨o1, R1⟩ := R1
  obtain ⟨o2, R2⟩ := R2
  obtain ⟨o3, R3⟩ := R3
  obtain ⟨o4, R4⟩ := R4
  exact markNest_calls l0 l1 l2 l3 l4 a r base W R0 R1 R2 R3 R4 h
theorem Turned.R {α : Type} {d : Kd α} {e : Nat} {W w' : World} {base b2 : Nat} {ok : Nat → Prop} {v : Value} {xs : List α} (t : Turned b2 W w') (h : d.R e W base ok v xs) (ht : ∀ q, q ∈ e :: d.E → q ∉ mkT) : d.R e w' base ok v xs :=
  Kd.R_mono (Kd.R_move (Kd.R_bound h) (fun k hk => t.2 k hk.2.2.1 (fun ⟨_, q, hq, c, hc⟩ => by
    obtain ⟨_, _, _, q2, hq2, c2, hc2⟩ := hk
    rw [hc] at hc2
    cases hc2
    exact ht q hq2 hq))) (fun _ hk => hk.1)
theorem Turned.block {W w' : World} {b2 g t : Nat} {cs : Array Value} (m : Turned b2 W w') (h : W.heap[g]? = some (.cells cs t (0, 0))) (ht : t ∉ mkT) : w'.heap[g]? = some (.cells cs t (0, 0)) :=
  (m.2 g (blk_lt h) (fun ⟨_, q, hq, c, hc⟩ => by rw [h] at hc; cases hc; exact ht hq)).trans h
theorem Turned.below {w W w' : World} (m : Turned w.heap.size W w') (h : Below w.heap.size w W) : Below w.heap.size w w' :=
  ⟨m.1.2.1.trans h.os, m.1.2.2.1.trans h.tape, m.1.2.2.2.trans h.output, Nat.le_trans h.size m.1.1, fun k hk => (m.2 k (Nat.lt_of_lt_of_le hk h.size) (fun o => by have := o.1; omega)).trans (h.block k hk)⟩
end Go.Proofs.Ytmcboiffbcnalaa.Marks
