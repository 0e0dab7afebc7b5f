/- Marks: whole numbers written into records that are the call's own: what was read before reads on, but for its whole numbers and truth values. -/
import Derived.Test.YtdlhmhgpafegpaaPFnExactWeightsx0
import Derived.Test.YtdlhmhgpafegpaaXFnExactWeightsKept
namespace Go.Proofs.Ytdlhmhgpafegpaa.Marks
open Go.RowKit Go.Proofs.Ytdlhmhgpafegpaa.PFnExactWeights Go.Proofs.YtdlhmhgpafegpaaW.PrintWords Go.Proofs.YtdlhmhgpafegpaaW.PrintLast Go.Proofs.YtdlhmhgpafegpaaW.PrintMore
attribute [local go_sem] max2_int min2_int max_two min_two max_three min_three max_four min_four
def Marked (ok : Nat → Prop) (w0 w : World) : Prop :=
  ((w0.heap.size ≤ w.heap.size ∧ w.os = w0.os ∧ w.tape = w0.tape ∧ w.output = w0.output) ∧ ∀ i, i < w0.heap.size → ¬ ok i → w.heap[i]? = w0.heap[i]?) ∧
  (∀ p v, w0.cell? p = some v → ∃ v', w.cell? p = some v' ∧ (v' = v ∨ (∃ t a b, v = .int t a ∧ v' = .int t b) ∨ ∃ a b, v = .bool a ∧ v' = .bool b)) ∧
  ∀ p v, w0.cell? p = some v → w0.frozen? p = false → w.frozen? p = false
section
variable {ok : Nat → Prop} {w0 w : World}
theorem Marked.refl : Marked ok w0 w0 := ⟨⟨⟨Nat.le_refl _, rfl, rfl, rfl⟩, fun _ _ _ => rfl⟩, fun _ v h => ⟨v, h, .inl rfl⟩, fun _ _ _ h => h⟩
theorem Marked.drewN (h : Marked ok w0 w) (n : Nat) : Marked ok w0 (w.drewN n) := h
theorem Marked.drew (h : Marked ok w0 w) : Marked ok w0 w.drew := h
theorem Marked.slice (h : Marked ok w0 w) {p : Addr} {A : Option Addr} {n c : Nat} (hc : w0.cell? p = some (.slice A n c)) : w.cell? p = some (.slice A n c) := by
  obtain ⟨v', h1, h2⟩ := h.2.1 p _ hc
  rcases h2 with rfl | ⟨t, a, b, h2, _⟩ | ⟨a, b, h2, _⟩
  · exact h1
  · cases h2
  · cases h2
theorem Marked.int (h : Marked ok w0 w) {p : Addr} {t : IntKind} {a : Int} (hc : w0.cell? p = some (.int t a)) : ∃ b, w.cell? p = some (.int t b) := by
  obtain ⟨v', h1, h2⟩ := h.2.1 p _ hc
  rcases h2 with rfl | ⟨t', a', b, h2, rfl⟩ | ⟨a, b, h2, _⟩
  · exact ⟨_, h1⟩
  · cases h2; exact ⟨_, h1⟩
  · cases h2
theorem Marked.bool (h : Marked ok w0 w) {p : Addr} {a : Bool} (hc : w0.cell? p = some (.bool a)) : ∃ b, w.cell? p = some (.bool b) := by
  obtain ⟨v', h1, h2⟩ := h.2.1 p _ hc
  rcases h2 with rfl | ⟨t', a', b, h2, rfl⟩ | ⟨a, b, h2, rfl⟩
  · exact ⟨_, h1⟩
  · cases h2
  · exact ⟨_, h1⟩
theorem Marked.put (h : Marked ok w0 w) {p : Addr} {v0 v1 v : Value} (hc : w0.cell? p = some v0) (hp : ok p.block) (hv : (v = v0 ∨ (∃ t a b, v0 = .int t a ∧ v = .int t b) ∨ ∃ a b, v0 = .bool a ∧ v = .bool b)) (hw : w.cell? p = some v1) : Marked ok w0 (w.setCell p v) := by
  obtain ⟨⟨h1, h2⟩, h3, h4⟩ := h
  refine ⟨⟨?_, fun i hi hn => ?_⟩, fun q u hq => ?_, fun q u hq hf => ?_⟩
  · exact ⟨by simpa [World.setCell] using h1.1, h1.2.1, h1.2.2.1, h1.2.2.2⟩
  · exact (Below.heap_setCell w p v i (fun e => hn (e ▸ hp))).trans (h2 i hi hn)
  · by_cases e : q = p
    · subst e
      rw [hc] at hq; cases hq
      exact ⟨v, World.cell?_setCell_same w _ _ hw, hv⟩
    · rw [World.cell?_setCell_other _ _ _ _ (fun e' => e e'.symm)]; exact h3 q u hq
  · rw [World.frozen?_setCell]; exact h4 q u hq hf
theorem Marked.setInt (h : Marked ok w0 w) {p : Addr} {t : IntKind} {a : Int} (hc : w0.cell? p = some (.int t a)) (hp : ok p.block) (b : Int) : Marked ok w0 (w.setCell p (.int t b)) := by
  obtain ⟨x, hx⟩ := h.int hc
  exact h.put hc hp (.inr (.inl ⟨t, a, b, rfl, rfl⟩)) hx
theorem Marked.setBool (h : Marked ok w0 w) {p : Addr} {a : Bool} (hc : w0.cell? p = some (.bool a)) (hp : ok p.block) (b : Bool) : Marked ok w0 (w.setCell p (.bool b)) := by
  obtain ⟨x, hx⟩ := h.bool hc
  exact h.put hc hp (.inr (.inr ⟨a, b, rfl, rfl⟩)) hx
end
theorem w64' {x : Int} (h1 : -9223372036854775808 ≤ x) (h2 : x ≤ 9223372036854775807) : wrap64 x = x := by
  unfold wrap64; omega
set_option maxHeartbeats 8000000
set_option maxRecDepth 100000
theorem markInt (ok ok' : Nat → Prop) (w0 : World) (base : Nat) (v : Value) (l : List Int) (hR : Kd.R (Kd.int .i64) 3 w0 base ok' v l) (hok : ∀ k, ok' k → ok k) (w : World) (hm : Marked ok w0 w) (a : Int) (h0 : 0 ≤ a) (h1 : a + l.length ≤ 4611686018427387904) :
    Calls Try.prog 24 #[v, .int .i64 a] w fun e w' => e = .returned (.int .i64 (a + l.length)) ∧ Marked ok w0 w' := by
  have HM := Aside0.mk hm
  have HR := Aside0.mk hR
  obtain ⟨A, c, rfl⟩ := Kd.R_slice hR
  have HA := Aside0.mk h0
  have HL := Aside0.mk h1
  clear hm hR h0 h1
  go_enter Try.func24, Try.ntmps24
  go_wp2
  go_loopg [1, 5] l.length (fun kq v1 v5 w' => ∃ (i : Int), v1 = .int .i64 (a + i) ∧ v5 = .int .i64 i ∧ Aside0 (0 ≤ i ∧ i + kq = l.length) ∧ Aside0 (Marked ok w0 w'))
  case atStart => exact ⟨0, by rw [Int.add_zero], rfl, ⟨⟨Int.le_refl _, by omega⟩⟩, HM⟩
  case round =>
    obtain ⟨i, rfl, rfl, HI, HW⟩ := hrel
    by_cases c3 : i < (l.length : Int)
    · have c3b := decide_eq_true c3
      have hi := HI.out.1
      obtain ⟨g, c', e, gb, gl, cl, HG⟩ := Kd.R_form HR.out (by omega)
      cases e
      obtain ⟨hx0, hf0⟩ := Kd.R_celln 0 HR.out i hi c3
      obtain ⟨y, hx⟩ := HW.out.int hx0
      have hf := HW.out.2.2 _ _ hx0 hf0
      have HN := Aside0.mk (HW.out.setInt hx0 (hok _ (HR.out.1 _ rfl)) (a + i))
      have q1 := eq_true hi
      have q2 := eq_true c3
      have e1 : wrap64 (a + i + 1) = a + (i + 1) := by have := HA.out; have := HL.out; rw [w64' (by omega) (by omega)]; omega
      have e2 : wrap64 (i + 1) = i + 1 := by have := HA.out; have := HL.out; rw [w64' (by omega) (by omega)]
      clear hx0 hf0 HG cl gb gl c3 hi
      go_wp2
      go_roundg (gk - 1)
      case measure => have := HI.out; have := of_eq_true q2; omega
      case rel => exact ⟨i + 1, by rw [e1], by rw [e2], ⟨by have := HI.out; have := of_eq_true q2; omega⟩, by first | exact HN | exact ⟨HN.out.drewN _⟩⟩
    · have c3b := decide_eq_false c3
      have hi := HI.out
      clear c3
      go_wp2
      go_ret
      exact ⟨by rw [show i = (l.length : Int) by have := of_decide_eq_false c3b; omega]; rfl, by first | exact HW.out | exact HW.out.drewN _⟩
def cntR : List S57 → Int
  | [] => 0
  | x :: r => x.f0.length + x.f1.length + cntR r
theorem cntR_nonneg : ∀ l, 0 ≤ cntR l
  | [] => Int.le_refl _
  | x :: r => by have := cntR_nonneg r; rw [cntR]; omega
theorem cntR_drop (l : List S57) (i : Int) (h0 : 0 ≤ i) (h : i < l.length) : cntR (l.drop i.toNat) = (rd_T57 l i).f0.length + (rd_T57 l i).f1.length + cntR (l.drop (i + 1).toNat) := by
  have hn : i.toNat < l.length := by omega
  have e : rd_T57 l i = l[i.toNat] := by simp [rd_T57, List.getD_eq_getElem?_getD, List.getElem?_eq_getElem hn]
  rw [List.drop_eq_getElem_cons hn, cntR, e, show (i + 1).toNat = i.toNat + 1 by omega]
theorem markRow (ok ok' : Nat → Prop) (w0 : World) (base : Nat) (v : Value) (l : List S57) (hR : Kd.R k57 57 w0 base ok' v l) (hok : ∀ k, ok' k → ok k) (w : World) (hm : Marked ok w0 w) (a : Int) (h0 : 0 ≤ a) (h1 : a + cntR l + l.length ≤ 4611686018427387904) :
    Calls Try.prog 47 #[v, .int .i64 a] w fun e w' => e = .returned (.int .i64 (a + cntR l)) ∧ Marked ok w0 w' := by
  have HM := Aside0.mk hm
  have HR := Aside0.mk hR
  obtain ⟨A, c, rfl⟩ := Kd.R_slice hR
  have HA := Aside0.mk h0
  have HL := Aside0.mk h1
  clear hm hR h0 h1
  go_enter Try.func47, Try.ntmps47
  go_wp2
  go_loopg [1, 5] l.length (fun kq v1 v5 w' => ∃ (i : Int) (b : Int), v1 = .int .i64 b ∧ v5 = .int .i64 i ∧ Aside0 (0 ≤ i ∧ i + kq = l.length ∧ 0 ≤ b ∧ b + cntR (l.drop i.toNat) = a + cntR l) ∧ Aside0 (Marked ok w0 w'))
  case atStart => exact ⟨0, a, rfl, rfl, ⟨⟨Int.le_refl _, by omega, HA.out, rfl⟩⟩, HM⟩
  case round =>
    obtain ⟨i, b, rfl, rfl, HI, HW⟩ := hrel
    by_cases c3 : i < (l.length : Int)
    · have c3b := decide_eq_true c3
      have hi := HI.out.1
      obtain ⟨g, c', e, gb, gl, cl, HG⟩ := Kd.R_form HR.out (by omega)
      cases e
      have hn := (Kd.R_reads' HR.out).1
      obtain ⟨cs, hcl, hM, hcc, hff⟩ := Kd.R_elem HR.out z57 i HI.out.1 c3
      obtain ⟨v0, v1, rfl, g0, g1⟩ := k57_openM hM
      have ei : l.getD i.toNat z57 = rd_T57 l i := rfl
      rw [ei] at g0 g1
      have hs := cntR_drop l i HI.out.1 c3
      generalize hxx : rd_T57 l i = x at g0 g1 hs
      clear hxx
      obtain ⟨A0, c0, rfl⟩ := Kd.R_slice g0
      obtain ⟨A1, c1, rfl⟩ := Kd.R_slice g1
      have hx0 : w0.cell? ⟨g, i.toNat * 2, none⟩ = some (.slice A0 x.f0.length c0) := hcc 0 _ rfl
      have hx1 : w0.cell? ⟨g, i.toNat * 2 + 1, none⟩ = some (.slice A1 x.f1.length c1) := hcc 1 _ rfl
      have hn2 := cntR_nonneg (l.drop (i + 1).toNat)
      have hnl := cntR_nonneg l
      have X0 := HW.out.slice hx0
      have H1 := Aside0.mk hx1
      have G0 := Aside0.mk g0
      have G1 := Aside0.mk g1
      have q1 := eq_true HI.out.1
      have q2 := eq_true c3
      have HS := Aside0.mk hs
      have HS2 := Aside0.mk hn2
      have e2 : wrap64 (i + 1) = i + 1 := by have := HI.out.2.1; have := HL.out; have := HA.out; rw [w64' (by omega) (by omega)]
      have E2 := Aside0.mk e2
      have HO := Aside0.mk (show ∀ k, (ok' k ∧ k ≠ g) → ok k from fun k hk => hok k hk.1)
      have HQ := Aside0.mk (show 0 ≤ b ∧ b + x.f0.length + x.f1.length ≤ 4611686018427387904 by have := HI.out.2.2; have := HL.out; omega)
      clear hcc hff hM hcl hx0 hx1 ei HG cl gb gl c3 hn g0 g1 hs hn2 hi e2 hnl
      go_wp2_with (first
        | (go_at_call 24; (with_reducible refine (markInt ok _ w0 base _ _ G0.out HO.out _ ?side1 _ ?side2 ?side3).mono ?_); (case side1 => first | exact HW.out | exact HW.out.drewN _); (case side2 => have := HQ.out; omega); (case side3 => have := HQ.out; omega); rintro e w1 ⟨rfl, hm1⟩; have HM1 := Aside0.mk hm1; have X1 := hm1.slice H1.out; clear hm1)
        | (go_at_call 24; (with_reducible refine (markInt ok _ w0 base _ _ G1.out HO.out _ ?side1 _ ?side2 ?side3).mono ?_); (case side1 => first | exact HM1.out | exact HM1.out.drewN _); (case side2 => have := HQ.out; omega); (case side3 => have := HQ.out; omega); rintro e w2 ⟨rfl, hm2⟩))
      go_roundg (gk - 1)
      case measure => have := HI.out; have := of_eq_true q2; omega
      case rel => exact ⟨i + 1, _, rfl, by rw [E2.out], ⟨by have := HI.out; have := of_eq_true q2; have := HS.out; omega⟩, by first | exact ⟨hm2⟩ | exact ⟨hm2.drewN _⟩⟩
    · have c3b := decide_eq_false c3
      clear c3
      go_wp2
      go_ret
      exact ⟨by
        have e : i.toNat = l.length := by have := of_decide_eq_false c3b; have := HI.out.1; have := HI.out.2.1; omega
        have := HI.out.2.2.2
        rw [e, List.drop_length] at this
        rw [← this, show cntR [] = 0 from rfl, Int.add_zero]; rfl, by first | exact HW.out | exact HW.out.drewN _⟩
theorem markLm (ok : Nat → Prop) (base : Nat) (s : Int) (v : Value) (l : List S57) (w : World) (R : Kd.R k57 57 w base ok v l) (a : Int) (h0 : 0 ≤ a) (h1 : a + cntR l + l.length ≤ 4611686018427387904) :
    Calls Try.prog 23 #[.agg #[.int .i64 s, v], .int .i64 a] w fun e w' => e = .returned (.int .i64 (a + cntR l)) ∧ ((w.heap.size ≤ w'.heap.size ∧ w'.os = w.os ∧ w'.tape = w.tape ∧ w'.output = w.output) ∧ ∀ i, i < w.heap.size → ¬ ok i → w'.heap[i]? = w.heap[i]?) := by
  have hu29 := Try.underlying29
  obtain ⟨A, c, rfl⟩ := Kd.R_slice R
  have G := Aside0.mk R
  have HQ := Aside0.mk (And.intro h0 h1)
  have HO := Aside0.mk (show ∀ k, ok k → ok k from fun _ h => h)
  clear R h0 h1
  go_enter Try.func23, Try.ntmps23
  go_wp2_with (first
    | ((with_reducible refine gd 2 rfl ?_); refine zJ 2 #[.int .i64 s, .slice A l.length c] 29 ?_; intro gb hg w1 hbox hb; have Q := zK (Kd.R_below G.out hb); have B0 := zK ((blk_cell hbox 0).trans rfl : w1.cell? ⟨gb, 0, none⟩ = some (.int .i64 s)); have B1 := zK ((blk_cell hbox 1).trans rfl : w1.cell? ⟨gb, 1, none⟩ = some (.slice A l.length c)); have X0 := B1.out; have HB1 := zK hb; have HM0 := zK (Marked.refl (ok := ok) (w0 := w1)); clear hbox hb hg)
    | (go_at_call 47; (with_reducible refine (markRow ok _ w1 base _ _ Q.out HO.out _ ?side1 _ ?side2 ?side3).mono ?_); (case side1 => first | exact HM0.out | exact HM0.out.drewN _); (case side2 => have := HQ.out; omega); (case side3 => have := HQ.out; omega); rintro e w2 ⟨rfl, hm1⟩; have HM5 := zK hm1; clear hm1))
  go_ret
  refine ⟨zE, ?_, fun i hi hn => ?_⟩
  · exact ⟨Nat.le_trans HB1.out.size HM5.out.1.1.1, HM5.out.1.1.2.1.trans HB1.out.os, HM5.out.1.1.2.2.1.trans HB1.out.tape, HM5.out.1.1.2.2.2.trans HB1.out.output⟩
  · exact (HM5.out.1.2 i (Nat.lt_of_lt_of_le hi HB1.out.size) hn).trans (HB1.out.block i hi)
/-! The contract as the law's walk wants it. -/
def mkT : List Nat := [3, 57]
def OwnT (base : Nat) (W : World) (k : Nat) : Prop := base ≤ k ∧ ∃ q, q ∈ mkT ∧ ∃ cells, W.heap[k]? = some (.cells cells q (0, 0))
def Turned (ok : Nat → Prop) (base : Nat) (W w' : World) : Prop := (W.heap.size ≤ w'.heap.size ∧ w'.os = W.os ∧ w'.tape = W.tape ∧ w'.output = W.output) ∧ ∀ i, i < W.heap.size → ¬ (ok i ∧ OwnT base W i) → w'.heap[i]? = W.heap[i]?
theorem ownT {α : Type} {d : Kd α} {e : Nat} {W : World} {base : Nat} {ok : Nat → Prop} {v : Value} {xs : List α} (h : d.R e W base ok v xs) (ht : ∀ q, q ∈ e :: d.E → q ∈ mkT) : d.R e W base (fun k => ok k ∧ OwnT base W k) v xs :=
  Kd.R_mono (Kd.R_bound h) (fun k hk => ⟨hk.1, hk.2.1, by obtain ⟨_, _, _, q, hq, c⟩ := hk; exact ⟨q, ht q hq, c⟩⟩)
def markF (l : List S57) (a : Int) : Option Int := if 0 ≤ a ∧ a + cntR l + l.length ≤ 4611686018427387904 then some (a + cntR l) else none
theorem markLm_E (ok : Nat → Prop) (s : Int) (l : List S57) (a r : Int) (base : Nat) {v : Value} (W : World) (R : Kd.R k57 57 W base ok v l) (h : markF l a = some r) :
    Calls Try.prog 23 #[.agg #[.int .i64 s, v], .int .i64 a] W fun e w' => e = .returned (.int .i64 r) ∧ Turned ok base W w' := by
  unfold markF at h
  by_cases c : 0 ≤ a ∧ a + cntR l + l.length ≤ 4611686018427387904
  · rw [if_pos c] at h
    cases h
    exact markLm (fun k => ok k ∧ OwnT base W k) base s v l W (ownT R (by decide)) a c.1 c.2
  · rw [if_neg c] at h; cases h
theorem Turned.R {ok o2 : Nat → Prop} {W w' : World} {base b2 : Nat} {v : Value} {xs : List Int} (t : Turned ok b2 W w') (h : Kd.R (Kd.int .i64) 3 W base o2 v xs) (hn : ∀ k, some k = v.ownBlock → ok k → False) : Kd.R (Kd.int .i64) 3 w' base o2 v xs :=
  Kd.R_reok rfl (Kd.R_mono (ok' := fun k => some k = v.ownBlock) (Kd.R_move (Kd.R_bound (Kd.R_tight rfl h)) (fun k hk => t.2 k hk.2.2.1 (fun o => hn k hk.1 o.1))) (fun _ hk => hk.1)) (fun k e => h.1 k e)
theorem Turned.block {ok : Nat → Prop} {W w' : World} {b2 g t : Nat} {cs : Array Value} (m : Turned ok b2 W w') (h : W.heap[g]? = some (.cells cs t (0, 0))) (ht : t ∉ mkT) : w'.heap[g]? = some (.cells cs t (0, 0)) :=
  (m.2 g (blk_lt h) (fun ⟨_, _, q, hq, c, hc⟩ => by rw [h] at hc; cases hc; exact ht hq)).trans h
theorem Turned.below {ok : Nat → Prop} {w W w' : World} (m : Turned ok w.heap.size W w') (h : Below w.heap.size w W) : Below w.heap.size w w' :=
  ⟨m.1.2.1.trans h.os, m.1.2.2.1.trans h.tape, m.1.2.2.2.trans h.output, Nat.le_trans h.size m.1.1, fun k hk => (m.2 k (Nat.lt_of_lt_of_le hk h.size) (fun o => by have := o.2.1; omega)).trans (h.block k hk)⟩
end Go.Proofs.Ytdlhmhgpafegpaa.Marks
