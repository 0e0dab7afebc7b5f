-- Printed out of the translation by this session's own turned copy of a printer; Lean checks it.
import Derived.Test.YtdlhmhgpafegpaaPFnExactHouseOkx0
import Derived.Test.YtdlhmhgpafegpaaPFnExactHouseOkx2
namespace Go.Proofs.Ytdlhmhgpafegpaa.PFnExactHouseOk
open Go.RowKit Go.Proofs.YtdlhmhgpafegpaaW.PrintWords Go.Proofs.YtdlhmhgpafegpaaW.PrintLast Go.Proofs.YtdlhmhgpafegpaaW.PrintMore
attribute [local go_sem] max2_int min2_int max_two min_two max_three min_three max_four min_four
set_option linter.unusedVariables false
set_option linter.unusedSimpArgs false
set_option maxHeartbeats 8000000
set_option maxRecDepth 100000
def laws_toRow.f (k : Nat) (l : List Int) (q : List Int) : Option (List Int × List Int) := (laws_toIntS.f k l).bind fun u => ((laws_toIntS.f k q).bind fun y => (some (u, y)))
theorem laws_toRow.calls (k) (O) (T) (y : List Int) (U) (X) (z : List Int) (r1 : List Int) (r2 : List Int) (w) (j0 : Kd.C (Kd.int .i64) w O y.length y) (l0 : y.length ≤ T) (m0 : Kd.C (Kd.int .i64) w U z.length z) (n0 : z.length ≤ X) (h : laws_toRow.f k y z = some (r1, r2)) :
 Calls Try.prog 50 #[.agg #[.slice O y.length T, .slice U z.length X]] w fun e w' => ∃ v0_ v1_ : Value, e = .returned (.agg #[v0_, v1_]) ∧ Kd.R (Kd.int .i64) 3 w' w.heap.size (fun k_ => some k_ ≠ (v1_ : Value).ownBlock) v0_ r1 ∧ Kd.R (Kd.int .i64) 3 w' w.heap.size (fun k_ => some k_ ≠ (v0_ : Value).ownBlock) v1_ r2 ∧ Below w.heap.size w w' := by
 have E1 := Try.underlying71
 have F1 := Try.underlying57
 have x0 := zK j0
 have y0 := zK l0
 clear j0 l0
 have A0 := zK m0
 have B0 := zK n0
 clear m0 n0
 have HB := zK (Below.refl w.heap.size w)
 have H : ((laws_toIntS.f k y).bind fun L => ((laws_toIntS.f k z).bind fun a0 => (some (L, a0)))) = some (r1, r2) := h
 clear h
 replace H := z6 H
 obtain ⟨L, E0, H⟩ := H
 have A2 := zK E0
 clear E0
 replace H := z6 H
 obtain ⟨a0, F0, H⟩ := H
 have A3 := zK F0
 clear F0
 simp only [Option.some.injEq, Prod.mk.injEq] at H
 obtain ⟨rfl, rfl⟩ := H
 go_enter Try.func50, Try.ntmps50
 go_wp2_with (first | ((with_reducible refine gd 1 rfl ?_); refine zJ 1 #[.slice O y.length T, .slice U z.length X] 71 ?_; intro q1 hg w4 hbox hb; have B := z8 hb; have E := zK (hbox); have I := z9 hg; have J := z9 hg; revert B E I J; clear HB; intro HB l s1 t1; clear hb hbox hg) | ((with_reducible refine gd 2 rfl ?_); refine zJ 2 #[.slice none 0 0, .slice none 0 0] 57 ?_; intro C0 hg w5 hbox hb; have B := z7 l hb; have E := z8 hb; have I := zK (hbox); have J := z9 hg; have M := z9 hg; have b0 := zHH hg l; have q0 := zGG hg l; revert B E I J M b0 q0; clear l HB; intro l HB q x1 y1 c0 d0; clear hb hbox hg) | ((with_reducible refine gd 3 rfl ?_); refine zJ 3 #[.slice none 0 0, .slice none 0 0] 57 ?_; intro D0 hg w6 hbox hb; have B := z7 l hb; have E := z7 q hb; have I := z8 hb; have J := zK (hbox); have M := z9 hg; have b0 := z9 hg; have q0 := zHH hg l; have i1 := zGG hg l; have j1 := zHH hg q; have l1 := zGG hg q; revert B E I J M b0 q0 i1 j1 l1; clear l q HB; intro l q HB u A1 B1 e0 f0 g0 i0; clear hb hbox hg; have J1 := c0.out; have L1 := d0.out; have M1 := e0.out; have N1 := f0.out; obtain ⟨m1, n1, o1, p1⟩ := zc2 l) | ((with_reducible refine gc 20 rfl ?_); refine zF 6 Try.func20 #[.slice O y.length T] rfl zL ?_; refine (laws_toIntS.calls k _ _ y L _ (zS x0) y0.out A2.out).mono ?_; rintro e O1 ⟨v145, rfl, o0, hb⟩; refine ⟨_, rfl, ?_⟩; have B := zK (Kd.R_lower o0 (zz zB)); have E := z7 l hb; have I := z7 q hb; have J := z7 u hb; have M := z8 hb; revert B E I J M; clear l q u HB; intro A l q u HB; obtain ⟨s0, t0, G0⟩ := Kd.R_slice A.out; subst G0; have C1 := i0.out; have D1 := g0.out; obtain ⟨M0, N0, O0, R0⟩ := zc2 u; obtain ⟨S0, T0, U0, V0⟩ := zc2 l) | ((with_reducible refine gc 20 rfl ?_); refine zF 10 Try.func20 #[.slice U z.length X] rfl zL ?_; refine (laws_toIntS.calls k _ _ z a0 _ (z4 A0.out zB) B0.out A3.out).mono ?_; rintro e R1 ⟨v148, rfl, o0, hb⟩; refine ⟨_, rfl, ?_⟩; have B := zK (Kd.R_elder' (Kd.R_mono (zlR (Kd.R_types A.out u.out (by decide))) (fun _ h_ => h_.1)) (Kd.R_base o0) hb); have E := zK (Kd.R_lower (Kd.R_new' o0 (Kd.R_lt (Kd.R_mono (zlR (Kd.R_types A.out u.out (by decide))) (fun _ h_ => h_.1)))) (zz zB)); have I := zK (zg (zV l) hb); have J := zK (zg (zV q) hb); have M := zK (zg (g := D0) (o := .cells #[.slice s0 L.length t0, .slice none 0 0] 57 (0, 0)) (zW u) hb); have b0 := z8 hb; revert B E I J M b0; clear A l q u HB; intro A p0 l q u HB; obtain ⟨I0, J0, L0⟩ := Kd.R_slice p0.out; subst L0; obtain ⟨X0, a1, b1, c1⟩ := zc2 u; obtain ⟨d1, e1, f1, g1⟩ := zc2 q))
 refine bodyPost_ret (results_cell_row rfl _ _ C0 57 #[.slice s0 L.length t0, .slice I0 a0.length J0] (0, 0) _ rfl (zW q) Try.underlying57 rfl (by kernel_rfl)) rfl ?_
 exact ⟨_, _, zE, Kd.R_mono (zlR (Kd.R_types (Kd.R_types A.out u.out (by decide)) q.out (by decide))) (fun _ hk => hk.1.1.2), Kd.R_mono (zlR (Kd.R_types (Kd.R_types p0.out u.out (by decide)) q.out (by decide))) (fun _ hk => hk.1.1.2), zB⟩
def laws_toRowS.l0 : Nat → List (S71) → List (S57) → Int → Option ((List (S57)))
 | 0, _, _, _ => none
 | k + 1, u, y, l => if l < (u.length : Int) then (if 0 ≤ l then ((laws_toRow.f k ((rd_T71 u l).f0) ((rd_T71 u l).f1)).bind fun q => (if l < (y.length : Int) then (laws_toRowS.l0 k u (y.set (l : Int).toNat (⟨q.1, q.2⟩ : S57)) (wrap64 (l + 1))) else (none))) else (none)) else (some y)
def laws_toRowS.f (k : Nat) (l : List (S71)) : Option ((List (S57))) := if 0 ≤ (l.length : Int) then (if ((l.length : Int) : Int).toNat ≤ 5864062014805 then (laws_toRowS.l0 k l (List.replicate ((l.length : Int) : Int).toNat z57) 0) else (none)) else (none)
theorem laws_toRowS.calls (k) (A0) (c0) (y : List (S71)) (r : List (S57)) (w) (b1 : Kd.C k71 w A0 y.length y) (c1 : y.length ≤ c0) (h : laws_toRowS.f k y = some r) :
 Calls Try.prog 31 #[.slice A0 y.length c0] w fun e w' => ∃ v0_ : Value, e = .returned (v0_) ∧ Kd.S k57 57 w' w.heap.size (fun _ => True) v0_ r ∧ Below w.heap.size w w' := by
 have F1 := Try.underlying71
 have G1 := Try.underlying57
 have y1 := zK b1
 have M1 := zK c1
 clear b1 c1
 have HB := zK (Below.refl w.heap.size w)
 have H : (if 0 ≤ (y.length : Int) then (if ((y.length : Int) : Int).toNat ≤ 5864062014805 then (laws_toRowS.l0 k y (List.replicate ((y.length : Int) : Int).toNat z57) 0) else (none)) else (none)) = some r := h
 clear h
 by_cases c2 : 0 ≤ (y.length : Int)
 rotate_left
 · rw [if_neg c2] at H
   exact absurd H (by simp)
 rw [if_pos c2] at H
 have j1 := eq_true c2
 have l1 := z1 c2
 clear c2
 by_cases c3 : ((y.length : Int) : Int).toNat ≤ 5864062014805
 rotate_left
 · rw [if_neg c3] at H
   exact absurd H (by simp)
 rw [if_pos c3] at H
 have m1 := eq_true c3
 have n1 := z1 c3
 clear c3
 obtain ⟨E0, B⟩ : ∃ y_ : List (S57), y_ = (List.replicate ((y.length : Int) : Int).toNat z57) := ⟨_, rfl⟩
 replace H : (laws_toRowS.l0 k y E0 0) = some r := by first | (rw [B]; with_reducible exact H) | (have L := (Option.bind_some _ _).symm.trans H; rw [B]; with_reducible exact L) | (have L := (Option.bind_some _ _).symm.trans H; with_reducible exact L) | with_reducible exact H | (rw [B]; exact H) | exact H
 have Ny150 := zK B
 clear B
 have H' := zK H
 clear H
 go_enter Try.func31, Try.ntmps31
 go_wp2_with (first | ((with_reducible refine gd 7 rfl ?_); refine Kd.S_make k57 _ 57 rfl (N := 7) rfl 27 _ _ rfl (y.length : Int) rfl rfl Try.underlying27 (.agg #[(.slice none 0 0), (.slice none 0 0)]) 48 info57 rfl (by decide) (by omega) z57 (ok := fun _ => True) (okp := fun _ => True) (k57_mkM _ _ _ z57 (Kd.R_nil _ _ _ _ _) (Kd.R_nil _ _ _ _ _)) (fun _ hk => hk) trivial (z3) (Nat.le_trans (Nat.mul_le_mul_right _ (z3 : (y.length : Int).toNat ≤ 5864062014805)) (by omega)) (Below.refl _ _) (Nat.le_refl _) ?_; intro v151 w4 j0 hb hg_ hnew_; clear hg_ hnew_; (first | rw [← Ny150.out] at j0 | (simp only [Int.reduceToNat] at j0; rw [← Ny150.out] at j0)); have m0 := zK (Kd.S_lower j0 (zz zB)); have n0 := z8 hb; revert m0 n0; clear HB; intro V0 HB; clear hb j0))
 go_loopg [4] k (fun kq v4 w' => ∃ (u : List (S57)) (l : Int), v4 = .int .i64 l ∧ Aside0 (laws_toRowS.l0 kq y u l = some r) ∧ Aside0 (kq ≤ k) ∧ Aside0 (Kd.S k57 57 w' w.heap.size (fun _ => True) v151 u) ∧ Aside0 (Below w.heap.size w w'))
 case atStart => exact ⟨(E0), (0), zR, H', ⟨Nat.le_refl _⟩, ⟨zkS V0⟩, ⟨zB⟩⟩
 clear H'
 try clear c2
 try clear j1
 try clear l1
 try clear p2
 try clear c3
 try clear m1
 try clear n1
 obtain ⟨u, l, rfl, HA, d1, q, HB⟩ := hrel
 rcases gk with _ | k1
 · exact absurd HA.out (by simp [laws_toRowS.l0])
 have H := HA.out
 clear HA
 simp only [laws_toRowS.l0] at H
 by_cases c6 : l < (y.length : Int)
 rotate_left
 · rw [if_neg c6] at H
   have o1 := z2 c6
   clear c6
   obtain rfl := z5 H
   go_wp2
   go_ret
   exact ⟨_, zE, zkS q, zB⟩
 rw [if_pos c6] at H
 have o1 := z1 c6
 clear c6
 by_cases c7 : 0 ≤ l
 rotate_left
 · rw [if_neg c7] at H
   exact absurd H (by simp)
 rw [if_pos c7] at H
 have I1 := z1 c7
 clear c7
 replace H := z6 H
 obtain ⟨⟨z, A⟩, e1, H⟩ := H
 replace H : (if l < (u.length : Int) then (laws_toRowS.l0 k1 y (u.set (l : Int).toNat (⟨z, A⟩ : S57)) (wrap64 (l + 1))) else (none)) = some r := H
 have A8 := zK e1
 clear e1
 by_cases c9 : l < (u.length : Int)
 rotate_left
 · rw [if_neg c9] at H
   exact absurd H (by simp)
 rw [if_pos c9] at H
 have L1 := z1 c9
 clear c9
 obtain ⟨o0, E⟩ : ∃ y_ : List (S57), y_ = (u.set (l : Int).toNat (⟨z, A⟩ : S57)) := ⟨_, rfl⟩
 replace H : (laws_toRowS.l0 k1 y o0 (wrap64 (l + 1))) = some r := by first | (rw [E]; with_reducible exact H) | (have L := (Option.bind_some _ _).symm.trans H; rw [E]; with_reducible exact L) | (have L := (Option.bind_some _ _).symm.trans H; with_reducible exact L) | with_reducible exact H | (rw [E]; exact H) | exact H
 have Ny160 := zK E
 clear E
 have H' := zK H
 clear H
 have p0 : 0 ≤ (l : Int) := z3
 have q0 : l < (y.length : Int) := z3
 obtain ⟨E1, F0, G0, I0, J0, p1, O, T, U, X, a0, b0⟩ := at_T71 y1.out l p0 q0
 cases p1
 (try replace O := zX HB O)
 (try replace T := zX HB T)
 have y0 := zK X
 have B0 := zK U
 clear X U
 have C0 := zK b0
 have D0 := zK a0
 clear b0 a0
 replace p0 := eq_true p0
 replace q0 := eq_true q0
 go_wp2_with (first | ((with_reducible refine gc 50 rfl ?_); refine zF 20 Try.func50 #[.agg #[.slice F0 ((rd_T71 y l).f0).length G0, .slice I0 ((rd_T71 y l).f1).length J0]] rfl zL ?_; refine (laws_toRow.calls k1 _ _ ((rd_T71 y l).f0) _ _ ((rd_T71 y l).f1) z A _ (zS y0) B0.out (zS C0) D0.out A8.out).mono ?_; rintro e M ⟨v155, v158, rfl, g1, i1, hb⟩; refine ⟨_, rfl, ?_⟩; have m0 := zK (Kd.S_mono (Kd.S_told (Kd.S_told (Kd.S_old (zkS q) hb) (Kd.R_base g1)) (Kd.R_base i1)) (fun _ h_ => h_.1)); have n0 := zK (Kd.R_lower g1 (zz zB)); have A1 := zK (Kd.R_lower i1 (zz zB)); have B1 := z8 hb; revert m0 n0 A1 B1; clear q HB; intro q I J HB; have L0 : 0 ≤ (l : Int) := z3; have M0 : (l : Int) < ((u.length : Int) : Int) := z3; obtain ⟨go10, N0, O0, R0, gl10, cl10, HG10⟩ := Kd.S_form q.out (by omega); (first | cases O0 | (injection O0 with ea_ en_ ec_; (first | subst ea_ | (injection ea_ with ea_; subst ea_)); subst ec_; clear en_)); have GB10 := zK R0; have GG10 := zK HG10; clear R0 gl10 HG10; obtain ⟨_, ce10, hcl10, hM10, hcc10, hfr10, _, _⟩ := Kd.S_elem q.out z57 (l : Int) L0 M0; obtain ⟨ve10_0, ve10_1, rfl, ge10_0, ge10_1⟩ := k57_openM hM10; have C1 : M.cell? ⟨go10, (l : Int).toNat * 2, none⟩ = some (ve10_0) := hcc10 0 _ rfl; have D1 : M.cell? ⟨go10, (l : Int).toNat * 2 + 1, none⟩ = some (ve10_1) := hcc10 1 _ rfl; have hf10_0 : M.frozen? ⟨go10, (l : Int).toNat * 2, none⟩ = false := hfr10 0; have hf10_1 : M.frozen? ⟨go10, (l : Int).toNat * 2 + 1, none⟩ = false := hfr10 1; clear hcl10 hcc10 hfr10 hM10; replace L0 := eq_true L0; replace M0 := eq_true M0; obtain ⟨d0, e0, q1⟩ := Kd.R_slice J.out; subst q1; obtain ⟨g0, i0, s1⟩ := Kd.R_slice I.out; subst s1; have n_ := zK (Kd.S_mono (ok' := (fun k_ => some k_ ≠ (.slice g0 z.length i0 : Value).ownBlock ∧ some k_ ≠ (.slice d0 A.length e0 : Value).ownBlock)) q.out (fun k_ hk => ⟨hk.1.2, hk.2⟩)); clear q; have q := n_; clear n_; have HX14 := zK (show Kd.S k57 57 M w.heap.size (fun k_ => ((fun _ => True)) k_ ∧ ¬ ((fun k_ => some k_ = (.slice g0 z.length i0 : Value).ownBlock ∨ some k_ = (.slice d0 A.length e0 : Value).ownBlock)) k_) (.slice (some ⟨go10, 0, none⟩) u.length N0) u from (Kd.S_mono (zlS q.out) (fun k_ hk => ⟨trivial, fun e_ => e_.elim (fun h_ => hk.1 h_) (fun h_ => hk.2 h_)⟩))); obtain ⟨oki14, ce14, hcl14, hM14, hcc14, hfr14, hoki14, hH14⟩ := Kd.S_elem HX14.out z57 (l : Int) (z3) (by have h_ : (l : Int) < ((u.length : Int) : Int) := z3; first | exact h_ | (have e_ := (Kd.S_reads' q.out).1; omega) | simpa using h_); obtain ⟨ve14_0, ve14_1, rfl, ge14_0, ge14_1⟩ := k57_openM hM14; have HP14 := Kd.S_seg hH14 (z3) (by have h_ : (l : Int) < ((u.length : Int) : Int) := z3; first | exact h_ | (have e_ := (Kd.S_reads' q.out).1; omega) | simpa using h_) (seg := [.slice g0 z.length i0, .slice d0 A.length e0]) (j := 0) (show 2 ≤ 2 from by decide) (x' := (⟨z, A⟩ : S57)) (k57_mkM _ _ _ (⟨z, A⟩ : S57) (Kd.R_mono (Kd.R_tight rfl (Kd.R_mono (ok' := fun k_ => ((fun _ => True)) k_ ∧ k_ ≠ go10) (Kd.R_apart' (I.out) (Kd.S_typed q.out) (by decide)) (fun k_ hk => ⟨trivial, fun e_ => (hk.2) (by rw [e_]; rfl)⟩))) (fun _ h_ => Or.inr (Or.inl h_))) (Kd.R_mono (Kd.R_tight rfl (Kd.R_mono (ok' := fun k_ => ((fun _ => True)) k_ ∧ k_ ≠ go10) (Kd.R_apart' (J.out) (Kd.S_typed q.out) (by decide)) (fun k_ hk => ⟨trivial, fun e_ => (hk.2) (by rw [e_]; rfl)⟩))) (fun _ h_ => Or.inr (Or.inr (h_))))) (fun _ hk => hk) (fun k_ hk_ => hk_.elim (fun h_ => ((Kd.R_mono (ok' := fun k_ => ((fun _ => True)) k_ ∧ k_ ≠ go10) (Kd.R_apart' (I.out) (Kd.S_typed q.out) (by decide)) (fun k_ hk => ⟨trivial, fun e_ => (hk.2) (by rw [e_]; rfl)⟩))).1 k_ h_.symm) (fun h_ => ((Kd.R_mono (ok' := fun k_ => ((fun _ => True)) k_ ∧ k_ ≠ go10) (Kd.R_apart' (J.out) (Kd.S_typed q.out) (by decide)) (fun k_ hk => ⟨trivial, fun e_ => (hk.2) (by rw [e_]; rfl)⟩))).1 k_ h_.symm)); have S0 := hcc14 0 _ rfl; (try simp only [show (k57).sz = 2 from rfl, Nat.mul_one, Nat.add_zero] at S0); have hf14_0 := hfr14 0; (try simp only [show (k57).sz = 2 from rfl, Nat.mul_one, Nat.add_zero] at hf14_0); have T0 := hcc14 1 _ rfl; (try simp only [show (k57).sz = 2 from rfl, Nat.mul_one, Nat.add_zero] at T0); have hf14_1 := hfr14 1; (try simp only [show (k57).sz = 2 from rfl, Nat.mul_one, Nat.add_zero] at hf14_1); clear hcl14 hcc14 hfr14 hM14 hoki14 hH14) | ((with_reducible refine gate_store (t := 57) (p := 21) rfl ?_); refine store_event (t := 57) (p := 21) (v := ?vo_w15) (w1 := ((M.setCell ⟨go10, (l : Int).toNat * 2, none⟩ (.slice g0 z.length i0)).setCell ⟨go10, (l : Int).toNat * 2 + 1, none⟩ (.slice d0 A.length e0))) ?hg ?ho ?hn ?hr ?_; (case ho => rfl); (case hg => rfl); (case hn => rfl); (case hr => first | (go_simp; done) | (go_simp; rfl)); intro U0 hw; have hg : M.grownBy U0 (some go10) := (by rw [hw]; exact HP14.2); have hp_ : Kd.S k57 57 U0 w.heap.size (fun _ => True) (.slice (some ⟨go10, 0, none⟩) u.length N0) o0 := (by rw [hw, Ny160.out]; exact HP14.1); clear HP14; have m0 := zK (hp_); have n0 := zK ((by rw [hw]; exact zs (zs (HB.out) GB10.out) GB10.out : Below w.heap.size w U0)); revert m0 n0; clear q HB I J; intro q HB; clear hg hw hp_))
 go_roundg k1
 case measure => have := d1.out; omega
 case rel => exact ⟨(o0), (wrap64 (l + 1)), zR, H', ⟨by have := d1.out; omega⟩, ⟨zkS q⟩, ⟨zB⟩⟩
def laws_toLm.f (k : Nat) (l : Int) (q : List (S71)) : Option (Int × (List (S57))) := (laws_toRowS.f k q).bind fun u => (some (l, u))
theorem laws_toLm.calls (k) (z) (J) (L) (u : List (S71)) (r1) (r2 : List (S57)) (w) (d0 : Kd.C k71 w J u.length u) (e0 : u.length ≤ L) (h : laws_toLm.f k z u = some (r1, r2)) :
 Calls Try.prog 9 #[.agg #[.int .i64 z, .slice J u.length L]] w fun e w' => ∃ v1_ : Value, e = .returned (.agg #[.int .i64 r1, v1_]) ∧ Kd.S k57 57 w' w.heap.size (fun _ => True) v1_ r2 ∧ Below w.heap.size w w' := by
 have f1 := Try.underlying24
 have g1 := Try.underlying29
 have j0 := zK d0
 have l0 := zK e0
 clear d0 e0
 have HB := zK (Below.refl w.heap.size w)
 have H : ((laws_toRowS.f k u).bind fun M => (some (z, M))) = some (r1, r2) := h
 clear h
 replace H := z6 H
 obtain ⟨M, o0, H⟩ := H
 have A2 := zK o0
 clear o0
 simp only [Option.some.injEq, Prod.mk.injEq] at H
 obtain ⟨rfl, rfl⟩ := H
 go_enter Try.func9, Try.ntmps9
 go_wp2_with (first | ((with_reducible refine gd 1 rfl ?_); refine zJ 1 #[.int .i64 z, .slice J u.length L] 24 ?_; intro V0 hg w3 hbox hb; have A := z8 hb; have B := zK (hbox); have E := z9 hg; have I := z9 hg; revert A B E I; clear HB; intro HB l X0 a1; clear hb hbox hg) | ((with_reducible refine gd 2 rfl ?_); refine zJ 2 #[.int .i64 0, .slice none 0 0] 29 ?_; intro m0 hg w4 hbox hb; have A := z7 l hb; have B := z8 hb; have E := zK (hbox); have I := z9 hg; have O := z9 hg; have g0 := zHH hg l; have i0 := zGG hg l; revert A B E I O g0 i0; clear l HB; intro l HB q b1 c1 T U; clear hb hbox hg) | ((with_reducible refine gd 3 rfl ?_); refine zJ 3 #[.int .i64 0, .slice none 0 0] 29 ?_; intro n0 hg w5 hbox hb; have A := z7 l hb; have B := z7 q hb; have E := z8 hb; have I := zK (hbox); have O := z9 hg; have g0 := z9 hg; have i0 := zHH hg l; have L0 := zGG hg l; have M0 := zHH hg q; have N0 := zGG hg q; revert A B E I O g0 i0 L0 M0 N0; clear l q HB; intro l q HB y d1 e1 X a0 b0 c0; clear hb hbox hg; have j1 := T.out; have l1 := U.out; have m1 := X.out; have n1 := a0.out; obtain ⟨O0, R0, S0, T0⟩ := zc2 l; have o1 := c0.out; have p1 := b0.out; obtain ⟨t0, x0, y0, A0⟩ := zc2 y) | ((with_reducible refine gc 31 rfl ?_); refine zF 9 Try.func31 #[.slice J u.length L] rfl zL ?_; refine (laws_toRowS.calls k _ _ u M _ (z4 j0.out zB) l0.out A2.out).mono ?_; rintro e q1 ⟨v165, rfl, U0, hb⟩; refine ⟨_, rfl, ?_⟩; have A := zK (Kd.S_lower U0 (zz zB)); have B := zK (zg (zV l) hb); have E := zK (zg (zV q) hb); have I := zK (zg (g := n0) (o := .cells #[.int .i64 z, .slice none 0 0] 29 (0, 0)) (zW y) hb); have O := z8 hb; revert A B E I O; clear l q y HB; intro f0 l q y HB; obtain ⟨p0, q0, s0⟩ := Kd.S_slice f0.out; subst s0; obtain ⟨B0, C0, D0, E0⟩ := zc2 y; obtain ⟨F0, G0, I0, J0⟩ := zc2 q))
 refine bodyPost_ret (results_cell_row rfl _ _ m0 29 #[.int .i64 z, .slice p0 M.length q0] (0, 0) _ rfl (zW q) Try.underlying29 rfl (by kernel_rfl)) rfl ?_
 exact ⟨_, zE, Kd.S_mono (zlS (Kd.S_types (Kd.S_types f0.out y.out (by decide)) q.out (by decide))) (fun _ hk => trivial), zB⟩
def laws_toChoice.f (l : Int) (q : Int) (u : Int) : Option (Int × Int × Int) := some (l, q, u)
theorem laws_toChoice.calls (u) (y) (z) (r1) (r2) (r3) (w) (h : laws_toChoice.f u y z = some (r1, r2, r3)) :
 Calls Try.prog 39 #[.agg #[.int .i64 u, .int .i64 y, .int .i64 z]] w fun e w' => e = .returned (.agg #[.int .i64 r1, .int .i64 r2, .int .i64 r3]) ∧ Below w.heap.size w w' := by
 have S0 := Try.underlying34
 have T0 := Try.underlying39
 have HB := zK (Below.refl w.heap.size w)
 have H : (some (u, y, z)) = some (r1, r2, r3) := h
 clear h
 simp only [Option.some.injEq, Prod.mk.injEq] at H
 obtain ⟨rfl, rfl, rfl⟩ := H
 go_enter Try.func39, Try.ntmps39
 go_wp2_with (first | ((with_reducible refine gd 1 rfl ?_); refine zJ 1 #[.int .i64 u, .int .i64 y, .int .i64 z] 34 ?_; intro G0 hg w2 hbox hb; have A := z8 hb; have B := zK (hbox); have E := z9 hg; have I := z9 hg; revert A B E I; clear HB; intro HB l I0 J0; clear hb hbox hg) | ((with_reducible refine gd 2 rfl ?_); refine zJ 2 #[.int .i64 0, .int .i64 0, .int .i64 0] 39 ?_; intro c0 hg w3 hbox hb; have A := z7 l hb; have B := z8 hb; have E := zK (hbox); have I := z9 hg; have X := z9 hg; have a0 := zHH hg l; have b0 := zGG hg l; revert A B E I X a0 b0; clear l HB; intro l HB q L0 M0 J L; clear hb hbox hg) | ((with_reducible refine gd 3 rfl ?_); refine zJ 3 #[.int .i64 0, .int .i64 0, .int .i64 0] 39 ?_; intro N0 hg w4 hbox hb; have A := z7 l hb; have B := z7 q hb; have E := z8 hb; have I := zK (hbox); have X := z9 hg; have a0 := z9 hg; have b0 := zHH hg l; have m0 := zGG hg l; have n0 := zHH hg q; have o0 := zGG hg q; revert A B E I X a0 b0 m0 n0 o0; clear l q HB; intro l q HB d0 O0 R0 M O T U; clear hb hbox hg; have U0 := J.out; have V0 := L.out; have X0 := M.out; have a1 := O.out; obtain ⟨p0, q0, s0, t0, x0, y0⟩ := zc3 l; have b1 := U.out; have c1 := T.out; obtain ⟨A0, B0, C0, D0, E0, F0⟩ := zc3 d0; obtain ⟨e0, f0, g0, i0, j0, l0⟩ := zc3 q))
 refine bodyPost_ret (results_cell_row rfl _ _ c0 39 #[.int .i64 u, .int .i64 y, .int .i64 z] (0, 0) _ rfl (zW q) Try.underlying39 rfl (by kernel_rfl)) rfl ?_
 exact ⟨zE, zB⟩
def laws_toHouse.f (k : Nat) (u : Int) (y : List (S71)) (z : Int) (A : Int) (B : Int) (E : Int) (I : Int) (J : Int) : Option (Int × (List (S57)) × Int × Int × Int × Int × Int × Int) := (laws_toLm.f k u y).bind fun q => ((laws_toChoice.f z A B).bind fun l => (some (q.1, q.2, l.1, l.2.1, l.2.2, E, I, J)))
theorem laws_toHouse.calls (k) (a0) (e0) (f0) (y : List (S71)) (A) (B) (E) (I) (J) (L) (r1) (r2 : List (S57)) (r3) (r4) (r5) (r6) (r7) (r8) (w) (s0 : Kd.C k71 w e0 y.length y) (t0 : y.length ≤ f0) (h : laws_toHouse.f k a0 y A B E I J L = some (r1, r2, r3, r4, r5, r6, r7, r8)) :
 Calls Try.prog 14 #[.agg #[.int .i64 a0, .slice e0 y.length f0, .int .i64 A, .int .i64 B, .int .i64 E, .int .i64 I, .int .i64 J, .int .i64 L]] w fun e w' => ∃ v1_ : Value, e = .returned (.agg #[.int .i64 r1, v1_, .int .i64 r3, .int .i64 r4, .int .i64 r5, .int .i64 r6, .int .i64 r7, .int .i64 r8]) ∧ Kd.S k57 57 w' w.heap.size (fun _ => True) v1_ r2 ∧ Below w.heap.size w w' := by
 have J3 := Try.underlying36
 have L3 := Try.underlying41
 have M3 := Try.underlying24
 have N3 := Try.underlying29
 have O3 := Try.underlying34
 have R3 := Try.underlying39
 have D0 := zK s0
 have E0 := zK t0
 clear s0 t0
 have HB := zK (Below.refl w.heap.size w)
 have H : ((laws_toLm.f k a0 y).bind fun x0 => ((laws_toChoice.f A B E).bind fun z => (some (x0.1, x0.2, z.1, z.2.1, z.2.2, I, J, L)))) = some (r1, r2, r3, r4, r5, r6, r7, r8) := h
 clear h
 replace H := z6 H
 obtain ⟨⟨b0, c0⟩, I0, H⟩ := H
 replace H : ((laws_toChoice.f A B E).bind fun z => (some (b0, c0, z.1, z.2.1, z.2.2, I, J, L))) = some (r1, r2, r3, r4, r5, r6, r7, r8) := H
 have A2 := zK I0
 clear I0
 replace H := z6 H
 obtain ⟨⟨o0, p0, q0⟩, J0, H⟩ := H
 replace H : (some (b0, c0, o0, p0, q0, I, J, L)) = some (r1, r2, r3, r4, r5, r6, r7, r8) := H
 have A3 := zK J0
 clear J0
 simp only [Option.some.injEq, Prod.mk.injEq] at H
 obtain ⟨rfl, rfl, rfl, rfl, rfl, rfl, rfl, rfl⟩ := H
 go_enter Try.func14, Try.ntmps14
 go_wp2_with (first | ((with_reducible refine gd 1 rfl ?_); refine zJ 1 #[.int .i64 a0, .slice e0 y.length f0, .int .i64 A, .int .i64 B, .int .i64 E, .int .i64 I, .int .i64 J, .int .i64 L] 36 ?_; intro x3 hg w4 hbox hb; have M := z8 hb; have O := zK (hbox); have T := z9 hg; have U := z9 hg; revert M O T U; clear HB; intro HB l y3 B3; clear hb hbox hg) | ((with_reducible refine gd 2 rfl ?_); refine zJ 2 #[.int .i64 0, .slice none 0 0, .int .i64 0, .int .i64 0, .int .i64 0, .int .i64 0, .int .i64 0, .int .i64 0] 41 ?_; intro F0 hg w5 hbox hb; have M := z7 l hb; have O := z8 hb; have T := zK (hbox); have U := z9 hg; have d0 := z9 hg; have y0 := zHH hg l; have A0 := zGG hg l; revert M O T U d0 y0 A0; clear l HB; intro l HB q C3 D3 g0 i0; clear hb hbox hg) | ((with_reducible refine gd 3 rfl ?_); refine zJ 3 #[.int .i64 0, .slice none 0 0, .int .i64 0, .int .i64 0, .int .i64 0, .int .i64 0, .int .i64 0, .int .i64 0] 41 ?_; intro G0 hg w6 hbox hb; have M := z7 l hb; have O := z7 q hb; have T := z8 hb; have U := zK (hbox); have d0 := z9 hg; have y0 := z9 hg; have A0 := zHH hg l; have U2 := zGG hg l; have V2 := zHH hg q; have X2 := zGG hg q; revert M O T U d0 y0 A0 U2 V2 X2; clear l q HB; intro l q HB u E3 F3 j0 l0 m0 n0; clear hb hbox hg; have U3 := g0.out; have V3 := i0.out; have X3 := j0.out; have a4 := l0.out; obtain ⟨a3, b3, c3, d3, e3, f3, g3, i3, j3, l3, m3, n3, o3, p3, q3, s3⟩ := zc8 l) | ((with_reducible refine gc 9 rfl ?_); refine zF 6 Try.func9 #[.agg #[.int .i64 a0, .slice e0 y.length f0]] rfl zL ?_; refine (laws_toLm.calls k a0 _ _ y b0 c0 _ (zS D0) E0.out A2.out).mono ?_; rintro e b4 ⟨v175, rfl, t3, hb⟩; refine ⟨_, rfl, ?_⟩; have M := zK (Kd.S_lower t3 (zz zB)); have O := z7 l hb; have T := z7 q hb; have U := z7 u hb; have d0 := z8 hb; revert M O T U d0; clear l q u HB; intro X l q u HB; have G3 := n0.out; have I3 := m0.out; obtain ⟨M0, N0, O0, R0, S0, T0, U0, V0, X0, a1, b1, c1, d1, e1, f1, g1⟩ := zc8 u; obtain ⟨B0, C0, L0⟩ := Kd.S_slice X.out; subst L0; obtain ⟨i1, j1, l1, m1, n1, o1, p1, q1, s1, t1, x1, y1, A1, B1, C1, D1⟩ := zc8 l) | ((with_reducible refine gc 39 rfl ?_); refine zF 10 Try.func39 #[.agg #[.int .i64 A, .int .i64 B, .int .i64 E]] rfl zL ?_; (with_reducible refine (laws_toChoice.calls A B E o0 p0 q0 _ A3.out).mono ?_); rintro e c4 ⟨rfl, hb⟩; refine ⟨_, rfl, ?_⟩; have M := zK (Kd.S_below (Kd.S_mono (zlS (Kd.S_types X.out u.out (by decide))) (fun _ h_ => h_.1)) hb); have O := zK (zg (zV l) hb); have T := zK (zg (zV q) hb); have U := zK (zg (g := G0) (o := .cells #[.int .i64 b0, .slice B0 c0.length C0, .int .i64 0, .int .i64 0, .int .i64 0, .int .i64 0, .int .i64 0, .int .i64 0] 41 (0, 0)) (zW u) hb); have d0 := z8 hb; revert M O T U d0; clear X l q u HB; intro X l q u HB; obtain ⟨E1, F1, G1, I1, J1, L1, M1, N1, O1, R1, S1, T1, U1, V1, X1, a2⟩ := zc8 u; obtain ⟨b2, c2, d2, e2, f2, g2, i2, j2, l2, m2, n2, o2, p2, q2, s2, t2⟩ := zc8 l; obtain ⟨x2, y2, B2, C2, D2, E2, F2, G2, I2, J2, L2, M2, N2, O2, R2, T2⟩ := zc8 q))
 refine bodyPost_ret (results_cell_row rfl _ _ F0 41 #[.int .i64 b0, .slice B0 c0.length C0, .int .i64 o0, .int .i64 p0, .int .i64 q0, .int .i64 I, .int .i64 J, .int .i64 L] (0, 0) _ rfl (zW q) Try.underlying41 rfl (by kernel_rfl)) rfl ?_
 exact ⟨_, zE, Kd.S_mono (zlS (Kd.S_types (Kd.S_types X.out u.out (by decide)) q.out (by decide))) (fun _ hk => trivial), zB⟩
def impl_within.f (l : Int) (q : Int) (u : Int) : Option (Bool) := if l ≥ q then (some (decide (l ≤ u))) else (some false)
theorem impl_within.calls (q) (u) (y) (r : Bool) (w) (h : impl_within.f q u y = some r) :
 Calls Try.prog 32 #[.int .i64 q, .int .i64 u, .int .i64 y] w fun e w' => e = .returned (.bool r) ∧ Drawn0 w w' := by
 have H : (if q ≥ u then (some (decide (q ≤ y))) else (some false)) = some r := h
 clear h
 by_cases l : q ≥ u
 · rw [if_pos l] at H
   have z := z1 l
   clear l
   obtain rfl := z5 H
   go_enter Try.func32, Try.ntmps32
   go_wp2
   go_ret
   exact ⟨zR, zD⟩
 rw [if_neg l] at H
 have z := z2 l
 clear l
 obtain rfl := z5 H
 go_enter Try.func32, Try.ntmps32
 go_wp2
 go_ret
 exact ⟨zR, zD⟩
def impl_Row_51.f (q : List (S57)) : Option ((List (S57))) := (some (([] : List (S57)) : List (S57))).bind fun l => (if l.length + q.length < 2932031007402 then (some (l ++ q)) else (none))
theorem impl_Row_51.calls_some (q : Nat → Prop) (U) (X) (z : List (S57)) (r : List (S57)) (w) (b0 : Kd.V k57 57 w w.heap.size (fun k_ => q k_) (.slice U z.length X) z) (h : impl_Row_51.f z = some r) (hA0 : U ≠ none) :
 Calls Try.prog 51 #[.slice U z.length X] w fun e w' => ∃ v0_ : Value, e = .returned (v0_) ∧ Kd.N k57 57 w' w.heap.size (fun k_ => (q k_ ∨ w.heap.size ≤ k_)) v0_ r ∧ Below w.heap.size w w' := by
 obtain ⟨d0, rfl⟩ := Option.ne_none_iff_exists'.1 hA0
 clear hA0
 have hq := fun (w : World) (a : Option Addr) (n c n' c' : Nat) => Lib.run_eql_slice_nil w 27 57 a n c n' c' Try.underlying27
 have A := zK (show Kd.V k57 57 w w.heap.size (fun k_ => (q k_ ∨ w.heap.size ≤ k_)) (.slice (some d0) z.length X) z from Kd.V_mono b0 (fun k_ hk => .inl hk))
 have HB := zK (Below.refl w.heap.size w)
 have H : ((some (([] : List (S57)) : List (S57))).bind fun l => (if l.length + z.length < 2932031007402 then (some (l ++ z)) else (none))) = some r := h
 clear h
 obtain ⟨l, u⟩ : ∃ y_ : List (S57), y_ = (([] : List (S57))) := ⟨_, rfl⟩
 replace H : (if l.length + z.length < 2932031007402 then (some (l ++ z)) else (none)) = some r := by first | (rw [u]; with_reducible exact H) | (have B := (Option.bind_some _ _).symm.trans H; rw [u]; with_reducible exact B) | (have B := (Option.bind_some _ _).symm.trans H; with_reducible exact B) | with_reducible exact H | (rw [u]; exact H) | exact H
 have Ny180 := zK u
 clear u
 by_cases O : l.length + z.length < 2932031007402
 rotate_left
 · rw [if_neg O] at H
   exact absurd H (by simp)
 rw [if_pos O] at H
 have LMc2 := zK O
 clear O
 obtain ⟨a0, y⟩ : ∃ y_ : List (S57), y_ = (l ++ z) := ⟨_, rfl⟩
 replace H : (some a0) = some r := by first | (rw [y]; with_reducible exact H) | (have B := (Option.bind_some _ _).symm.trans H; rw [y]; with_reducible exact B) | (have B := (Option.bind_some _ _).symm.trans H; with_reducible exact B) | with_reducible exact H | (rw [y]; exact H) | exact H
 have Ny183 := zK y
 clear y
 obtain rfl := z5 H
 go_enter Try.func51, Try.ntmps51
 go_wp2_with (first | ((with_reducible refine gd 5 rfl ?_); refine Kd.N_lit k57 _ 57 ?hg (N' := 5) ?hd (xs := ([] : List (S57))) (inner := []) (ok := (fun k_ => (q k_ ∨ w.heap.size ≤ k_))) (okp := (fun k_ => (q k_ ∨ w.heap.size ≤ k_))) ?hr ?hp (fun _ hk => hk) ((show ∀ k_, w.heap.size ≤ k_ → (fun k_ => (q k_ ∨ w.heap.size ≤ k_)) k_ from fun k_ hk => (.inr (Nat.le_trans (zz zB) hk))) _ (Nat.le_refl _)) (Below.refl _ _) (Nat.le_refl _) (by simp) ?_; (case hd => rfl); (case hg => rfl); (case hr => first | (go_simp; done) | (go_simp; rfl)); (case hp => exact (Reps.none _ _)); intro v181 w3 E hb hg_ hnew_; clear hg_ hnew_; (first | rw [← Ny180.out] at E | (simp only [Int.reduceToNat] at E; rw [← Ny180.out] at E)); have J := zK (Kd.V_elder' (zkV A) (Kd.N_base E) hb); have L := zK (Kd.N_lower E (zz zB)); have M := z8 hb; revert J L M; clear A HB; intro A I HB; clear hb E) | ((with_reducible refine gate_builtin (b := .append) (xs := #[.tmp 5, .tmp 6]) rfl ?_); at_builtin; refine Kd.N_append_rows k57 (w0 := w) w.heap.size rfl (.tmp 5) (.tmp 6) 27 57 (.agg #[(.slice none 0 0), (.slice none 0 0)]) 48 rfl Try.underlying27 info57 rfl (by decide) (by omega) v181 l z _ _ _ (fun k_ => (q k_ ∨ w.heap.size ≤ k_)) (fun k_ => ((fun k_ => (q k_ ∨ w.heap.size ≤ k_))) k_ ∧ some k_ ≠ (v181 : Value).ownBlock) rfl rfl ?aO ?aR (fun _ hk => hk) ?aF ?aB ?aS ?aL ?_; (case aR => exact (by skip; exact Kd.V_F (Kd.V_mono (ok' := (fun k_ => ((fun k_ => (q k_ ∨ w.heap.size ≤ k_))) k_ ∧ some k_ ≠ (v181 : Value).ownBlock)) (A.out) (fun k_ hk => ⟨hk.1, hk.2⟩)))); (case aB => exact zB); (case aF => exact (fun k_ hk => (.inr (Nat.le_trans (zz zB) hk)))); (case aO => exact (zkN I)); (case aS => exact (zz zB)); (case aL => have := LMc2.out; omega); intro v184 w5 ho hb hg hat; rw [← Ny183.out] at ho; have J := zK (Kd.V_afterv (ok := (fun k_ => (q k_ ∨ w.heap.size ≤ k_))) (zkV A) hg hat); have L := zK (hb); have M := zK (ho); revert J L M; clear A HB I; intro A HB T; clear ho hb hg hat))
 go_ret
 exact ⟨_, zE, zkN T, zB⟩
theorem impl_Row_51.calls (q : Nat → Prop) (y) (z) (l : List (S57)) (r : List (S57)) (w) (u : Kd.V k57 57 w w.heap.size (fun k_ => q k_) (.slice y l.length z) l) (h : impl_Row_51.f l = some r) :
 Calls Try.prog 51 #[.slice y l.length z] w fun e w' => ∃ v0_ : Value, e = .returned (v0_) ∧ Kd.N k57 57 w' w.heap.size (fun k_ => (q k_ ∨ w.heap.size ≤ k_)) v0_ r ∧ Below w.heap.size w w' := by
 rcases y with _ | B
 · obtain rfl : l = [] := by
    rcases Nat.eq_zero_or_pos l.length with A | A
    · exact List.eq_nil_of_length_eq_zero A
    · obtain ⟨_, h1, _⟩ := (by first | exact E | exact (Kd.V_reads' u).2.2 : Kd.C k57 w none l.length l).2.2 A
      cases h1
   obtain rfl : r = [] := by simp [impl_Row_51.f] at h; first | exact h.symm | exact h
   have hq := fun (w : World) (a : Option Addr) (n c n' c' : Nat) => Lib.run_eql_slice_nil w 27 57 a n c n' c' Try.underlying27
   go_enter Try.func51, Try.ntmps51
   go_wp2
   go_ret
   exact ⟨_, rfl, (by first | exact Kd.R_nil _ _ _ _ _ | exact Kd.N_nil _ _ _ _ _ | exact Kd.V_nil _ _ _ _ _ | exact Kd.Q_nil _ _ _ _ _ | exact Kd.S_nil _ _ _ _ _), Below.refl _ _⟩
 · exact impl_Row_51.calls_some q (some B) z l r w u h (by simp)
-- NOT PRINTED: function 65 (impl_Row_65)
-- NOT PRINTED: function 75 (impl_Row_75)
-- NOT PRINTED: function 66 (impl_Row_66)
end Go.Proofs.Ytdlhmhgpafegpaa.PFnExactHouseOk
