-- Printed out of the translation by this session's own turned copy of a printer; Lean checks it.
import Derived.Test.YtdlhmhgpafegpaaPFnExactWeightsx0
namespace Go.Proofs.Ytdlhmhgpafegpaa.PFnExactWeights
open Go.RowKit Go.Proofs.YtdlhmhgpafegpaaW.PrintWords Go.Proofs.YtdlhmhgpafegpaaW.PrintLast Go.Proofs.YtdlhmhgpafegpaaW.PrintMore
attribute [local go_sem] max2_int min2_int max_two min_two max_three min_three max_four min_four
set_option linter.unusedVariables false
set_option linter.unusedSimpArgs false
set_option maxHeartbeats 8000000
set_option maxRecDepth 100000
def laws_szIntS.f (l : List Int) (q : Int) : Option (Int) := if (wrap64 (q - (l.length : Int))) < 0 then (some (-1)) else (some (wrap64 (q - (l.length : Int))))
theorem laws_szIntS.calls (B) (E) (l : List Int) (u) (r) (w) (y : Kd.C (Kd.int .i64) w B l.length l) (z : l.length ≤ E) (h : laws_szIntS.f l u = some r) :
 Calls Try.prog 61 #[.slice B l.length E, .int .i64 u] w fun e w' => e = .returned (.int .i64 r) ∧ Drawn0 w w' := by
 have I := zK y
 have J := zK z
 clear y z
 have H : (if (wrap64 (u - (l.length : Int))) < 0 then (some (-1)) else (some (wrap64 (u - (l.length : Int))))) = some r := h
 clear h
 by_cases q : (wrap64 (u - (l.length : Int))) < 0
 · rw [if_pos q] at H
   have A := z1 q
   clear q
   obtain rfl := z5 H
   go_enter Try.func61, Try.ntmps61
   go_wp2
   go_ret
   exact ⟨zR, zD⟩
 rw [if_neg q] at H
 have A := z2 q
 clear q
 obtain rfl := z5 H
 go_enter Try.func61, Try.ntmps61
 go_wp2
 go_ret
 exact ⟨zR, zD⟩
def laws_szRow.f (u : List Int) (y : List Int) (z : Int) : Option (Int) := (laws_szIntS.f u z).bind fun l => (if l < 0 then (some (-1)) else ((laws_szIntS.f y l).bind fun q => (if q < 0 then (some (-1)) else (some q))))
theorem laws_szRow.calls (z) (A) (l : List Int) (B) (E) (q : List Int) (U) (r) (w) (I : Kd.C (Kd.int .i64) w z l.length l) (J : l.length ≤ A) (L : Kd.C (Kd.int .i64) w B q.length q) (M : q.length ≤ E) (h : laws_szRow.f l q U = some r) :
 Calls Try.prog 48 #[.agg #[.slice z l.length A, .slice B q.length E], .int .i64 U] w fun e w' => e = .returned (.int .i64 r) ∧ Below w.heap.size w w' := by
 have A0 := Try.underlying71
 have X := zK I
 have a0 := zK J
 clear I J
 have b0 := zK L
 have c0 := zK M
 clear L M
 have HB := zK (Below.refl w.heap.size w)
 have H : ((laws_szIntS.f l U).bind fun u => (if u < 0 then (some (-1)) else ((laws_szIntS.f q u).bind fun y => (if y < 0 then (some (-1)) else (some y))))) = some r := h
 clear h
 replace H := z6 H
 obtain ⟨u, e0, H⟩ := H
 have A3 := zK e0
 clear e0
 by_cases O : u < 0
 rw [if_pos O] at H
 have g0 := z1 O
 clear O
 obtain rfl := z5 H
 rotate_left
 rw [if_neg O] at H
 have g0 := z2 O
 clear O
 replace H := z6 H
 obtain ⟨y, f0, H⟩ := H
 have A7 := zK f0
 clear f0
 by_cases T : y < 0
 rw [if_pos T] at H
 have i0 := z1 T
 clear T
 obtain rfl := z5 H
 rotate_left
 rw [if_neg T] at H
 have i0 := z2 T
 clear T
 obtain rfl := z5 H
 all_goals go_enter Try.func48, Try.ntmps48
 all_goals go_wp2_with (first | ((with_reducible refine gd 2 rfl ?_); refine zJ 2 #[.slice z l.length A, .slice B q.length E] 71 ?_; intro t0 hg D0 hbox hb; have o0 := z8 hb; have p0 := zK (hbox); have q0 := z9 hg; have s0 := z9 hg; revert o0 p0 q0 s0; clear HB; intro HB d0 x0 y0; clear hb hbox hg; obtain ⟨j0, l0, m0, n0⟩ := zc2 d0) | ((with_reducible refine gc 61 rfl ?_); refine zF 8 Try.func61 #[.slice z l.length A, .int .i64 U] rfl zL ?_; refine (laws_szIntS.calls _ _ l U u _ (zS X) a0.out A3.out).mono ?_; rintro e w' ⟨rfl, ⟨nd, rfl⟩⟩; refine ⟨_, rfl, ?_⟩) | ((with_reducible refine gc 61 rfl ?_); refine zF 14 Try.func61 #[.slice B q.length E, .int .i64 u] rfl zL ?_; refine (laws_szIntS.calls _ _ q u y _ (zS b0) c0.out A7.out).mono ?_; rintro e w' ⟨rfl, ⟨nd, rfl⟩⟩; refine ⟨_, rfl, ?_⟩))
 all_goals go_ret
 all_goals exact ⟨zE, zB⟩
def laws_szRowS.l0 : Nat → List (S71) → Int → Int → Option (Int)
 | 0, _, _, _ => none
 | k + 1, u, y, l => if l < (u.length : Int) then (if 0 ≤ l then ((laws_szRow.f ((rd_T71 u l).f0) ((rd_T71 u l).f1) y).bind fun q => (if q < 0 then (some (-1)) else (laws_szRowS.l0 k u q (wrap64 (l + 1))))) else (none)) else (some y)
def laws_szRowS.f (k : Nat) (l : List (S71)) (q : Int) : Option (Int) := if (wrap64 (q - (l.length : Int))) < 0 then (some (-1)) else (laws_szRowS.l0 k l (wrap64 (q - (l.length : Int))) 0)
theorem laws_szRowS.calls (k) (A0) (c0) (q : List (S71)) (a1) (r) (w) (t0 : Kd.C k71 w A0 q.length q) (x0 : q.length ≤ c0) (h : laws_szRowS.f k q a1 = some r) :
 Calls Try.prog 26 #[.slice A0 q.length c0, .int .i64 a1] w fun e w' => e = .returned (.int .i64 r) ∧ Below w.heap.size w w' := by
 have J0 := Try.underlying71
 have y0 := zK t0
 have M0 := zK x0
 clear t0 x0
 have HB := zK (Below.refl w.heap.size w)
 have H : (if (wrap64 (a1 - (q.length : Int))) < 0 then (some (-1)) else (laws_szRowS.l0 k q (wrap64 (a1 - (q.length : Int))) 0)) = some r := h
 clear h
 by_cases c3 : (wrap64 (a1 - (q.length : Int))) < 0
 · rw [if_pos c3] at H
   have o0 := z1 c3
   clear c3
   obtain rfl := z5 H
   go_enter Try.func26, Try.ntmps26
   go_wp2
   go_ret
   exact ⟨zE, zB⟩
 rw [if_neg c3] at H
 have o0 := z2 c3
 clear c3
 have H' := zK H
 clear H
 go_enter Try.func26, Try.ntmps26
 go_wp2
 go_loopg [1, 5] k (fun kq v1 v5 w' => ∃ (I : Int) (l : Int), v1 = .int .i64 I ∧ v5 = .int .i64 l ∧ Aside0 (laws_szRowS.l0 kq q I l = some r) ∧ Aside0 (kq ≤ k) ∧ Aside0 (Below w.heap.size w w'))
 case atStart => exact ⟨(wrap64 (a1 - (q.length : Int))), (0), zR, zR, H', ⟨Nat.le_refl _⟩, ⟨zB⟩⟩
 clear H'
 try clear c2
 try clear p2
 try clear c3
 try clear o0
 obtain ⟨I, l, rfl, rfl, HA, B0, HB⟩ := hrel
 rcases gk with _ | k1
 · exact absurd HA.out (by simp [laws_szRowS.l0])
 have H := HA.out
 clear HA
 simp only [laws_szRowS.l0] at H
 by_cases c4 : l < (q.length : Int)
 rotate_left
 · rw [if_neg c4] at H
   have D0 := z2 c4
   clear c4
   obtain rfl := z5 H
   go_wp2
   go_ret
   exact ⟨zE, zB⟩
 rw [if_pos c4] at H
 have D0 := z1 c4
 clear c4
 by_cases c5 : 0 ≤ l
 rotate_left
 · rw [if_neg c5] at H
   exact absurd H (by simp)
 rw [if_pos c5] at H
 have L0 := z1 c5
 clear c5
 replace H := z6 H
 obtain ⟨e0, C0, H⟩ := H
 have A6 := zK C0
 clear C0
 by_cases c7 : e0 < 0
 · rw [if_pos c7] at H
   have E0 := z1 c7
   clear c7
   obtain rfl := z5 H
   have J : 0 ≤ (l : Int) := z3
   have L : l < (q.length : Int) := z3
   obtain ⟨s0, X, a0, b0, d0, i0, u, y, z, A, B, E⟩ := at_T71 y0.out l J L
   cases i0
   (try replace u := zX HB u)
   (try replace y := zX HB y)
   have M := zK A
   have O := zK z
   clear A z
   have T := zK E
   have U := zK B
   clear E B
   replace J := eq_true J
   replace L := eq_true L
   go_wp2_with (first | ((with_reducible refine gc 48 rfl ?_); refine zF 23 Try.func48 #[.agg #[.slice X ((rd_T71 q l).f0).length a0, .slice b0 ((rd_T71 q l).f1).length d0], .int .i64 I] rfl zL ?_; refine (laws_szRow.calls _ _ ((rd_T71 q l).f0) _ _ ((rd_T71 q l).f1) I e0 _ (zS M) O.out (zS T) U.out A6.out).mono ?_; rintro e w8 ⟨rfl, hb⟩; refine ⟨_, rfl, ?_⟩; have p0 := z8 hb; revert p0; clear HB; intro HB))
   go_ret
   exact ⟨zE, zB⟩
 rw [if_neg c7] at H
 have E0 := z2 c7
 clear c7
 have H' := zK H
 clear H
 have J : 0 ≤ (l : Int) := z3
 have L : l < (q.length : Int) := z3
 obtain ⟨s0, X, a0, b0, d0, i0, u, y, z, A, B, E⟩ := at_T71 y0.out l J L
 cases i0
 (try replace u := zX HB u)
 (try replace y := zX HB y)
 have M := zK A
 have O := zK z
 clear A z
 have T := zK E
 have U := zK B
 clear E B
 replace J := eq_true J
 replace L := eq_true L
 go_wp2_with (first | ((with_reducible refine gc 48 rfl ?_); refine zF 23 Try.func48 #[.agg #[.slice X ((rd_T71 q l).f0).length a0, .slice b0 ((rd_T71 q l).f1).length d0], .int .i64 I] rfl zL ?_; refine (laws_szRow.calls _ _ ((rd_T71 q l).f0) _ _ ((rd_T71 q l).f1) I e0 _ (zS M) O.out (zS T) U.out A6.out).mono ?_; rintro e w9 ⟨rfl, hb⟩; refine ⟨_, rfl, ?_⟩; have p0 := z8 hb; revert p0; clear HB; intro HB))
 go_roundg k1
 case measure => have := B0.out; omega
 case rel => exact ⟨(e0), (wrap64 (l + 1)), zR, zR, H', ⟨by have := B0.out; omega⟩, ⟨zB⟩⟩
def laws_szLm.f (k : Nat) (u : Int) (q : List (S71)) (y : Int) : Option (Int) := (laws_szRowS.f k q y).bind fun l => (if l < 0 then (some (-1)) else (some l))
theorem laws_szLm.calls (k) (A) (y) (z) (l : List (S71)) (J) (r) (w) (B : Kd.C k71 w y l.length l) (E : l.length ≤ z) (h : laws_szLm.f k A l J = some r) :
 Calls Try.prog 7 #[.agg #[.int .i64 A, .slice y l.length z], .int .i64 J] w fun e w' => e = .returned (.int .i64 r) ∧ Below w.heap.size w w' := by
 have l0 := Try.underlying24
 have O := zK B
 have T := zK E
 clear B E
 have HB := zK (Below.refl w.heap.size w)
 have H : ((laws_szRowS.f k l J).bind fun u => (if u < 0 then (some (-1)) else (some u))) = some r := h
 clear h
 replace H := z6 H
 obtain ⟨u, U, H⟩ := H
 have A3 := zK U
 clear U
 by_cases I : u < 0
 rw [if_pos I] at H
 have X := z1 I
 clear I
 obtain rfl := z5 H
 rotate_left
 rw [if_neg I] at H
 have X := z2 I
 clear I
 obtain rfl := z5 H
 all_goals go_enter Try.func7, Try.ntmps7
 all_goals go_wp2_with (first | ((with_reducible refine gd 2 rfl ?_); refine zJ 2 #[.int .i64 A, .slice y l.length z] 24 ?_; intro g0 hg w8 hbox hb; have L := z8 hb; have M := zK (hbox); have a0 := z9 hg; have b0 := z9 hg; revert L M a0 b0; clear HB; intro HB q i0 j0; clear hb hbox hg; obtain ⟨c0, d0, e0, f0⟩ := zc2 q) | ((with_reducible refine gc 26 rfl ?_); refine zF 8 Try.func26 #[.slice y l.length z, .int .i64 J] rfl zL ?_; refine (laws_szRowS.calls k _ _ l J u _ (zS O) T.out A3.out).mono ?_; rintro e n0 ⟨rfl, hb⟩; refine ⟨_, rfl, ?_⟩; have L := z7 q hb; have M := z8 hb; revert L M; clear q HB; intro q HB))
 all_goals go_ret
 all_goals exact ⟨zE, zB⟩
def laws_toIntS.l0 : Nat → List Int → List Int → Int → Option (List Int)
 | 0, _, _, _ => none
 | k + 1, q, u, l => if l < (q.length : Int) then (if 0 ≤ l then (if l < (u.length : Int) then (laws_toIntS.l0 k q (u.set (l : Int).toNat (rd q l)) (wrap64 (l + 1))) else (none)) else (none)) else (some u)
def laws_toIntS.f (k : Nat) (l : List Int) : Option (List Int) := if 0 ≤ (l.length : Int) then (if ((l.length : Int) : Int).toNat ≤ 35184372088832 then (laws_toIntS.l0 k l (List.replicate ((l.length : Int) : Int).toNat 0) 0) else (none)) else (none)
theorem laws_toIntS.calls (k) (A0) (c0) (q : List Int) (r : List Int) (w) (i0 : Kd.C (Kd.int .i64) w A0 q.length q) (j0 : q.length ≤ c0) (h : laws_toIntS.f k q = some r) :
 Calls Try.prog 20 #[.slice A0 q.length c0] w fun e w' => ∃ v0_ : Value, e = .returned (v0_) ∧ Kd.R (Kd.int .i64) 3 w' w.heap.size (fun _ => True) v0_ r ∧ Below w.heap.size w w' := by
 have F0 := zK i0
 have N0 := zK j0
 clear i0 j0
 have HB := zK (Below.refl w.heap.size w)
 have H : (if 0 ≤ (q.length : Int) then (if ((q.length : Int) : Int).toNat ≤ 35184372088832 then (laws_toIntS.l0 k q (List.replicate ((q.length : Int) : Int).toNat 0) 0) else (none)) else (none)) = some r := h
 clear h
 by_cases O : 0 ≤ (q.length : Int)
 rotate_left
 · rw [if_neg O] at H
   exact absurd H (by simp)
 rw [if_pos O] at H
 have p0 := eq_true O
 have q0 := z1 O
 clear O
 by_cases T : ((q.length : Int) : Int).toNat ≤ 35184372088832
 rotate_left
 · rw [if_neg T] at H
   exact absurd H (by simp)
 rw [if_pos T] at H
 have s0 := eq_true T
 have t0 := z1 T
 clear T
 obtain ⟨X, z⟩ : ∃ y_ : List Int, y_ = (List.replicate ((q.length : Int) : Int).toNat 0) := ⟨_, rfl⟩
 replace H : (laws_toIntS.l0 k q X 0) = some r := by first | (rw [z]; with_reducible exact H) | (have B := (Option.bind_some _ _).symm.trans H; rw [z]; with_reducible exact B) | (have B := (Option.bind_some _ _).symm.trans H; with_reducible exact B) | with_reducible exact H | (rw [z]; exact H) | exact H
 have Ny108 := zK z
 clear z
 have H' := zK H
 clear H
 go_enter Try.func20, Try.ntmps20
 go_wp2_with (first | ((with_reducible refine gd 7 rfl ?_); refine Kd.R_make (Kd.int .i64) _ 3 rfl (N := 7) rfl 47 _ _ rfl (q.length : Int) rfl rfl Try.underlying47 (.int .i64 0) 8 info3 rfl (by decide) (by omega) 0 (ok := fun _ => True) (okp := fun _ => True) rfl (fun _ hk => hk) trivial (z3) (Nat.le_trans (Nat.mul_le_mul_right _ (z3 : (q.length : Int).toNat ≤ 35184372088832)) (by omega)) (Below.refl _ _) (Nat.le_refl _) ?_; intro v109 w4 I hb hg_ hnew_; clear hg_ hnew_; (first | rw [← Ny108.out] at I | (simp only [Int.reduceToNat] at I; rw [← Ny108.out] at I)); have a0 := zK (Kd.R_lower I (zz zB)); have b0 := z8 hb; revert a0 b0; clear HB; intro e0 HB; clear hb I))
 go_loopg [4] k (fun kq v4 w' => ∃ (u : List Int) (l : Int), v4 = .int .i64 l ∧ Aside0 (laws_toIntS.l0 kq q u l = some r) ∧ Aside0 (kq ≤ k) ∧ Aside0 (Kd.R (Kd.int .i64) 3 w' w.heap.size (fun _ => True) v109 u) ∧ Aside0 (Below w.heap.size w w'))
 case atStart => exact ⟨(X), (0), zR, H', ⟨Nat.le_refl _⟩, ⟨zkR e0⟩, ⟨zB⟩⟩
 clear H'
 try clear O
 try clear p0
 try clear q0
 try clear p2
 try clear T
 try clear s0
 try clear t0
 obtain ⟨u, l, rfl, HA, m0, y, HB⟩ := hrel
 rcases gk with _ | k1
 · exact absurd HA.out (by simp [laws_toIntS.l0])
 have H := HA.out
 clear HA
 simp only [laws_toIntS.l0] at H
 by_cases U : l < (q.length : Int)
 rotate_left
 · rw [if_neg U] at H
   have x0 := z2 U
   clear U
   obtain rfl := z5 H
   go_wp2
   go_ret
   exact ⟨_, zE, zkR y, zB⟩
 rw [if_pos U] at H
 have x0 := z1 U
 clear U
 by_cases c7 : 0 ≤ l
 rotate_left
 · rw [if_neg c7] at H
   exact absurd H (by simp)
 rw [if_pos c7] at H
 have L0 := z1 c7
 clear c7
 by_cases c8 : l < (u.length : Int)
 rotate_left
 · rw [if_neg c8] at H
   exact absurd H (by simp)
 rw [if_pos c8] at H
 have M0 := z1 c8
 clear c8
 obtain ⟨J, A⟩ : ∃ y_ : List Int, y_ = (u.set (l : Int).toNat (rd q l)) := ⟨_, rfl⟩
 replace H : (laws_toIntS.l0 k1 q J (wrap64 (l + 1))) = some r := by first | (rw [A]; with_reducible exact H) | (have B := (Option.bind_some _ _).symm.trans H; rw [A]; with_reducible exact B) | (have B := (Option.bind_some _ _).symm.trans H; with_reducible exact B) | with_reducible exact H | (rw [A]; exact H) | exact H
 have Ny112 := zK A
 clear A
 have H' := zK H
 clear H
 have L : 0 ≤ (l : Int) := z3
 have M : l < (q.length : Int) := z3
 obtain ⟨I0, y0, E⟩ := Kd.at_int F0.out l L M
 cases y0
 (try replace E := zX HB E)
 replace L := eq_true L
 replace M := eq_true M
 have p9 : 0 ≤ (l : Int) := z3
 have q9 : (l : Int) < ((u.length : Int) : Int) := z3
 obtain ⟨go9, G0, n0, o0, gl9, cl9, HG9⟩ := Kd.R_form y.out (by omega)
 (first | cases n0 | (injection n0 with ea_ en_ ec_; (first | subst ea_ | (injection ea_ with ea_; subst ea_)); subst ec_; clear en_))
 have GB9 := zK o0
 have GG9 := zK HG9
 clear o0 gl9 HG9
 obtain ⟨J0, hf9_0⟩ := Kd.R_celln 0 y.out (l : Int) p9 q9
 replace p9 := eq_true p9
 replace q9 := eq_true q9
 have HP10 := Kd.R_putg y.out (l : Int) (rd q l)
 go_wp2_with (first | ((with_reducible refine gate_store (t := 3) (p := 20) rfl ?_); refine store_event (t := 3) (p := 20) (v := ?vo_w11) (w1 := (wr.setCell ⟨go9, (l : Int).toNat, none⟩ (.int .i64 (rd q l)))) ?hg ?ho ?hn ?hr ?_; (case ho => rfl); (case hg => rfl); (case hn => rfl); (case hr => first | (go_simp; done) | (go_simp; rfl)); intro d0 hw; have hg : wr.grownBy d0 (some go9) := (by rw [hw]; exact HP10.2); have hp_ : Kd.R (Kd.int .i64) 3 d0 w.heap.size (fun _ => True) (.slice (some ⟨go9, 0, none⟩) u.length G0) J := (by rw [hw, Ny112.out]; exact HP10.1); clear HP10; have a0 := zK (hp_); have b0 := zK ((by rw [hw]; exact zs (HB.out) GB9.out : Below w.heap.size w d0)); revert a0 b0; clear y HB; intro y HB; clear hg hw hp_))
 go_roundg k1
 case measure => have := m0.out; omega
 case rel => exact ⟨(J), (wrap64 (l + 1)), zR, H', ⟨by have := m0.out; omega⟩, ⟨zkR y⟩, ⟨zB⟩⟩
def laws_toRow.f (k : Nat) (l : List Int) (q : List Int) : Option (List Int × List Int) := (laws_toIntS.f k l).bind fun u => ((laws_toIntS.f k q).bind fun y => (some (u, y)))
theorem laws_toRow.calls (k) (O) (T) (y : List Int) (U) (X) (z : List Int) (r1 : List Int) (r2 : List Int) (w) (j0 : Kd.C (Kd.int .i64) w O y.length y) (l0 : y.length ≤ T) (m0 : Kd.C (Kd.int .i64) w U z.length z) (n0 : z.length ≤ X) (h : laws_toRow.f k y z = some (r1, r2)) :
 Calls Try.prog 50 #[.agg #[.slice O y.length T, .slice U z.length X]] w fun e w' => ∃ v0_ v1_ : Value, e = .returned (.agg #[v0_, v1_]) ∧ Kd.R (Kd.int .i64) 3 w' w.heap.size (fun k_ => some k_ ≠ (v1_ : Value).ownBlock) v0_ r1 ∧ Kd.R (Kd.int .i64) 3 w' w.heap.size (fun k_ => some k_ ≠ (v0_ : Value).ownBlock) v1_ r2 ∧ Below w.heap.size w w' := by
 have E1 := Try.underlying71
 have F1 := Try.underlying57
 have x0 := zK j0
 have y0 := zK l0
 clear j0 l0
 have A0 := zK m0
 have B0 := zK n0
 clear m0 n0
 have HB := zK (Below.refl w.heap.size w)
 have H : ((laws_toIntS.f k y).bind fun L => ((laws_toIntS.f k z).bind fun a0 => (some (L, a0)))) = some (r1, r2) := h
 clear h
 replace H := z6 H
 obtain ⟨L, E0, H⟩ := H
 have A2 := zK E0
 clear E0
 replace H := z6 H
 obtain ⟨a0, F0, H⟩ := H
 have A3 := zK F0
 clear F0
 simp only [Option.some.injEq, Prod.mk.injEq] at H
 obtain ⟨rfl, rfl⟩ := H
 go_enter Try.func50, Try.ntmps50
 go_wp2_with (first | ((with_reducible refine gd 1 rfl ?_); refine zJ 1 #[.slice O y.length T, .slice U z.length X] 71 ?_; intro q1 hg w4 hbox hb; have B := z8 hb; have E := zK (hbox); have I := z9 hg; have J := z9 hg; revert B E I J; clear HB; intro HB l s1 t1; clear hb hbox hg) | ((with_reducible refine gd 2 rfl ?_); refine zJ 2 #[.slice none 0 0, .slice none 0 0] 57 ?_; intro C0 hg w5 hbox hb; have B := z7 l hb; have E := z8 hb; have I := zK (hbox); have J := z9 hg; have M := z9 hg; have b0 := zHH hg l; have q0 := zGG hg l; revert B E I J M b0 q0; clear l HB; intro l HB q x1 y1 c0 d0; clear hb hbox hg) | ((with_reducible refine gd 3 rfl ?_); refine zJ 3 #[.slice none 0 0, .slice none 0 0] 57 ?_; intro D0 hg w6 hbox hb; have B := z7 l hb; have E := z7 q hb; have I := z8 hb; have J := zK (hbox); have M := z9 hg; have b0 := z9 hg; have q0 := zHH hg l; have i1 := zGG hg l; have j1 := zHH hg q; have l1 := zGG hg q; revert B E I J M b0 q0 i1 j1 l1; clear l q HB; intro l q HB u A1 B1 e0 f0 g0 i0; clear hb hbox hg; have J1 := c0.out; have L1 := d0.out; have M1 := e0.out; have N1 := f0.out; obtain ⟨m1, n1, o1, p1⟩ := zc2 l) | ((with_reducible refine gc 20 rfl ?_); refine zF 6 Try.func20 #[.slice O y.length T] rfl zL ?_; refine (laws_toIntS.calls k _ _ y L _ (zS x0) y0.out A2.out).mono ?_; rintro e O1 ⟨v117, rfl, o0, hb⟩; refine ⟨_, rfl, ?_⟩; have B := zK (Kd.R_lower o0 (zz zB)); have E := z7 l hb; have I := z7 q hb; have J := z7 u hb; have M := z8 hb; revert B E I J M; clear l q u HB; intro A l q u HB; obtain ⟨s0, t0, G0⟩ := Kd.R_slice A.out; subst G0; have C1 := i0.out; have D1 := g0.out; obtain ⟨M0, N0, O0, R0⟩ := zc2 u; obtain ⟨S0, T0, U0, V0⟩ := zc2 l) | ((with_reducible refine gc 20 rfl ?_); refine zF 10 Try.func20 #[.slice U z.length X] rfl zL ?_; refine (laws_toIntS.calls k _ _ z a0 _ (z4 A0.out zB) B0.out A3.out).mono ?_; rintro e R1 ⟨v120, rfl, o0, hb⟩; refine ⟨_, rfl, ?_⟩; have B := zK (Kd.R_elder' (Kd.R_mono (zlR (Kd.R_types A.out u.out (by decide))) (fun _ h_ => h_.1)) (Kd.R_base o0) hb); have E := zK (Kd.R_lower (Kd.R_new' o0 (Kd.R_lt (Kd.R_mono (zlR (Kd.R_types A.out u.out (by decide))) (fun _ h_ => h_.1)))) (zz zB)); have I := zK (zg (zV l) hb); have J := zK (zg (zV q) hb); have M := zK (zg (g := D0) (o := .cells #[.slice s0 L.length t0, .slice none 0 0] 57 (0, 0)) (zW u) hb); have b0 := z8 hb; revert B E I J M b0; clear A l q u HB; intro A p0 l q u HB; obtain ⟨I0, J0, L0⟩ := Kd.R_slice p0.out; subst L0; obtain ⟨X0, a1, b1, c1⟩ := zc2 u; obtain ⟨d1, e1, f1, g1⟩ := zc2 q))
 refine bodyPost_ret (results_cell_row rfl _ _ C0 57 #[.slice s0 L.length t0, .slice I0 a0.length J0] (0, 0) _ rfl (zW q) Try.underlying57 rfl (by kernel_rfl)) rfl ?_
 exact ⟨_, _, zE, Kd.R_mono (zlR (Kd.R_types (Kd.R_types A.out u.out (by decide)) q.out (by decide))) (fun _ hk => hk.1.1.2), Kd.R_mono (zlR (Kd.R_types (Kd.R_types p0.out u.out (by decide)) q.out (by decide))) (fun _ hk => hk.1.1.2), zB⟩
def laws_toRowS.l0 : Nat → List (S71) → List (S57) → Int → Option ((List (S57)))
 | 0, _, _, _ => none
 | k + 1, u, y, l => if l < (u.length : Int) then (if 0 ≤ l then ((laws_toRow.f k ((rd_T71 u l).f0) ((rd_T71 u l).f1)).bind fun q => (if l < (y.length : Int) then (laws_toRowS.l0 k u (y.set (l : Int).toNat (⟨q.1, q.2⟩ : S57)) (wrap64 (l + 1))) else (none))) else (none)) else (some y)
def laws_toRowS.f (k : Nat) (l : List (S71)) : Option ((List (S57))) := if 0 ≤ (l.length : Int) then (if ((l.length : Int) : Int).toNat ≤ 5864062014805 then (laws_toRowS.l0 k l (List.replicate ((l.length : Int) : Int).toNat z57) 0) else (none)) else (none)
theorem laws_toRowS.calls (k) (A0) (c0) (y : List (S71)) (r : List (S57)) (w) (b1 : Kd.C k71 w A0 y.length y) (c1 : y.length ≤ c0) (h : laws_toRowS.f k y = some r) :
 Calls Try.prog 31 #[.slice A0 y.length c0] w fun e w' => ∃ v0_ : Value, e = .returned (v0_) ∧ Kd.S k57 57 w' w.heap.size (fun _ => True) v0_ r ∧ Below w.heap.size w w' := by
 have F1 := Try.underlying71
 have G1 := Try.underlying57
 have y1 := zK b1
 have M1 := zK c1
 clear b1 c1
 have HB := zK (Below.refl w.heap.size w)
 have H : (if 0 ≤ (y.length : Int) then (if ((y.length : Int) : Int).toNat ≤ 5864062014805 then (laws_toRowS.l0 k y (List.replicate ((y.length : Int) : Int).toNat z57) 0) else (none)) else (none)) = some r := h
 clear h
 by_cases c2 : 0 ≤ (y.length : Int)
 rotate_left
 · rw [if_neg c2] at H
   exact absurd H (by simp)
 rw [if_pos c2] at H
 have j1 := eq_true c2
 have l1 := z1 c2
 clear c2
 by_cases c3 : ((y.length : Int) : Int).toNat ≤ 5864062014805
 rotate_left
 · rw [if_neg c3] at H
   exact absurd H (by simp)
 rw [if_pos c3] at H
 have m1 := eq_true c3
 have n1 := z1 c3
 clear c3
 obtain ⟨E0, B⟩ : ∃ y_ : List (S57), y_ = (List.replicate ((y.length : Int) : Int).toNat z57) := ⟨_, rfl⟩
 replace H : (laws_toRowS.l0 k y E0 0) = some r := by first | (rw [B]; with_reducible exact H) | (have L := (Option.bind_some _ _).symm.trans H; rw [B]; with_reducible exact L) | (have L := (Option.bind_some _ _).symm.trans H; with_reducible exact L) | with_reducible exact H | (rw [B]; exact H) | exact H
 have Ny122 := zK B
 clear B
 have H' := zK H
 clear H
 go_enter Try.func31, Try.ntmps31
 go_wp2_with (first | ((with_reducible refine gd 7 rfl ?_); refine Kd.S_make k57 _ 57 rfl (N := 7) rfl 27 _ _ rfl (y.length : Int) rfl rfl Try.underlying27 (.agg #[(.slice none 0 0), (.slice none 0 0)]) 48 info57 rfl (by decide) (by omega) z57 (ok := fun _ => True) (okp := fun _ => True) (k57_mkM _ _ _ z57 (Kd.R_nil _ _ _ _ _) (Kd.R_nil _ _ _ _ _)) (fun _ hk => hk) trivial (z3) (Nat.le_trans (Nat.mul_le_mul_right _ (z3 : (y.length : Int).toNat ≤ 5864062014805)) (by omega)) (Below.refl _ _) (Nat.le_refl _) ?_; intro v123 w4 j0 hb hg_ hnew_; clear hg_ hnew_; (first | rw [← Ny122.out] at j0 | (simp only [Int.reduceToNat] at j0; rw [← Ny122.out] at j0)); have m0 := zK (Kd.S_lower j0 (zz zB)); have n0 := z8 hb; revert m0 n0; clear HB; intro V0 HB; clear hb j0))
 go_loopg [4] k (fun kq v4 w' => ∃ (u : List (S57)) (l : Int), v4 = .int .i64 l ∧ Aside0 (laws_toRowS.l0 kq y u l = some r) ∧ Aside0 (kq ≤ k) ∧ Aside0 (Kd.S k57 57 w' w.heap.size (fun _ => True) v123 u) ∧ Aside0 (Below w.heap.size w w'))
 case atStart => exact ⟨(E0), (0), zR, H', ⟨Nat.le_refl _⟩, ⟨zkS V0⟩, ⟨zB⟩⟩
 clear H'
 try clear c2
 try clear j1
 try clear l1
 try clear p2
 try clear c3
 try clear m1
 try clear n1
 obtain ⟨u, l, rfl, HA, d1, q, HB⟩ := hrel
 rcases gk with _ | k1
 · exact absurd HA.out (by simp [laws_toRowS.l0])
 have H := HA.out
 clear HA
 simp only [laws_toRowS.l0] at H
 by_cases c6 : l < (y.length : Int)
 rotate_left
 · rw [if_neg c6] at H
   have o1 := z2 c6
   clear c6
   obtain rfl := z5 H
   go_wp2
   go_ret
   exact ⟨_, zE, zkS q, zB⟩
 rw [if_pos c6] at H
 have o1 := z1 c6
 clear c6
 by_cases c7 : 0 ≤ l
 rotate_left
 · rw [if_neg c7] at H
   exact absurd H (by simp)
 rw [if_pos c7] at H
 have I1 := z1 c7
 clear c7
 replace H := z6 H
 obtain ⟨⟨z, A⟩, e1, H⟩ := H
 replace H : (if l < (u.length : Int) then (laws_toRowS.l0 k1 y (u.set (l : Int).toNat (⟨z, A⟩ : S57)) (wrap64 (l + 1))) else (none)) = some r := H
 have A8 := zK e1
 clear e1
 by_cases c9 : l < (u.length : Int)
 rotate_left
 · rw [if_neg c9] at H
   exact absurd H (by simp)
 rw [if_pos c9] at H
 have L1 := z1 c9
 clear c9
 obtain ⟨o0, E⟩ : ∃ y_ : List (S57), y_ = (u.set (l : Int).toNat (⟨z, A⟩ : S57)) := ⟨_, rfl⟩
 replace H : (laws_toRowS.l0 k1 y o0 (wrap64 (l + 1))) = some r := by first | (rw [E]; with_reducible exact H) | (have L := (Option.bind_some _ _).symm.trans H; rw [E]; with_reducible exact L) | (have L := (Option.bind_some _ _).symm.trans H; with_reducible exact L) | with_reducible exact H | (rw [E]; exact H) | exact H
 have Ny132 := zK E
 clear E
 have H' := zK H
 clear H
 have p0 : 0 ≤ (l : Int) := z3
 have q0 : l < (y.length : Int) := z3
 obtain ⟨E1, F0, G0, I0, J0, p1, O, T, U, X, a0, b0⟩ := at_T71 y1.out l p0 q0
 cases p1
 (try replace O := zX HB O)
 (try replace T := zX HB T)
 have y0 := zK X
 have B0 := zK U
 clear X U
 have C0 := zK b0
 have D0 := zK a0
 clear b0 a0
 replace p0 := eq_true p0
 replace q0 := eq_true q0
 go_wp2_with (first | ((with_reducible refine gc 50 rfl ?_); refine zF 20 Try.func50 #[.agg #[.slice F0 ((rd_T71 y l).f0).length G0, .slice I0 ((rd_T71 y l).f1).length J0]] rfl zL ?_; refine (laws_toRow.calls k1 _ _ ((rd_T71 y l).f0) _ _ ((rd_T71 y l).f1) z A _ (zS y0) B0.out (zS C0) D0.out A8.out).mono ?_; rintro e M ⟨v127, v130, rfl, g1, i1, hb⟩; refine ⟨_, rfl, ?_⟩; have m0 := zK (Kd.S_mono (Kd.S_told (Kd.S_told (Kd.S_old (zkS q) hb) (Kd.R_base g1)) (Kd.R_base i1)) (fun _ h_ => h_.1)); have n0 := zK (Kd.R_lower g1 (zz zB)); have A1 := zK (Kd.R_lower i1 (zz zB)); have B1 := z8 hb; revert m0 n0 A1 B1; clear q HB; intro q I J HB; have L0 : 0 ≤ (l : Int) := z3; have M0 : (l : Int) < ((u.length : Int) : Int) := z3; obtain ⟨go10, N0, O0, R0, gl10, cl10, HG10⟩ := Kd.S_form q.out (by omega); (first | cases O0 | (injection O0 with ea_ en_ ec_; (first | subst ea_ | (injection ea_ with ea_; subst ea_)); subst ec_; clear en_)); have GB10 := zK R0; have GG10 := zK HG10; clear R0 gl10 HG10; obtain ⟨_, ce10, hcl10, hM10, hcc10, hfr10, _, _⟩ := Kd.S_elem q.out z57 (l : Int) L0 M0; obtain ⟨ve10_0, ve10_1, rfl, ge10_0, ge10_1⟩ := k57_openM hM10; have C1 : M.cell? ⟨go10, (l : Int).toNat * 2, none⟩ = some (ve10_0) := hcc10 0 _ rfl; have D1 : M.cell? ⟨go10, (l : Int).toNat * 2 + 1, none⟩ = some (ve10_1) := hcc10 1 _ rfl; have hf10_0 : M.frozen? ⟨go10, (l : Int).toNat * 2, none⟩ = false := hfr10 0; have hf10_1 : M.frozen? ⟨go10, (l : Int).toNat * 2 + 1, none⟩ = false := hfr10 1; clear hcl10 hcc10 hfr10 hM10; replace L0 := eq_true L0; replace M0 := eq_true M0; obtain ⟨d0, e0, q1⟩ := Kd.R_slice J.out; subst q1; obtain ⟨g0, i0, s1⟩ := Kd.R_slice I.out; subst s1; have n_ := zK (Kd.S_mono (ok' := (fun k_ => some k_ ≠ (.slice g0 z.length i0 : Value).ownBlock ∧ some k_ ≠ (.slice d0 A.length e0 : Value).ownBlock)) q.out (fun k_ hk => ⟨hk.1.2, hk.2⟩)); clear q; have q := n_; clear n_; have HX14 := zK (show Kd.S k57 57 M w.heap.size (fun k_ => ((fun _ => True)) k_ ∧ ¬ ((fun k_ => some k_ = (.slice g0 z.length i0 : Value).ownBlock ∨ some k_ = (.slice d0 A.length e0 : Value).ownBlock)) k_) (.slice (some ⟨go10, 0, none⟩) u.length N0) u from (Kd.S_mono (zlS q.out) (fun k_ hk => ⟨trivial, fun e_ => e_.elim (fun h_ => hk.1 h_) (fun h_ => hk.2 h_)⟩))); obtain ⟨oki14, ce14, hcl14, hM14, hcc14, hfr14, hoki14, hH14⟩ := Kd.S_elem HX14.out z57 (l : Int) (z3) (by have h_ : (l : Int) < ((u.length : Int) : Int) := z3; first | exact h_ | (have e_ := (Kd.S_reads' q.out).1; omega) | simpa using h_); obtain ⟨ve14_0, ve14_1, rfl, ge14_0, ge14_1⟩ := k57_openM hM14; have HP14 := Kd.S_seg hH14 (z3) (by have h_ : (l : Int) < ((u.length : Int) : Int) := z3; first | exact h_ | (have e_ := (Kd.S_reads' q.out).1; omega) | simpa using h_) (seg := [.slice g0 z.length i0, .slice d0 A.length e0]) (j := 0) (show 2 ≤ 2 from by decide) (x' := (⟨z, A⟩ : S57)) (k57_mkM _ _ _ (⟨z, A⟩ : S57) (Kd.R_mono (Kd.R_tight rfl (Kd.R_mono (ok' := fun k_ => ((fun _ => True)) k_ ∧ k_ ≠ go10) (Kd.R_apart' (I.out) (Kd.S_typed q.out) (by decide)) (fun k_ hk => ⟨trivial, fun e_ => (hk.2) (by rw [e_]; rfl)⟩))) (fun _ h_ => Or.inr (Or.inl h_))) (Kd.R_mono (Kd.R_tight rfl (Kd.R_mono (ok' := fun k_ => ((fun _ => True)) k_ ∧ k_ ≠ go10) (Kd.R_apart' (J.out) (Kd.S_typed q.out) (by decide)) (fun k_ hk => ⟨trivial, fun e_ => (hk.2) (by rw [e_]; rfl)⟩))) (fun _ h_ => Or.inr (Or.inr (h_))))) (fun _ hk => hk) (fun k_ hk_ => hk_.elim (fun h_ => ((Kd.R_mono (ok' := fun k_ => ((fun _ => True)) k_ ∧ k_ ≠ go10) (Kd.R_apart' (I.out) (Kd.S_typed q.out) (by decide)) (fun k_ hk => ⟨trivial, fun e_ => (hk.2) (by rw [e_]; rfl)⟩))).1 k_ h_.symm) (fun h_ => ((Kd.R_mono (ok' := fun k_ => ((fun _ => True)) k_ ∧ k_ ≠ go10) (Kd.R_apart' (J.out) (Kd.S_typed q.out) (by decide)) (fun k_ hk => ⟨trivial, fun e_ => (hk.2) (by rw [e_]; rfl)⟩))).1 k_ h_.symm)); have S0 := hcc14 0 _ rfl; (try simp only [show (k57).sz = 2 from rfl, Nat.mul_one, Nat.add_zero] at S0); have hf14_0 := hfr14 0; (try simp only [show (k57).sz = 2 from rfl, Nat.mul_one, Nat.add_zero] at hf14_0); have T0 := hcc14 1 _ rfl; (try simp only [show (k57).sz = 2 from rfl, Nat.mul_one, Nat.add_zero] at T0); have hf14_1 := hfr14 1; (try simp only [show (k57).sz = 2 from rfl, Nat.mul_one, Nat.add_zero] at hf14_1); clear hcl14 hcc14 hfr14 hM14 hoki14 hH14) | ((with_reducible refine gate_store (t := 57) (p := 21) rfl ?_); refine store_event (t := 57) (p := 21) (v := ?vo_w15) (w1 := ((M.setCell ⟨go10, (l : Int).toNat * 2, none⟩ (.slice g0 z.length i0)).setCell ⟨go10, (l : Int).toNat * 2 + 1, none⟩ (.slice d0 A.length e0))) ?hg ?ho ?hn ?hr ?_; (case ho => rfl); (case hg => rfl); (case hn => rfl); (case hr => first | (go_simp; done) | (go_simp; rfl)); intro U0 hw; have hg : M.grownBy U0 (some go10) := (by rw [hw]; exact HP14.2); have hp_ : Kd.S k57 57 U0 w.heap.size (fun _ => True) (.slice (some ⟨go10, 0, none⟩) u.length N0) o0 := (by rw [hw, Ny132.out]; exact HP14.1); clear HP14; have m0 := zK (hp_); have n0 := zK ((by rw [hw]; exact zs (zs (HB.out) GB10.out) GB10.out : Below w.heap.size w U0)); revert m0 n0; clear q HB I J; intro q HB; clear hg hw hp_))
 go_roundg k1
 case measure => have := d1.out; omega
 case rel => exact ⟨(o0), (wrap64 (l + 1)), zR, H', ⟨by have := d1.out; omega⟩, ⟨zkS q⟩, ⟨zB⟩⟩
def laws_toLm.f (k : Nat) (l : Int) (q : List (S71)) : Option (Int × (List (S57))) := (laws_toRowS.f k q).bind fun u => (some (l, u))
theorem laws_toLm.calls (k) (z) (J) (L) (u : List (S71)) (r1) (r2 : List (S57)) (w) (d0 : Kd.C k71 w J u.length u) (e0 : u.length ≤ L) (h : laws_toLm.f k z u = some (r1, r2)) :
 Calls Try.prog 9 #[.agg #[.int .i64 z, .slice J u.length L]] w fun e w' => ∃ v1_ : Value, e = .returned (.agg #[.int .i64 r1, v1_]) ∧ Kd.S k57 57 w' w.heap.size (fun _ => True) v1_ r2 ∧ Below w.heap.size w w' := by
 have f1 := Try.underlying24
 have g1 := Try.underlying29
 have j0 := zK d0
 have l0 := zK e0
 clear d0 e0
 have HB := zK (Below.refl w.heap.size w)
 have H : ((laws_toRowS.f k u).bind fun M => (some (z, M))) = some (r1, r2) := h
 clear h
 replace H := z6 H
 obtain ⟨M, o0, H⟩ := H
 have A2 := zK o0
 clear o0
 simp only [Option.some.injEq, Prod.mk.injEq] at H
 obtain ⟨rfl, rfl⟩ := H
 go_enter Try.func9, Try.ntmps9
 go_wp2_with (first | ((with_reducible refine gd 1 rfl ?_); refine zJ 1 #[.int .i64 z, .slice J u.length L] 24 ?_; intro V0 hg w3 hbox hb; have A := z8 hb; have B := zK (hbox); have E := z9 hg; have I := z9 hg; revert A B E I; clear HB; intro HB l X0 a1; clear hb hbox hg) | ((with_reducible refine gd 2 rfl ?_); refine zJ 2 #[.int .i64 0, .slice none 0 0] 29 ?_; intro m0 hg w4 hbox hb; have A := z7 l hb; have B := z8 hb; have E := zK (hbox); have I := z9 hg; have O := z9 hg; have g0 := zHH hg l; have i0 := zGG hg l; revert A B E I O g0 i0; clear l HB; intro l HB q b1 c1 T U; clear hb hbox hg) | ((with_reducible refine gd 3 rfl ?_); refine zJ 3 #[.int .i64 0, .slice none 0 0] 29 ?_; intro n0 hg w5 hbox hb; have A := z7 l hb; have B := z7 q hb; have E := z8 hb; have I := zK (hbox); have O := z9 hg; have g0 := z9 hg; have i0 := zHH hg l; have L0 := zGG hg l; have M0 := zHH hg q; have N0 := zGG hg q; revert A B E I O g0 i0 L0 M0 N0; clear l q HB; intro l q HB y d1 e1 X a0 b0 c0; clear hb hbox hg; have j1 := T.out; have l1 := U.out; have m1 := X.out; have n1 := a0.out; obtain ⟨O0, R0, S0, T0⟩ := zc2 l; have o1 := c0.out; have p1 := b0.out; obtain ⟨t0, x0, y0, A0⟩ := zc2 y) | ((with_reducible refine gc 31 rfl ?_); refine zF 9 Try.func31 #[.slice J u.length L] rfl zL ?_; refine (laws_toRowS.calls k _ _ u M _ (z4 j0.out zB) l0.out A2.out).mono ?_; rintro e q1 ⟨v137, rfl, U0, hb⟩; refine ⟨_, rfl, ?_⟩; have A := zK (Kd.S_lower U0 (zz zB)); have B := zK (zg (zV l) hb); have E := zK (zg (zV q) hb); have I := zK (zg (g := n0) (o := .cells #[.int .i64 z, .slice none 0 0] 29 (0, 0)) (zW y) hb); have O := z8 hb; revert A B E I O; clear l q y HB; intro f0 l q y HB; obtain ⟨p0, q0, s0⟩ := Kd.S_slice f0.out; subst s0; obtain ⟨B0, C0, D0, E0⟩ := zc2 y; obtain ⟨F0, G0, I0, J0⟩ := zc2 q))
 refine bodyPost_ret (results_cell_row rfl _ _ m0 29 #[.int .i64 z, .slice p0 M.length q0] (0, 0) _ rfl (zW q) Try.underlying29 rfl (by kernel_rfl)) rfl ?_
 exact ⟨_, zE, Kd.S_mono (zlS (Kd.S_types (Kd.S_types f0.out y.out (by decide)) q.out (by decide))) (fun _ hk => trivial), zB⟩
def laws_eqIntS.l0 : Nat → List Int → List Int → Int → Option (Bool)
 | 0, _, _, _ => none
 | k + 1, q, u, l => if l < (q.length : Int) then (if 0 ≤ l then (if l < (u.length : Int) then (if (rd q l) = (rd u l) then (laws_eqIntS.l0 k q u (wrap64 (l + 1))) else (some false)) else (none)) else (none)) else (some true)
def laws_eqIntS.f (k : Nat) (l : List Int) (q : List Int) : Option (Bool) := if (l.length : Int) = (q.length : Int) then (laws_eqIntS.l0 k l q 0) else (some false)
theorem laws_eqIntS.calls (k) (A0) (c0) (q : List Int) (A1) (c1) (u : List Int) (r : Bool) (w) (g0 : Kd.C (Kd.int .i64) w A0 q.length q) (i0 : q.length ≤ c0) (j0 : Kd.C (Kd.int .i64) w A1 u.length u) (m0 : u.length ≤ c1) (h : laws_eqIntS.f k q u = some r) :
 Calls Try.prog 22 #[.slice A0 q.length c0, .slice A1 u.length c1] w fun e w' => e = .returned (.bool r) ∧ Drawn0 w w' := by
 have n0 := zK g0
 have F0 := zK i0
 clear g0 i0
 have o0 := zK j0
 have G0 := zK m0
 clear j0 m0
 have H : (if (q.length : Int) = (u.length : Int) then (laws_eqIntS.l0 k q u 0) else (some false)) = some r := h
 clear h
 by_cases E : (q.length : Int) = (u.length : Int)
 rotate_left
 · rw [if_neg E] at H
   have U := beq_eq_false_iff_ne.mpr E
   have X := bne_iff_ne.mpr E
   have a0 : (q.length == u.length) = false := by first | simpa using E | (simp at E ⊢; omega)
   obtain rfl := z5 H
   go_enter Try.func22, Try.ntmps22
   go_wp2
   repeat (go_quiet (fail); try go_wp2)
   go_ret
   exact ⟨zR, zD⟩
 rw [if_pos E] at H
 have U := beq_iff_eq.mpr E
 have X := bne_eq_false_iff_eq.mpr E
 have a0 : (q.length == u.length) = true := by first | simpa using E | (simp at E ⊢; omega)
 clear E
 have H' := zK H
 clear H
 go_enter Try.func22, Try.ntmps22
 go_wp2
 repeat (go_quiet (fail); try go_wp2)
 go_loopg [5] k (fun kq v5 w' => ∃ (l : Int), v5 = .int .i64 l ∧ Aside0 (laws_eqIntS.l0 kq q u l = some r) ∧ Aside0 (kq ≤ k) ∧ Drawn0 w w')
 case atStart => exact ⟨(0), zR, H', ⟨Nat.le_refl _⟩, zD⟩
 clear H'
 try clear c1
 try clear c2
 try clear p2
 try clear E
 try clear U
 try clear X
 try clear a0
 obtain ⟨l, rfl, HA, p0, ⟨m1, rfl⟩⟩ := hrel
 rcases gk with _ | k1
 · exact absurd HA.out (by simp [laws_eqIntS.l0])
 have H := HA.out
 clear HA
 simp only [laws_eqIntS.l0] at H
 by_cases M : l < (q.length : Int)
 rotate_left
 · rw [if_neg M] at H
   have s0 := z2 M
   clear M
   obtain rfl := z5 H
   go_wp2
   repeat (go_quiet (fail); try go_wp2)
   go_ret
   exact ⟨zR, zD⟩
 rw [if_pos M] at H
 have s0 := z1 M
 clear M
 by_cases c5 : 0 ≤ l
 rotate_left
 · rw [if_neg c5] at H
   exact absurd H (by simp)
 rw [if_pos c5] at H
 have D0 := z1 c5
 clear c5
 by_cases c6 : l < (u.length : Int)
 rotate_left
 · rw [if_neg c6] at H
   exact absurd H (by simp)
 rw [if_pos c6] at H
 have E0 := z1 c6
 clear c6
 by_cases I : (rd q l) = (rd u l)
 rotate_left
 · rw [if_neg I] at H
   have t0 := beq_eq_false_iff_ne.mpr I
   have x0 := bne_iff_ne.mpr I
   obtain rfl := z5 H
   have y : 0 ≤ (l : Int) := z3
   have z : l < (q.length : Int) := z3
   obtain ⟨e0, J, O⟩ := Kd.at_int n0.out l y z
   cases J
   replace y := eq_true y
   replace z := eq_true z
   have A : 0 ≤ (l : Int) := z3
   have B : l < (u.length : Int) := z3
   obtain ⟨f0, L, T⟩ := Kd.at_int o0.out l A B
   cases L
   replace A := eq_true A
   replace B := eq_true B
   go_wp2
   repeat (go_quiet (fail); try go_wp2)
   go_ret
   exact ⟨zR, zD⟩
 rw [if_pos I] at H
 have t0 := beq_iff_eq.mpr I
 have x0 := bne_eq_false_iff_eq.mpr I
 clear I
 have H' := zK H
 clear H
 have y : 0 ≤ (l : Int) := z3
 have z : l < (q.length : Int) := z3
 obtain ⟨e0, J, O⟩ := Kd.at_int n0.out l y z
 cases J
 replace y := eq_true y
 replace z := eq_true z
 have A : 0 ≤ (l : Int) := z3
 have B : l < (u.length : Int) := z3
 obtain ⟨f0, L, T⟩ := Kd.at_int o0.out l A B
 cases L
 replace A := eq_true A
 replace B := eq_true B
 go_wp2
 repeat (go_quiet (fail); try go_wp2)
 go_roundg k1
 case measure => have := p0.out; omega
 case rel => exact ⟨(wrap64 (l + 1)), zR, H', ⟨by have := p0.out; omega⟩, zD⟩
def laws_eqRow.f (k : Nat) (l : List Int) (q : List Int) (u : List Int) (y : List Int) : Option (Bool) := (laws_eqIntS.f k l u).bind fun z => (if z = true then ((laws_eqIntS.f k q y).bind fun A => (if A = true then (some true) else (some false))) else (some false))
theorem laws_eqRow.calls (k) (A) (B) (l : List Int) (E) (I) (q : List Int) (J) (L) (u : List Int) (M) (O) (y : List Int) (r : Bool) (w) (b0 : Kd.C (Kd.int .i64) w A l.length l) (c0 : l.length ≤ B) (d0 : Kd.C (Kd.int .i64) w E q.length q) (e0 : q.length ≤ I) (f0 : Kd.C (Kd.int .i64) w J u.length u) (g0 : u.length ≤ L) (i0 : Kd.C (Kd.int .i64) w M y.length y) (j0 : y.length ≤ O) (h : laws_eqRow.f k l q u y = some r) :
 Calls Try.prog 57 #[.agg #[.slice A l.length B, .slice E q.length I], .agg #[.slice J u.length L, .slice M y.length O]] w fun e w' => e = .returned (.bool r) ∧ Below w.heap.size w w' := by
 have i1 := Try.underlying57
 have q0 := zK b0
 have s0 := zK c0
 clear b0 c0
 have t0 := zK d0
 have x0 := zK e0
 clear d0 e0
 have y0 := zK f0
 have A0 := zK g0
 clear f0 g0
 have B0 := zK i0
 have C0 := zK j0
 clear i0 j0
 have HB := zK (Below.refl w.heap.size w)
 have H : ((laws_eqIntS.f k l u).bind fun X => (if X = true then ((laws_eqIntS.f k q y).bind fun a0 => (if a0 = true then (some true) else (some false))) else (some false))) = some r := h
 clear h
 replace H := z6 H
 obtain ⟨X, F0, H⟩ := H
 have A3 := zK F0
 clear F0
 rcases zN (X = true) with c4 | c4
 replace c4 := Bool.eq_false_iff.mpr c4
 subst c4
 rw [if_neg (show ¬ (false = true) by decide)] at H
 obtain rfl := z5 H
 rotate_left
 subst c4
 rw [if_pos rfl] at H
 replace H := z6 H
 obtain ⟨a0, G0, H⟩ := H
 have A5 := zK G0
 clear G0
 by_cases c6 : a0 = true
 subst c6
 rw [if_pos rfl] at H
 obtain rfl := z5 H
 rotate_left
 replace c6 := Bool.eq_false_iff.mpr c6
 subst c6
 rw [if_neg (show ¬ (false = true) by decide)] at H
 obtain rfl := z5 H
 all_goals go_enter Try.func57, Try.ntmps57
 all_goals go_wp2_with (first | ((with_reducible refine gd 2 rfl ?_); refine zJ 2 #[.slice A l.length B, .slice E q.length I] 57 ?_; intro X0 hg m1 hbox hb; have m0 := z8 hb; have n0 := zK (hbox); have o0 := z9 hg; have p0 := z9 hg; revert m0 n0 o0 p0; clear HB; intro HB z a1 b1; clear hb hbox hg) | ((with_reducible refine gd 3 rfl ?_); refine zJ 3 #[.slice J u.length L, .slice M y.length O] 57 ?_; intro c1 hg n1 hbox hb; have m0 := z7 z hb; have n0 := z8 hb; have o0 := zK (hbox); have p0 := z9 hg; have T0 := z9 hg; have U0 := zHH hg z; have V0 := zGG hg z; revert m0 n0 o0 p0 T0 U0 V0; clear z HB; intro z HB E0 d1 e1 T U; clear hb hbox hg; have f1 := T.out; have g1 := U.out; obtain ⟨I0, J0, L0, M0⟩ := zc2 z; obtain ⟨N0, O0, R0, S0⟩ := zc2 E0) | ((with_reducible refine gc 22 rfl ?_); refine zF 9 Try.func22 #[.slice A l.length B, .slice J u.length L] rfl zL ?_; refine (laws_eqIntS.calls k _ _ l _ _ u _ _ (zS q0) s0.out (zS y0) A0.out A3.out).mono ?_; rintro e w' ⟨rfl, ⟨nd, rfl⟩⟩; refine ⟨_, rfl, ?_⟩) | ((with_reducible refine gc 22 rfl ?_); refine zF 15 Try.func22 #[.slice E q.length I, .slice M y.length O] rfl zL ?_; refine (laws_eqIntS.calls k _ _ q _ _ y _ _ (zS t0) x0.out (zS B0) C0.out A5.out).mono ?_; rintro e w' ⟨rfl, ⟨nd, rfl⟩⟩; refine ⟨_, rfl, ?_⟩))
 all_goals go_ret
 all_goals exact ⟨zE, zB⟩
end Go.Proofs.Ytdlhmhgpafegpaa.PFnExactWeights
