-- Printed out of the translation by this session's own turned copy of a printer; Lean checks it.
import Derived.Test.YtdlhmhgpafegpaaPFnExactWeightsx0
import Derived.Test.YtdlhmhgpafegpaaPFnExactWeightsx1
import Derived.Test.YtdlhmhgpafegpaaPFnExactWeightsx2
import Derived.Test.YtdlhmhgpafegpaaPFnExactWeightsx4
import Derived.Test.YtdlhmhgpafegpaaPFnExactWeightsx8
namespace Go.Proofs.Ytdlhmhgpafegpaa.PFnExactWeights
open Go.RowKit Go.Proofs.YtdlhmhgpafegpaaW.PrintWords Go.Proofs.YtdlhmhgpafegpaaW.PrintLast Go.Proofs.YtdlhmhgpafegpaaW.PrintMore
attribute [local go_sem] max2_int min2_int max_two min_two max_three min_three max_four min_four
set_option linter.unusedVariables false
set_option linter.unusedSimpArgs false
set_option maxHeartbeats 8000000
set_option maxRecDepth 100000
def laws_FnExactWeights.f (k : Nat) (u : Int) (y : List (S71)) (L : List Int) : Option (Bool) := if (L.length : Int) > 1048576 then (some true) else ((laws_szLm.f k u y 1048576).bind fun U => (if U < 0 then (some true) else ((laws_toLm.f k u y).bind fun E => ((laws_toIntS.f k L).bind fun X => ((spec_Weights.f k E.1 E.2 X).bind fun z => ((laws_toLm.f k u y).bind fun l => ((laws_toIntS.f k L).bind fun A => ((impl_Weights.f k l.1 l.2 A).bind fun B => ((laws_eqIntS.f k B z).bind fun a0 => (if a0 = true then ((laws_toLm.f k u y).bind fun I => ((laws_eqLm.f k l.1 l.2 I.1 I.2).bind fun b0 => (if b0 = true then ((laws_toIntS.f k L).bind fun c0 => ((laws_eqIntS.f k A c0).bind fun d0 => (if d0 = true then ((laws_markLm.f l.1 l.2 1).bind fun e0 => ((laws_markIntS.f k A e0).bind fun T => (if T.1 < 0 then (some false) else ((laws_eqIntS.f k B z).bind fun f0 => (if f0 = true then ((laws_markIntS.f k B 1).bind fun q => ((laws_heldIntS.f k q.2 1).bind fun M => (if M < 0 then (some false) else (if M = q.1 then ((laws_toLm.f k u y).bind fun J => ((laws_toIntS.f k L).bind fun g0 => ((impl_Weights.f k J.1 J.2 g0).bind fun i0 => ((laws_eqIntS.f k i0 z).bind fun j0 => (if j0 = true then ((laws_heldIntS.f k q.2 1).bind fun O => (if O < 0 then (some false) else (if O = q.1 then (some true) else (some false)))) else (some false)))))) else (some false))))) else (some false)))))) else (some false)))) else (some false)))) else (some false)))))))))))
theorem laws_FnExactWeights.calls (k) (i0) (p0) (q0) (g0 : List (S71)) (A1) (c1) (l1 : List Int) (r : Bool) (w) (y6 : Kd.C k71 w p0 g0.length g0) (A6 : g0.length ≤ q0) (hr1 : Kd.C (Kd.int .i64) w A1 l1.length l1) (hc1 : l1.length ≤ c1) (h : laws_FnExactWeights.f k i0 g0 l1 = some r) :
 Calls Try.prog 6 #[.agg #[.int .i64 i0, .slice p0 g0.length q0], .slice A1 l1.length c1] w fun e w' => e = .returned (.bool r) ∧ Below w.heap.size w w' := by
 have b5z := Try.underlying24
 have b6a := Try.underlying29
 have A0 := zK y6
 have B0 := zK A6
 clear y6 A6
 have n1 := zK hr1
 have o1 := zK hc1
 clear hr1 hc1
 have HB := zK (Below.refl w.heap.size w)
 have H : (if (l1.length : Int) > 1048576 then (some true) else ((laws_szLm.f k i0 g0 1048576).bind fun X2 => (if X2 < 0 then (some true) else ((laws_toLm.f k i0 g0).bind fun B6 => ((laws_toIntS.f k l1).bind fun f0 => ((spec_Weights.f k B6.1 B6.2 f0).bind fun c0 => ((laws_toLm.f k i0 g0).bind fun D2 => ((laws_toIntS.f k l1).bind fun T => ((impl_Weights.f k D2.1 D2.2 T).bind fun U => ((laws_eqIntS.f k U c0).bind fun s5 => (if s5 = true then ((laws_toLm.f k i0 g0).bind fun D3 => ((laws_eqLm.f k D2.1 D2.2 D3.1 D3.2).bind fun o4 => (if o4 = true then ((laws_toIntS.f k l1).bind fun o0 => ((laws_eqIntS.f k T o0).bind fun p4 => (if p4 = true then ((laws_markLm.f D2.1 D2.2 1).bind fun N0 => ((laws_markIntS.f k T N0).bind fun q4 => (if q4.1 < 0 then (some false) else ((laws_eqIntS.f k U c0).bind fun p3 => (if p3 = true then ((laws_markIntS.f k U 1).bind fun T0 => ((laws_heldIntS.f k T0.2 1).bind fun X0 => (if X0 < 0 then (some false) else (if X0 = T0.1 then ((laws_toLm.f k i0 g0).bind fun M1 => ((laws_toIntS.f k l1).bind fun a1 => ((impl_Weights.f k M1.1 M1.2 a1).bind fun b1 => ((laws_eqIntS.f k b1 c0).bind fun G2 => (if G2 = true then ((laws_heldIntS.f k T0.2 1).bind fun d1 => (if d1 < 0 then (some false) else (if d1 = T0.1 then (some true) else (some false)))) else (some false)))))) else (some false))))) else (some false)))))) else (some false)))) else (some false)))) else (some false)))))))))))) = some r := h
 clear h
 by_cases c3 : (l1.length : Int) > 1048576
 rw [if_pos c3] at H
 have a1s := z1 c3
 have a1t : decide (1048576 < l1.length) = true := z1 (by omega)
 clear c3
 obtain rfl := z5 H
 rotate_left
 rw [if_neg c3] at H
 have a1s := z2 c3
 have a1t : decide (1048576 < l1.length) = false := z2 (by omega)
 clear c3
 replace H := z6 H
 obtain ⟨X2, A50, H⟩ := H
 have A5 := zK A50
 clear A50
 by_cases c6 : X2 < 0
 rw [if_pos c6] at H
 have a1u := z1 c6
 clear c6
 obtain rfl := z5 H
 rotate_left
 rw [if_neg c6] at H
 have a1u := z2 c6
 clear c6
 replace H := z6 H
 obtain ⟨⟨O0, x0⟩, p7, H⟩ := H
 replace H : ((laws_toIntS.f k l1).bind fun f0 => ((spec_Weights.f k O0 x0 f0).bind fun c0 => ((laws_toLm.f k i0 g0).bind fun D2 => ((laws_toIntS.f k l1).bind fun T => ((impl_Weights.f k D2.1 D2.2 T).bind fun U => ((laws_eqIntS.f k U c0).bind fun s5 => (if s5 = true then ((laws_toLm.f k i0 g0).bind fun D3 => ((laws_eqLm.f k D2.1 D2.2 D3.1 D3.2).bind fun o4 => (if o4 = true then ((laws_toIntS.f k l1).bind fun o0 => ((laws_eqIntS.f k T o0).bind fun p4 => (if p4 = true then ((laws_markLm.f D2.1 D2.2 1).bind fun N0 => ((laws_markIntS.f k T N0).bind fun q4 => (if q4.1 < 0 then (some false) else ((laws_eqIntS.f k U c0).bind fun p3 => (if p3 = true then ((laws_markIntS.f k U 1).bind fun T0 => ((laws_heldIntS.f k T0.2 1).bind fun X0 => (if X0 < 0 then (some false) else (if X0 = T0.1 then ((laws_toLm.f k i0 g0).bind fun M1 => ((laws_toIntS.f k l1).bind fun a1 => ((impl_Weights.f k M1.1 M1.2 a1).bind fun b1 => ((laws_eqIntS.f k b1 c0).bind fun G2 => (if G2 = true then ((laws_heldIntS.f k T0.2 1).bind fun d1 => (if d1 < 0 then (some false) else (if d1 = T0.1 then (some true) else (some false)))) else (some false)))))) else (some false))))) else (some false)))))) else (some false)))) else (some false)))) else (some false)))))))) = some r := H
 have g5 := zK p7
 clear p7
 replace H := z6 H
 obtain ⟨f0, q7, H⟩ := H
 have i5 := zK q7
 clear q7
 replace H := z6 H
 obtain ⟨c0, s7, H⟩ := H
 have j5 := zK s7
 clear s7
 replace H := z6 H
 obtain ⟨⟨n0, j0⟩, t7, H⟩ := H
 replace H : ((laws_toIntS.f k l1).bind fun T => ((impl_Weights.f k n0 j0 T).bind fun U => ((laws_eqIntS.f k U c0).bind fun s5 => (if s5 = true then ((laws_toLm.f k i0 g0).bind fun D3 => ((laws_eqLm.f k n0 j0 D3.1 D3.2).bind fun o4 => (if o4 = true then ((laws_toIntS.f k l1).bind fun o0 => ((laws_eqIntS.f k T o0).bind fun p4 => (if p4 = true then ((laws_markLm.f n0 j0 1).bind fun N0 => ((laws_markIntS.f k T N0).bind fun q4 => (if q4.1 < 0 then (some false) else ((laws_eqIntS.f k U c0).bind fun p3 => (if p3 = true then ((laws_markIntS.f k U 1).bind fun T0 => ((laws_heldIntS.f k T0.2 1).bind fun X0 => (if X0 < 0 then (some false) else (if X0 = T0.1 then ((laws_toLm.f k i0 g0).bind fun M1 => ((laws_toIntS.f k l1).bind fun a1 => ((impl_Weights.f k M1.1 M1.2 a1).bind fun b1 => ((laws_eqIntS.f k b1 c0).bind fun G2 => (if G2 = true then ((laws_heldIntS.f k T0.2 1).bind fun d1 => (if d1 < 0 then (some false) else (if d1 = T0.1 then (some true) else (some false)))) else (some false)))))) else (some false))))) else (some false)))))) else (some false)))) else (some false)))) else (some false))))) = some r := H
 have l5 := zK t7
 clear t7
 replace H := z6 H
 obtain ⟨T, x7, H⟩ := H
 have m5 := zK x7
 clear x7
 replace H := z6 H
 obtain ⟨U, y7, H⟩ := H
 have n5 := zK y7
 clear y7
 replace H := z6 H
 obtain ⟨s5, A7, H⟩ := H
 have o5 := zK A7
 clear A7
 rcases zN (s5 = true) with x6 | x6
 replace x6 := Bool.eq_false_iff.mpr x6
 subst x6
 rw [if_neg (show ¬ (false = true) by decide)] at H
 obtain rfl := z5 H
 rotate_left
 subst x6
 rw [if_pos rfl] at H
 replace H := z6 H
 obtain ⟨⟨R0, L0⟩, B7, H⟩ := H
 replace H : ((laws_eqLm.f k n0 j0 R0 L0).bind fun o4 => (if o4 = true then ((laws_toIntS.f k l1).bind fun o0 => ((laws_eqIntS.f k T o0).bind fun p4 => (if p4 = true then ((laws_markLm.f n0 j0 1).bind fun N0 => ((laws_markIntS.f k T N0).bind fun q4 => (if q4.1 < 0 then (some false) else ((laws_eqIntS.f k U c0).bind fun p3 => (if p3 = true then ((laws_markIntS.f k U 1).bind fun T0 => ((laws_heldIntS.f k T0.2 1).bind fun X0 => (if X0 < 0 then (some false) else (if X0 = T0.1 then ((laws_toLm.f k i0 g0).bind fun M1 => ((laws_toIntS.f k l1).bind fun a1 => ((impl_Weights.f k M1.1 M1.2 a1).bind fun b1 => ((laws_eqIntS.f k b1 c0).bind fun G2 => (if G2 = true then ((laws_heldIntS.f k T0.2 1).bind fun d1 => (if d1 < 0 then (some false) else (if d1 = T0.1 then (some true) else (some false)))) else (some false)))))) else (some false))))) else (some false)))))) else (some false)))) else (some false))) = some r := H
 have p5 := zK B7
 clear B7
 replace H := z6 H
 obtain ⟨o4, C7, H⟩ := H
 have q5 := zK C7
 clear C7
 by_cases C6 : o4 = true
 rotate_left
 · as_aux_lemma =>
   replace C6 := Bool.eq_false_iff.mpr C6
   subst C6
   rw [if_neg (show ¬ (false = true) by decide)] at H
   obtain rfl := z5 H
   go_enter Try.func6, Try.ntmps6
   try go_wp2_with (first | ((with_reducible refine gd 2 rfl ?_); refine zJ 2 #[.int .i64 i0, .slice p0 g0.length q0] 24 ?_; intro C0 hg b6b hbox hb; have J := z8 hb; have L := zK (hbox); have M := z9 hg; have O := z9 hg; revert J L M O; clear HB; intro HB l n3 U0; clear hb hbox hg; obtain ⟨a1x, a1y, a1z, a2a⟩ := zc2 l) | ((with_reducible refine gc 7 rfl ?_); refine zF 19 Try.func7 #[.agg #[.int .i64 i0, .slice p0 g0.length q0], .int .i64 1048576] rfl zL ?_; refine (laws_szLm.calls k i0 _ _ g0 1048576 X2 _ (zS A0) B0.out A5.out).mono ?_; rintro e b6c ⟨rfl, hb⟩; refine ⟨_, rfl, ?_⟩; have J := z7 l hb; have L := z8 hb; revert J L; clear l HB; intro l HB; obtain ⟨a2b, a2c, a2d, a2e⟩ := zc2 l) | ((with_reducible refine gc 9 rfl ?_); refine zF 23 Try.func9 #[.agg #[.int .i64 i0, .slice p0 g0.length q0]] rfl zL ?_; refine (laws_toLm.calls k i0 _ _ g0 O0 x0 _ (zS A0) B0.out g5.out).mono ?_; rintro e b6d ⟨v266, rfl, I, hb⟩; refine ⟨_, rfl, ?_⟩; have J := zK (Kd.S_lower I (zz zB)); have L := z7 l hb; have M := z8 hb; revert J L M; clear l HB; intro A l HB) | ((with_reducible refine gc 20 rfl ?_); refine zF 25 Try.func20 #[.slice A1 l1.length c1] rfl zL ?_; refine (laws_toIntS.calls k _ _ l1 f0 _ (zS n1) o1.out i5.out).mono ?_; rintro e b6e ⟨v269, rfl, I, hb⟩; refine ⟨_, rfl, ?_⟩; have J := zK (Kd.S_elder' (zkS A) (Kd.R_base I) hb); have L := zK (Kd.R_lower I (zz zB)); have M := z7 l hb; have O := z8 hb; revert J L M O; clear A l HB; intro A q l HB; obtain ⟨l6, m6, g8⟩ := Kd.S_slice A.out; subst g8; obtain ⟨s4, t4, i8⟩ := Kd.R_slice q.out; subst i8) | ((with_reducible refine gc 19 rfl ?_); refine zF 26 Try.func19 #[.agg #[.int .i64 O0, .slice l6 x0.length m6], .slice s4 f0.length t4] rfl zL ?_; refine (spec_Weights.calls k O0 _ _ x0 _ _ f0 c0 _ (zC (Kd.S_reads' A.out).2.2) ((Kd.S_reads' A.out).2.1) (zC (Kd.R_reads' q.out).2.2) ((Kd.R_reads' q.out).2.1) j5.out).mono ?_; rintro e b6f ⟨v272, rfl, I, hb⟩; refine ⟨_, rfl, ?_⟩; have J := zK (Kd.S_elder' (zkS A) (Kd.R_base I) hb); have L := zK (Kd.R_elder' (zkR q) (Kd.R_base I) hb); have M := zK (Kd.R_lower (Kd.R_new' I (Kd.R_lt (zkR q))) (zz zB)); have O := z7 l hb; have X := z8 hb; revert J L M O X; clear A q l HB; intro A q u l HB; obtain ⟨a2f, a2g, a2j, a2l⟩ := zc2 l) | ((with_reducible refine gc 9 rfl ?_); refine zF 28 Try.func9 #[.agg #[.int .i64 i0, .slice p0 g0.length q0]] rfl zL ?_; refine (laws_toLm.calls k i0 _ _ g0 n0 j0 _ (zS A0) B0.out l5.out).mono ?_; rintro e b6g ⟨v276, rfl, I, hb⟩; refine ⟨_, rfl, ?_⟩; have J := zK (Kd.S_elder' (zkS A) (Kd.S_base I) hb); have L := zK (Kd.R_below (zkR q) hb); have M := zK (Kd.R_below (zkR u) hb); have O := zK (Kd.S_lower (Kd.S_new' (Kd.S_new' (Kd.S_new' I (Kd.S_lt (zkS A))) (Kd.R_lt (zkR q))) (Kd.R_lt (zkR u))) (zz zB)); have X := z7 l hb; have b0 := z8 hb; revert J L M O X b0; clear A q u l HB; intro A q u E l HB) | ((with_reducible refine gd 7 rfl ?_); refine zJ 7 #[.int .i64 0, .slice none 0 0] 29 ?_; intro y0 hg b6j hbox hb; have J := zK (Kd.S_below (zkS A) hb); have L := zK (Kd.R_below (zkR q) hb); have M := zK (Kd.R_below (zkR u) hb); have O := zK (Kd.S_below (zkS E) hb); have X := z7 l hb; have b0 := z8 hb; have d0 := zK (hbox); have e0 := z9 hg; have m0 := z9 hg; have t0 := zHH hg l; have F0 := zGG hg l; revert J L M O X b0 d0 e0 m0 t0 F0; clear A q u E l HB; intro A q u E l HB y o3 V0 I0 J0; clear hb hbox hg; have b4z := J0.out; have b5a := I0.out; obtain ⟨a2m, a2n, a2o, a2p⟩ := zc2 y; obtain ⟨x4, y4, j8⟩ := Kd.S_slice E.out; subst j8) | ((with_reducible refine gc 20 rfl ?_); refine zF 30 Try.func20 #[.slice A1 l1.length c1] rfl zL ?_; refine (laws_toIntS.calls k _ _ l1 T _ (z4 n1.out zB) o1.out m5.out).mono ?_; rintro e b6l ⟨v280, rfl, I, hb⟩; refine ⟨_, rfl, ?_⟩; have J := zK (Kd.S_elder' (Kd.S_mono (zlS (Kd.S_types A.out y.out (by decide))) (fun _ h_ => h_.1)) (Kd.R_base I) hb); have L := zK (Kd.R_elder' (Kd.R_mono (zlR (Kd.R_types q.out y.out (by decide))) (fun _ h_ => h_.1)) (Kd.R_base I) hb); have M := zK (Kd.R_elder' (Kd.R_mono (zlR (Kd.R_types u.out y.out (by decide))) (fun _ h_ => h_.1)) (Kd.R_base I) hb); have O := zK (Kd.S_elder' (Kd.S_mono (zlS (Kd.S_types E.out y.out (by decide))) (fun _ h_ => h_.1)) (Kd.R_base I) hb); have X := zK (Kd.R_lower (Kd.R_new' (Kd.R_new' I (Kd.R_lt (Kd.R_mono (zlR (Kd.R_types q.out y.out (by decide))) (fun _ h_ => h_.1)))) (Kd.R_lt (Kd.R_mono (zlR (Kd.R_types u.out y.out (by decide))) (fun _ h_ => h_.1)))) (zz zB)); have b0 := zK (zg (zV l) hb); have d0 := zK (zg (g := y0) (o := .cells #[.int .i64 n0, .slice x4 j0.length y4] 29 (0, 0)) (zW y) hb); have e0 := z8 hb; revert J L M O X b0 d0 e0; clear A q u E l y HB; intro A q u E z l y HB; obtain ⟨a2q, a2s, a2t, a2u⟩ := zc2 y; obtain ⟨A4, B4, l8⟩ := Kd.R_slice z.out; subst l8) | ((with_reducible refine gc 21 rfl ?_); refine zF 33 Try.func21 #[.agg #[.int .i64 n0, .slice x4 j0.length y4], .slice A4 T.length B4] rfl zL ?_; refine (impl_Weights.calls k n0 _ _ j0 _ _ T U _ (zC (Kd.S_reads' E.out).2.2) ((Kd.S_reads' E.out).2.1) (zC (Kd.R_reads' z.out).2.2) ((Kd.R_reads' z.out).2.1) n5.out).mono ?_; rintro e a3 ⟨v283, rfl, I, hb⟩; refine ⟨_, rfl, ?_⟩; have J := zK (Kd.S_elder' (zkS A) (Kd.R_base I) hb); have L := zK (Kd.R_elder' (zkR q) (Kd.R_base I) hb); have M := zK (Kd.R_elder' (zkR u) (Kd.R_base I) hb); have O := zK (Kd.S_elder' (zkS E) (Kd.R_base I) hb); have X := zK (Kd.R_elder' (zkR z) (Kd.R_base I) hb); have b0 := zK (Kd.R_lower (Kd.R_new' (Kd.R_new' (Kd.R_new' I (Kd.R_lt (zkR q))) (Kd.R_lt (zkR u))) (Kd.R_lt (zkR z))) (zz zB)); have d0 := z7 l hb; have e0 := z7 y hb; have m0 := z8 hb; revert J L M O X b0 d0 e0 m0; clear A q u E z l y HB; intro A q u E z B l y HB; obtain ⟨C4, D4, m8⟩ := Kd.R_slice B.out; subst m8; obtain ⟨E4, F4, n8⟩ := Kd.R_slice u.out; subst n8) | ((with_reducible refine gc 22 rfl ?_); refine zF 36 Try.func22 #[.slice C4 U.length D4, .slice E4 c0.length F4] rfl zL ?_; refine (laws_eqIntS.calls k _ _ U _ _ c0 true _ (zC (Kd.R_reads' B.out).2.2) ((Kd.R_reads' B.out).2.1) (zC (Kd.R_reads' u.out).2.2) ((Kd.R_reads' u.out).2.1) o5.out).mono ?_; rintro e w' ⟨rfl, ⟨nd, rfl⟩⟩; refine ⟨_, rfl, ?_⟩))
   (try (rw [drewN_self a3]; generalize hq_ : World.drewN a3 _ = a3; have J : Aside0 (Kd.S k57 57 a3 w.heap.size (fun k_ => (((((True ∧ some k_ ≠ (.slice s4 f0.length t4 : Value).ownBlock) ∧ some k_ ≠ (.slice E4 c0.length F4 : Value).ownBlock) ∧ some k_ ≠ (.slice x4 j0.length y4 : Value).ownBlock) ∧ some k_ ≠ (.slice A4 T.length B4 : Value).ownBlock) ∧ some k_ ≠ (.slice C4 U.length D4 : Value).ownBlock)) (.slice l6 x0.length m6) x0) := ⟨by rw [← hq_]; exact zkS A⟩; have L : Aside0 (Kd.R (Kd.int .i64) 3 a3 w.heap.size (fun k_ => (((True ∧ some k_ ≠ (.slice E4 c0.length F4 : Value).ownBlock) ∧ some k_ ≠ (.slice A4 T.length B4 : Value).ownBlock) ∧ some k_ ≠ (.slice C4 U.length D4 : Value).ownBlock)) (.slice s4 f0.length t4) f0) := ⟨by rw [← hq_]; exact zkR q⟩; have M : Aside0 (Kd.R (Kd.int .i64) 3 a3 w.heap.size (fun k_ => (((True ∧ some k_ ≠ (.slice s4 f0.length t4 : Value).ownBlock) ∧ some k_ ≠ (.slice A4 T.length B4 : Value).ownBlock) ∧ some k_ ≠ (.slice C4 U.length D4 : Value).ownBlock)) (.slice E4 c0.length F4) c0) := ⟨by rw [← hq_]; exact zkR u⟩; have O : Aside0 (Kd.S k57 57 a3 w.heap.size (fun k_ => (((((True ∧ some k_ ≠ (.slice l6 x0.length m6 : Value).ownBlock) ∧ some k_ ≠ (.slice s4 f0.length t4 : Value).ownBlock) ∧ some k_ ≠ (.slice E4 c0.length F4 : Value).ownBlock) ∧ some k_ ≠ (.slice A4 T.length B4 : Value).ownBlock) ∧ some k_ ≠ (.slice C4 U.length D4 : Value).ownBlock)) (.slice x4 j0.length y4) j0) := ⟨by rw [← hq_]; exact zkS E⟩; have X : Aside0 (Kd.R (Kd.int .i64) 3 a3 w.heap.size (fun k_ => (((True ∧ some k_ ≠ (.slice s4 f0.length t4 : Value).ownBlock) ∧ some k_ ≠ (.slice E4 c0.length F4 : Value).ownBlock) ∧ some k_ ≠ (.slice C4 U.length D4 : Value).ownBlock)) (.slice A4 T.length B4) T) := ⟨by rw [← hq_]; exact zkR z⟩; have b0 : Aside0 (Kd.R (Kd.int .i64) 3 a3 w.heap.size (fun k_ => (((True ∧ some k_ ≠ (.slice s4 f0.length t4 : Value).ownBlock) ∧ some k_ ≠ (.slice E4 c0.length F4 : Value).ownBlock) ∧ some k_ ≠ (.slice A4 T.length B4 : Value).ownBlock)) (.slice C4 U.length D4) U) := ⟨by rw [← hq_]; exact zkR B⟩; have d0 : Aside0 (a3.heap[C0]? = some (.cells #[.int .i64 i0, .slice p0 g0.length q0] 24 (0, 0))) := ⟨by rw [← hq_]; exact (zM l)⟩; have e0 : Aside0 (a3.heap[y0]? = some (.cells #[.int .i64 n0, .slice x4 j0.length y4] 29 (0, 0))) := ⟨by rw [← hq_]; exact (zM y)⟩; have m0 : Aside0 (Below w.heap.size w a3) := ⟨by rw [← hq_]; exact zB⟩; clear A q u E z B l y HB hq_; revert J L M O X b0 d0 e0 m0; intro A q u E z B l y HB))
   have J := zK (Kd.S_drew A.out)
   have L := zK (Kd.R_drew q.out)
   have M := zK (Kd.R_drew u.out)
   have O := zK (Kd.S_drew E.out)
   have X := zK (Kd.R_drew z.out)
   have b0 := zK (Kd.R_drew B.out)
   have d0 := zK (zd l.out)
   have e0 := zK (zd y.out)
   have m0 := zK (ze HB.out)
   revert J L M O X b0 d0 e0 m0
   clear A q u E z B l y HB
   intro A q u E z B l y HB
   refine start_ (n := 5) (S := fun w' => w'.cell? ⟨y0, 0, none⟩ = some (.int .i64 n0) ∧ w'.cell? ⟨y0, 1, none⟩ = some (.slice x4 j0.length y4) ∧ w'.cell? ⟨C0, 0, none⟩ = some (.int .i64 i0) ∧ w'.cell? ⟨C0, 1, none⟩ = some (.slice p0 g0.length q0)) (ds := []) (bl 5 0) (by kernel_rfl) rfl (by kernel_rfl) ⟨zy y 0, zy y 1, zy l 0, zy l 1⟩ (fun hHeld => ?_)
   generalize a3.drew = b6m at A q u E z B l y HB hHeld ⊢
   refine take_ (i := 0) (N := some 38) (v := ?_) (a' := ?_) (bl 5 1) rfl rfl (by kernel_rfl) (fun _ _ _ h => h) (Or.inl ⟨by rfl, ?_⟩) hHeld ?_ ?_
   rotate_left
   · rintro w' ⟨s0, s1, s2, s3⟩
     go_simp
     with_reducible rfl
   rotate_left
   · simp only [Act.put, zq1, zq2, zq3, i64_w, i32_w]
     rfl
   refine take_ (i := 1) (N := some 39) (v := ?_) (a' := ?_) (bl 5 3) rfl rfl (by kernel_rfl) (fun _ _ _ h => h) (Or.inl ⟨by rfl, ?_⟩) hHeld ?_ ?_
   rotate_left
   · rintro w' ⟨s0, s1, s2, s3⟩
     go_simp
     with_reducible rfl
   rotate_left
   · simp only [Act.put, zq1, zq2, zq3, i64_w, i32_w]
     rfl
   refine one_ (i := 2) (N := some 40) (bl 5 7) rfl rfl (by kernel_rfl) (by decide) (fun K hK => ?_)
   refine goes_ Try.func9 (by kernel_rfl) rfl #[.agg #[.int .i64 i0, .slice p0 g0.length q0]] (by rfl) rfl rfl zL ?_
   refine (laws_toLm.calls k i0 _ _ g0 R0 L0 _ (zS A0) B0.out p5.out).mono ?_
   rintro e b6n ⟨v288, rfl, I, hb⟩
   refine ⟨_, rfl, ?_⟩
   have J := zK (Kd.S_elder' (zkS A) (Kd.S_base I) hb)
   have L := zK (Kd.R_below (zkR q) hb)
   have M := zK (Kd.R_below (zkR u) hb)
   have O := zK (Kd.S_elder' (zkS E) (Kd.S_base I) hb)
   have X := zK (Kd.R_below (zkR z) hb)
   have b0 := zK (Kd.R_below (zkR B) hb)
   have d0 := zK (Kd.S_lower (Kd.S_new' (Kd.S_new' (Kd.S_new' (Kd.S_new' (Kd.S_new' (Kd.S_new' I (Kd.S_lt (zkS A))) (Kd.R_lt (zkR q))) (Kd.R_lt (zkR u))) (Kd.S_lt (zkS E))) (Kd.R_lt (zkR z))) (Kd.R_lt (zkR B))) (zz zB))
   have e0 := z7 l hb
   have m0 := z7 y hb
   have t0 := z8 hb
   revert J L M O X b0 d0 e0 m0 t0
   clear A q u E z B l y HB
   intro A q u E z B l0 l y HB
   (try clear hb)
   (try clear hb2)
   (try clear hk)
   (try clear hi)
   (try clear I)
   obtain ⟨o8, p8, D6⟩ := Kd.S_slice l0.out
   (first | subst D6 | (injection D6 with f1_ f2_ f3_; have f4_ := f1_.symm; have f5_ := f3_.symm; clear f1_ f2_ f3_; subst f4_; subst f5_))
   refine hK.out _ _ ⟨zy y 0, zy y 1, zy l 0, zy l 1⟩ (fun hHeld => ?_)
   clear hK K
   refine zU 40 ?_
   refine one_ (i := 3) (N := some 41) (bl 5 15) rfl rfl (by kernel_rfl) (by decide) (fun K hK => ?_)
   refine goes_ Try.func11 (by kernel_rfl) rfl #[.agg #[.int .i64 n0, .slice x4 j0.length y4], .agg #[.int .i64 R0, .slice o8 L0.length p8]] (by rfl) rfl rfl zL ?_
   refine (laws_eqLm.calls k n0 _ _ j0 R0 _ _ L0 false _ (zC (Kd.S_reads' E.out).2.2) ((Kd.S_reads' E.out).2.1) (zC (Kd.S_reads' l0.out).2.2) ((Kd.S_reads' l0.out).2.1) q5.out).mono ?_
   rintro e b6o ⟨rfl, hb⟩
   refine ⟨_, rfl, ?_⟩
   have J := zK (Kd.S_below (zkS A) hb)
   have L := zK (Kd.R_below (zkR q) hb)
   have M := zK (Kd.R_below (zkR u) hb)
   have O := zK (Kd.S_below (zkS E) hb)
   have X := zK (Kd.R_below (zkR z) hb)
   have b0 := zK (Kd.R_below (zkR B) hb)
   have d0 := zK (Kd.S_below (zkS l0) hb)
   have e0 := z7 l hb
   have m0 := z7 y hb
   have t0 := z8 hb
   revert J L M O X b0 d0 e0 m0 t0
   clear A q u E z B l0 l y HB
   intro A q u E z B l0 l y HB
   (try clear hb)
   (try clear hb2)
   (try clear hk)
   (try clear hi)
   refine hK.out _ _ ⟨zy y 0, zy y 1, zy l 0, zy l 1⟩ (fun hHeld => ?_)
   clear hK K
   refine zU 41 ?_
   refine pure_ (i := 4) (N := some 42) (v := ?_) (a' := ?_) (bl 5 31) rfl rfl (by kernel_rfl) (fun _ _ _ h => h) (Or.inl ⟨by rfl, ?_⟩) ?_ ?_
   rotate_left
   · intro w'
     go_simp
     with_reducible rfl
   rotate_left
   · simp only [Act.put, zq1, zq2, zq3, i64_w, i32_w]
     rfl
   refine done_ (by kernel_rfl) ?_
   try go_wp2
   go_ret
   exact ⟨zE, zB⟩
 rotate_right
 subst C6
 rw [if_pos rfl] at H
 replace H := z6 H
 obtain ⟨o0, D7, H⟩ := H
 have x5 := zK D7
 clear D7
 replace H := z6 H
 obtain ⟨p4, E7, H⟩ := H
 have y5 := zK E7
 clear E7
 by_cases E6 : p4 = true
 rotate_left
 · as_aux_lemma =>
   replace E6 := Bool.eq_false_iff.mpr E6
   subst E6
   rw [if_neg (show ¬ (false = true) by decide)] at H
   obtain rfl := z5 H
   go_enter Try.func6, Try.ntmps6
   try go_wp2_with (first | ((with_reducible refine gd 2 rfl ?_); refine zJ 2 #[.int .i64 i0, .slice p0 g0.length q0] 24 ?_; intro C0 hg b6p hbox hb; have J := z8 hb; have L := zK (hbox); have M := z9 hg; have O := z9 hg; revert J L M O; clear HB; intro HB l n3 U0; clear hb hbox hg; obtain ⟨a2x, a2y, a2z, a3a⟩ := zc2 l) | ((with_reducible refine gc 7 rfl ?_); refine zF 19 Try.func7 #[.agg #[.int .i64 i0, .slice p0 g0.length q0], .int .i64 1048576] rfl zL ?_; refine (laws_szLm.calls k i0 _ _ g0 1048576 X2 _ (zS A0) B0.out A5.out).mono ?_; rintro e b6q ⟨rfl, hb⟩; refine ⟨_, rfl, ?_⟩; have J := z7 l hb; have L := z8 hb; revert J L; clear l HB; intro l HB; obtain ⟨a3b, a3c, a3d, a3e⟩ := zc2 l) | ((with_reducible refine gc 9 rfl ?_); refine zF 23 Try.func9 #[.agg #[.int .i64 i0, .slice p0 g0.length q0]] rfl zL ?_; refine (laws_toLm.calls k i0 _ _ g0 O0 x0 _ (zS A0) B0.out g5.out).mono ?_; rintro e b6s ⟨v266, rfl, I, hb⟩; refine ⟨_, rfl, ?_⟩; have J := zK (Kd.S_lower I (zz zB)); have L := z7 l hb; have M := z8 hb; revert J L M; clear l HB; intro A l HB) | ((with_reducible refine gc 20 rfl ?_); refine zF 25 Try.func20 #[.slice A1 l1.length c1] rfl zL ?_; refine (laws_toIntS.calls k _ _ l1 f0 _ (zS n1) o1.out i5.out).mono ?_; rintro e b6t ⟨v269, rfl, I, hb⟩; refine ⟨_, rfl, ?_⟩; have J := zK (Kd.S_elder' (zkS A) (Kd.R_base I) hb); have L := zK (Kd.R_lower I (zz zB)); have M := z7 l hb; have O := z8 hb; revert J L M O; clear A l HB; intro A q l HB; obtain ⟨n6, o6, q8⟩ := Kd.S_slice A.out; subst q8; obtain ⟨M4, N4, s8⟩ := Kd.R_slice q.out; subst s8) | ((with_reducible refine gc 19 rfl ?_); refine zF 26 Try.func19 #[.agg #[.int .i64 O0, .slice n6 x0.length o6], .slice M4 f0.length N4] rfl zL ?_; refine (spec_Weights.calls k O0 _ _ x0 _ _ f0 c0 _ (zC (Kd.S_reads' A.out).2.2) ((Kd.S_reads' A.out).2.1) (zC (Kd.R_reads' q.out).2.2) ((Kd.R_reads' q.out).2.1) j5.out).mono ?_; rintro e b6u ⟨v272, rfl, I, hb⟩; refine ⟨_, rfl, ?_⟩; have J := zK (Kd.S_elder' (zkS A) (Kd.R_base I) hb); have L := zK (Kd.R_elder' (zkR q) (Kd.R_base I) hb); have M := zK (Kd.R_lower (Kd.R_new' I (Kd.R_lt (zkR q))) (zz zB)); have O := z7 l hb; have X := z8 hb; revert J L M O X; clear A q l HB; intro A q u l HB; obtain ⟨a3f, a3g, a3j, a3l⟩ := zc2 l) | ((with_reducible refine gc 9 rfl ?_); refine zF 28 Try.func9 #[.agg #[.int .i64 i0, .slice p0 g0.length q0]] rfl zL ?_; refine (laws_toLm.calls k i0 _ _ g0 n0 j0 _ (zS A0) B0.out l5.out).mono ?_; rintro e b6x ⟨v276, rfl, I, hb⟩; refine ⟨_, rfl, ?_⟩; have J := zK (Kd.S_elder' (zkS A) (Kd.S_base I) hb); have L := zK (Kd.R_below (zkR q) hb); have M := zK (Kd.R_below (zkR u) hb); have O := zK (Kd.S_lower (Kd.S_new' (Kd.S_new' (Kd.S_new' I (Kd.S_lt (zkS A))) (Kd.R_lt (zkR q))) (Kd.R_lt (zkR u))) (zz zB)); have X := z7 l hb; have b0 := z8 hb; revert J L M O X b0; clear A q u l HB; intro A q u E l HB) | ((with_reducible refine gd 7 rfl ?_); refine zJ 7 #[.int .i64 0, .slice none 0 0] 29 ?_; intro y0 hg b6y hbox hb; have J := zK (Kd.S_below (zkS A) hb); have L := zK (Kd.R_below (zkR q) hb); have M := zK (Kd.R_below (zkR u) hb); have O := zK (Kd.S_below (zkS E) hb); have X := z7 l hb; have b0 := z8 hb; have d0 := zK (hbox); have e0 := z9 hg; have m0 := z9 hg; have t0 := zHH hg l; have F0 := zGG hg l; revert J L M O X b0 d0 e0 m0 t0 F0; clear A q u E l HB; intro A q u E l HB y o3 V0 I0 J0; clear hb hbox hg; have b5b := J0.out; have b5c := I0.out; obtain ⟨a3m, a3n, a3o, a3p⟩ := zc2 y; obtain ⟨O4, R4, t8⟩ := Kd.S_slice E.out; subst t8) | ((with_reducible refine gc 20 rfl ?_); refine zF 30 Try.func20 #[.slice A1 l1.length c1] rfl zL ?_; refine (laws_toIntS.calls k _ _ l1 T _ (z4 n1.out zB) o1.out m5.out).mono ?_; rintro e b6z ⟨v280, rfl, I, hb⟩; refine ⟨_, rfl, ?_⟩; have J := zK (Kd.S_elder' (Kd.S_mono (zlS (Kd.S_types A.out y.out (by decide))) (fun _ h_ => h_.1)) (Kd.R_base I) hb); have L := zK (Kd.R_elder' (Kd.R_mono (zlR (Kd.R_types q.out y.out (by decide))) (fun _ h_ => h_.1)) (Kd.R_base I) hb); have M := zK (Kd.R_elder' (Kd.R_mono (zlR (Kd.R_types u.out y.out (by decide))) (fun _ h_ => h_.1)) (Kd.R_base I) hb); have O := zK (Kd.S_elder' (Kd.S_mono (zlS (Kd.S_types E.out y.out (by decide))) (fun _ h_ => h_.1)) (Kd.R_base I) hb); have X := zK (Kd.R_lower (Kd.R_new' (Kd.R_new' I (Kd.R_lt (Kd.R_mono (zlR (Kd.R_types q.out y.out (by decide))) (fun _ h_ => h_.1)))) (Kd.R_lt (Kd.R_mono (zlR (Kd.R_types u.out y.out (by decide))) (fun _ h_ => h_.1)))) (zz zB)); have b0 := zK (zg (zV l) hb); have d0 := zK (zg (g := y0) (o := .cells #[.int .i64 n0, .slice O4 j0.length R4] 29 (0, 0)) (zW y) hb); have e0 := z8 hb; revert J L M O X b0 d0 e0; clear A q u E l y HB; intro A q u E z l y HB; obtain ⟨a3q, a3s, a3t, a3u⟩ := zc2 y; obtain ⟨E3, F3, x8⟩ := Kd.R_slice z.out; subst x8) | ((with_reducible refine gc 21 rfl ?_); refine zF 33 Try.func21 #[.agg #[.int .i64 n0, .slice O4 j0.length R4], .slice E3 T.length F3] rfl zL ?_; refine (impl_Weights.calls k n0 _ _ j0 _ _ T U _ (zC (Kd.S_reads' E.out).2.2) ((Kd.S_reads' E.out).2.1) (zC (Kd.R_reads' z.out).2.2) ((Kd.R_reads' z.out).2.1) n5.out).mono ?_; rintro e b3 ⟨v283, rfl, I, hb⟩; refine ⟨_, rfl, ?_⟩; have J := zK (Kd.S_elder' (zkS A) (Kd.R_base I) hb); have L := zK (Kd.R_elder' (zkR q) (Kd.R_base I) hb); have M := zK (Kd.R_elder' (zkR u) (Kd.R_base I) hb); have O := zK (Kd.S_elder' (zkS E) (Kd.R_base I) hb); have X := zK (Kd.R_elder' (zkR z) (Kd.R_base I) hb); have b0 := zK (Kd.R_lower (Kd.R_new' (Kd.R_new' (Kd.R_new' I (Kd.R_lt (zkR q))) (Kd.R_lt (zkR u))) (Kd.R_lt (zkR z))) (zz zB)); have d0 := z7 l hb; have e0 := z7 y hb; have m0 := z8 hb; revert J L M O X b0 d0 e0 m0; clear A q u E z l y HB; intro A q u E z B l y HB; obtain ⟨S4, T4, y8⟩ := Kd.R_slice B.out; subst y8; obtain ⟨U4, V4, A8⟩ := Kd.R_slice u.out; subst A8) | ((with_reducible refine gc 22 rfl ?_); refine zF 36 Try.func22 #[.slice S4 U.length T4, .slice U4 c0.length V4] rfl zL ?_; refine (laws_eqIntS.calls k _ _ U _ _ c0 true _ (zC (Kd.R_reads' B.out).2.2) ((Kd.R_reads' B.out).2.1) (zC (Kd.R_reads' u.out).2.2) ((Kd.R_reads' u.out).2.1) o5.out).mono ?_; rintro e w' ⟨rfl, ⟨nd, rfl⟩⟩; refine ⟨_, rfl, ?_⟩))
   (try (rw [drewN_self b3]; generalize hq_ : World.drewN b3 _ = b3; have J : Aside0 (Kd.S k57 57 b3 w.heap.size (fun k_ => (((((True ∧ some k_ ≠ (.slice M4 f0.length N4 : Value).ownBlock) ∧ some k_ ≠ (.slice U4 c0.length V4 : Value).ownBlock) ∧ some k_ ≠ (.slice O4 j0.length R4 : Value).ownBlock) ∧ some k_ ≠ (.slice E3 T.length F3 : Value).ownBlock) ∧ some k_ ≠ (.slice S4 U.length T4 : Value).ownBlock)) (.slice n6 x0.length o6) x0) := ⟨by rw [← hq_]; exact zkS A⟩; have L : Aside0 (Kd.R (Kd.int .i64) 3 b3 w.heap.size (fun k_ => (((True ∧ some k_ ≠ (.slice U4 c0.length V4 : Value).ownBlock) ∧ some k_ ≠ (.slice E3 T.length F3 : Value).ownBlock) ∧ some k_ ≠ (.slice S4 U.length T4 : Value).ownBlock)) (.slice M4 f0.length N4) f0) := ⟨by rw [← hq_]; exact zkR q⟩; have M : Aside0 (Kd.R (Kd.int .i64) 3 b3 w.heap.size (fun k_ => (((True ∧ some k_ ≠ (.slice M4 f0.length N4 : Value).ownBlock) ∧ some k_ ≠ (.slice E3 T.length F3 : Value).ownBlock) ∧ some k_ ≠ (.slice S4 U.length T4 : Value).ownBlock)) (.slice U4 c0.length V4) c0) := ⟨by rw [← hq_]; exact zkR u⟩; have O : Aside0 (Kd.S k57 57 b3 w.heap.size (fun k_ => (((((True ∧ some k_ ≠ (.slice n6 x0.length o6 : Value).ownBlock) ∧ some k_ ≠ (.slice M4 f0.length N4 : Value).ownBlock) ∧ some k_ ≠ (.slice U4 c0.length V4 : Value).ownBlock) ∧ some k_ ≠ (.slice E3 T.length F3 : Value).ownBlock) ∧ some k_ ≠ (.slice S4 U.length T4 : Value).ownBlock)) (.slice O4 j0.length R4) j0) := ⟨by rw [← hq_]; exact zkS E⟩; have X : Aside0 (Kd.R (Kd.int .i64) 3 b3 w.heap.size (fun k_ => (((True ∧ some k_ ≠ (.slice M4 f0.length N4 : Value).ownBlock) ∧ some k_ ≠ (.slice U4 c0.length V4 : Value).ownBlock) ∧ some k_ ≠ (.slice S4 U.length T4 : Value).ownBlock)) (.slice E3 T.length F3) T) := ⟨by rw [← hq_]; exact zkR z⟩; have b0 : Aside0 (Kd.R (Kd.int .i64) 3 b3 w.heap.size (fun k_ => (((True ∧ some k_ ≠ (.slice M4 f0.length N4 : Value).ownBlock) ∧ some k_ ≠ (.slice U4 c0.length V4 : Value).ownBlock) ∧ some k_ ≠ (.slice E3 T.length F3 : Value).ownBlock)) (.slice S4 U.length T4) U) := ⟨by rw [← hq_]; exact zkR B⟩; have d0 : Aside0 (b3.heap[C0]? = some (.cells #[.int .i64 i0, .slice p0 g0.length q0] 24 (0, 0))) := ⟨by rw [← hq_]; exact (zM l)⟩; have e0 : Aside0 (b3.heap[y0]? = some (.cells #[.int .i64 n0, .slice O4 j0.length R4] 29 (0, 0))) := ⟨by rw [← hq_]; exact (zM y)⟩; have m0 : Aside0 (Below w.heap.size w b3) := ⟨by rw [← hq_]; exact zB⟩; clear A q u E z B l y HB hq_; revert J L M O X b0 d0 e0 m0; intro A q u E z B l y HB))
   have J := zK (Kd.S_drew A.out)
   have L := zK (Kd.R_drew q.out)
   have M := zK (Kd.R_drew u.out)
   have O := zK (Kd.S_drew E.out)
   have X := zK (Kd.R_drew z.out)
   have b0 := zK (Kd.R_drew B.out)
   have d0 := zK (zd l.out)
   have e0 := zK (zd y.out)
   have m0 := zK (ze HB.out)
   revert J L M O X b0 d0 e0 m0
   clear A q u E z B l y HB
   intro A q u E z B l y HB
   refine start_ (n := 5) (S := fun w' => w'.cell? ⟨y0, 0, none⟩ = some (.int .i64 n0) ∧ w'.cell? ⟨y0, 1, none⟩ = some (.slice O4 j0.length R4) ∧ w'.cell? ⟨C0, 0, none⟩ = some (.int .i64 i0) ∧ w'.cell? ⟨C0, 1, none⟩ = some (.slice p0 g0.length q0)) (ds := []) (bl 5 0) (by kernel_rfl) rfl (by kernel_rfl) ⟨zy y 0, zy y 1, zy l 0, zy l 1⟩ (fun hHeld => ?_)
   generalize b3.drew = b7a at A q u E z B l y HB hHeld ⊢
   refine take_ (i := 0) (N := some 38) (v := ?_) (a' := ?_) (bl 5 1) rfl rfl (by kernel_rfl) (fun _ _ _ h => h) (Or.inl ⟨by rfl, ?_⟩) hHeld ?_ ?_
   rotate_left
   · rintro w' ⟨s0, s1, s2, s3⟩
     go_simp
     with_reducible rfl
   rotate_left
   · simp only [Act.put, zq1, zq2, zq3, i64_w, i32_w]
     rfl
   refine take_ (i := 1) (N := some 39) (v := ?_) (a' := ?_) (bl 5 3) rfl rfl (by kernel_rfl) (fun _ _ _ h => h) (Or.inl ⟨by rfl, ?_⟩) hHeld ?_ ?_
   rotate_left
   · rintro w' ⟨s0, s1, s2, s3⟩
     go_simp
     with_reducible rfl
   rotate_left
   · simp only [Act.put, zq1, zq2, zq3, i64_w, i32_w]
     rfl
   refine one_ (i := 2) (N := some 40) (bl 5 7) rfl rfl (by kernel_rfl) (by decide) (fun K hK => ?_)
   refine goes_ Try.func9 (by kernel_rfl) rfl #[.agg #[.int .i64 i0, .slice p0 g0.length q0]] (by rfl) rfl rfl zL ?_
   refine (laws_toLm.calls k i0 _ _ g0 R0 L0 _ (zS A0) B0.out p5.out).mono ?_
   rintro e b7b ⟨v288, rfl, I, hb⟩
   refine ⟨_, rfl, ?_⟩
   have J := zK (Kd.S_elder' (zkS A) (Kd.S_base I) hb)
   have L := zK (Kd.R_below (zkR q) hb)
   have M := zK (Kd.R_below (zkR u) hb)
   have O := zK (Kd.S_elder' (zkS E) (Kd.S_base I) hb)
   have X := zK (Kd.R_below (zkR z) hb)
   have b0 := zK (Kd.R_below (zkR B) hb)
   have d0 := zK (Kd.S_lower (Kd.S_new' (Kd.S_new' (Kd.S_new' (Kd.S_new' (Kd.S_new' (Kd.S_new' I (Kd.S_lt (zkS A))) (Kd.R_lt (zkR q))) (Kd.R_lt (zkR u))) (Kd.S_lt (zkS E))) (Kd.R_lt (zkR z))) (Kd.R_lt (zkR B))) (zz zB))
   have e0 := z7 l hb
   have m0 := z7 y hb
   have t0 := z8 hb
   revert J L M O X b0 d0 e0 m0 t0
   clear A q u E z B l y HB
   intro A q u E z B l0 l y HB
   (try clear hb)
   (try clear hb2)
   (try clear hk)
   (try clear hi)
   (try clear I)
   obtain ⟨B8, C8, F6⟩ := Kd.S_slice l0.out
   (first | subst F6 | (injection F6 with f1_ f2_ f3_; have f4_ := f1_.symm; have f5_ := f3_.symm; clear f1_ f2_ f3_; subst f4_; subst f5_))
   refine hK.out _ _ ⟨zy y 0, zy y 1, zy l 0, zy l 1⟩ (fun hHeld => ?_)
   clear hK K
   refine zU 40 ?_
   refine one_ (i := 3) (N := some 41) (bl 5 15) rfl rfl (by kernel_rfl) (by decide) (fun K hK => ?_)
   refine goes_ Try.func11 (by kernel_rfl) rfl #[.agg #[.int .i64 n0, .slice O4 j0.length R4], .agg #[.int .i64 R0, .slice B8 L0.length C8]] (by rfl) rfl rfl zL ?_
   refine (laws_eqLm.calls k n0 _ _ j0 R0 _ _ L0 true _ (zC (Kd.S_reads' E.out).2.2) ((Kd.S_reads' E.out).2.1) (zC (Kd.S_reads' l0.out).2.2) ((Kd.S_reads' l0.out).2.1) q5.out).mono ?_
   rintro e b7c ⟨rfl, hb⟩
   refine ⟨_, rfl, ?_⟩
   have J := zK (Kd.S_below (zkS A) hb)
   have L := zK (Kd.R_below (zkR q) hb)
   have M := zK (Kd.R_below (zkR u) hb)
   have O := zK (Kd.S_below (zkS E) hb)
   have X := zK (Kd.R_below (zkR z) hb)
   have b0 := zK (Kd.R_below (zkR B) hb)
   have d0 := zK (Kd.S_below (zkS l0) hb)
   have e0 := z7 l hb
   have m0 := z7 y hb
   have t0 := z8 hb
   revert J L M O X b0 d0 e0 m0 t0
   clear A q u E z B l0 l y HB
   intro A q u E z B l0 l y HB
   (try clear hb)
   (try clear hb2)
   (try clear hk)
   (try clear hi)
   refine hK.out _ _ ⟨zy y 0, zy y 1, zy l 0, zy l 1⟩ (fun hHeld => ?_)
   clear hK K
   refine zU 41 ?_
   refine pure_ (i := 4) (N := some 42) (v := ?_) (a' := ?_) (bl 5 31) rfl rfl (by kernel_rfl) (fun _ _ _ h => h) (Or.inl ⟨by rfl, ?_⟩) ?_ ?_
   rotate_left
   · intro w'
     go_simp
     with_reducible rfl
   rotate_left
   · simp only [Act.put, zq1, zq2, zq3, i64_w, i32_w]
     rfl
   refine done_ (by kernel_rfl) ?_
   try go_wp2_with (first | ((with_reducible refine gc 20 rfl ?_); refine zF 45 Try.func20 #[.slice A1 l1.length c1] rfl zL ?_; refine (laws_toIntS.calls k _ _ l1 o0 _ (zS n1) o1.out x5.out).mono ?_; rintro e b7d ⟨v292, rfl, I, hb⟩; refine ⟨_, rfl, ?_⟩; have J := zK (Kd.S_elder' (zkS A) (Kd.R_base I) hb); have L := zK (Kd.R_elder' (zkR q) (Kd.R_base I) hb); have M := zK (Kd.R_elder' (zkR u) (Kd.R_base I) hb); have O := zK (Kd.S_elder' (zkS E) (Kd.R_base I) hb); have X := zK (Kd.R_elder' (zkR z) (Kd.R_base I) hb); have b0 := zK (Kd.R_elder' (zkR B) (Kd.R_base I) hb); have d0 := zK (Kd.S_elder' (zkS l0) (Kd.R_base I) hb); have e0 := zK (Kd.R_lower (Kd.R_new' (Kd.R_new' (Kd.R_new' (Kd.R_new' I (Kd.R_lt (zkR q))) (Kd.R_lt (zkR u))) (Kd.R_lt (zkR z))) (Kd.R_lt (zkR B))) (zz zB)); have m0 := z7 l hb; have t0 := z7 y hb; have F0 := z8 hb; revert J L M O X b0 d0 e0 m0 t0 F0; clear A q u E z B l0 l y HB; intro A q u E z B l0 a0 l y HB; obtain ⟨D8, E8, F8⟩ := Kd.R_slice a0.out; subst F8) | ((with_reducible refine gc 22 rfl ?_); refine zF 46 Try.func22 #[.slice E3 T.length F3, .slice D8 o0.length E8] rfl zL ?_; refine (laws_eqIntS.calls k _ _ T _ _ o0 false _ (zC (Kd.R_reads' z.out).2.2) ((Kd.R_reads' z.out).2.1) (zC (Kd.R_reads' a0.out).2.2) ((Kd.R_reads' a0.out).2.1) y5.out).mono ?_; rintro e w' ⟨rfl, ⟨nd, rfl⟩⟩; refine ⟨_, rfl, ?_⟩))
   go_ret
   exact ⟨zE, zB⟩
 rotate_right
 subst E6
 rw [if_pos rfl] at H
 replace H := z6 H
 obtain ⟨N0, F7, H⟩ := H
 have E5 := zK F7
 clear F7
 replace H := z6 H
 obtain ⟨⟨l4, X4⟩, G7, H⟩ := H
 replace H : (if l4 < 0 then (some false) else ((laws_eqIntS.f k U c0).bind fun p3 => (if p3 = true then ((laws_markIntS.f k U 1).bind fun T0 => ((laws_heldIntS.f k T0.2 1).bind fun X0 => (if X0 < 0 then (some false) else (if X0 = T0.1 then ((laws_toLm.f k i0 g0).bind fun M1 => ((laws_toIntS.f k l1).bind fun a1 => ((impl_Weights.f k M1.1 M1.2 a1).bind fun b1 => ((laws_eqIntS.f k b1 c0).bind fun G2 => (if G2 = true then ((laws_heldIntS.f k T0.2 1).bind fun d1 => (if d1 < 0 then (some false) else (if d1 = T0.1 then (some true) else (some false)))) else (some false)))))) else (some false))))) else (some false)))) = some r := H
 have F5 := zK G7
 clear G7
 by_cases f6 : l4 < 0
 · as_aux_lemma =>
   rw [if_pos f6] at H
   have G8 := z1 f6
   clear f6
   obtain rfl := z5 H
   go_enter Try.func6, Try.ntmps6
   try go_wp2_with (first | ((with_reducible refine gd 2 rfl ?_); refine zJ 2 #[.int .i64 i0, .slice p0 g0.length q0] 24 ?_; intro C0 hg w27 hbox hb; have J := z8 hb; have L := zK (hbox); have M := z9 hg; have O := z9 hg; revert J L M O; clear HB; intro HB l n3 U0; clear hb hbox hg; obtain ⟨b2o, b2p, b2q, b2s⟩ := zc2 l) | ((with_reducible refine gc 7 rfl ?_); refine zF 19 Try.func7 #[.agg #[.int .i64 i0, .slice p0 g0.length q0], .int .i64 1048576] rfl zL ?_; refine (laws_szLm.calls k i0 _ _ g0 1048576 X2 _ (zS A0) B0.out A5.out).mono ?_; rintro e w29 ⟨rfl, hb⟩; refine ⟨_, rfl, ?_⟩; have J := z7 l hb; have L := z8 hb; revert J L; clear l HB; intro l HB; obtain ⟨b2t, b2u, b2x, b2y⟩ := zc2 l) | ((with_reducible refine gc 9 rfl ?_); refine zF 23 Try.func9 #[.agg #[.int .i64 i0, .slice p0 g0.length q0]] rfl zL ?_; refine (laws_toLm.calls k i0 _ _ g0 O0 x0 _ (zS A0) B0.out g5.out).mono ?_; rintro e w31 ⟨v266, rfl, I, hb⟩; refine ⟨_, rfl, ?_⟩; have J := zK (Kd.S_lower I (zz zB)); have L := z7 l hb; have M := z8 hb; revert J L M; clear l HB; intro A l HB) | ((with_reducible refine gc 20 rfl ?_); refine zF 25 Try.func20 #[.slice A1 l1.length c1] rfl zL ?_; refine (laws_toIntS.calls k _ _ l1 f0 _ (zS n1) o1.out i5.out).mono ?_; rintro e w32 ⟨v269, rfl, I, hb⟩; refine ⟨_, rfl, ?_⟩; have J := zK (Kd.S_elder' (zkS A) (Kd.R_base I) hb); have L := zK (Kd.R_lower I (zz zB)); have M := z7 l hb; have O := z8 hb; revert J L M O; clear A l HB; intro A q l HB; obtain ⟨p6, q6, a3x⟩ := Kd.S_slice A.out; subst a3x; obtain ⟨q3, t3, a3y⟩ := Kd.R_slice q.out; subst a3y) | ((with_reducible refine gc 19 rfl ?_); refine zF 26 Try.func19 #[.agg #[.int .i64 O0, .slice p6 x0.length q6], .slice q3 f0.length t3] rfl zL ?_; refine (spec_Weights.calls k O0 _ _ x0 _ _ f0 c0 _ (zC (Kd.S_reads' A.out).2.2) ((Kd.S_reads' A.out).2.1) (zC (Kd.R_reads' q.out).2.2) ((Kd.R_reads' q.out).2.1) j5.out).mono ?_; rintro e w35 ⟨v272, rfl, I, hb⟩; refine ⟨_, rfl, ?_⟩; have J := zK (Kd.S_elder' (zkS A) (Kd.R_base I) hb); have L := zK (Kd.R_elder' (zkR q) (Kd.R_base I) hb); have M := zK (Kd.R_lower (Kd.R_new' I (Kd.R_lt (zkR q))) (zz zB)); have O := z7 l hb; have X := z8 hb; revert J L M O X; clear A q l HB; intro A q u l HB; obtain ⟨b2z, b3a, b3b, b3c⟩ := zc2 l) | ((with_reducible refine gc 9 rfl ?_); refine zF 28 Try.func9 #[.agg #[.int .i64 i0, .slice p0 g0.length q0]] rfl zL ?_; refine (laws_toLm.calls k i0 _ _ g0 n0 j0 _ (zS A0) B0.out l5.out).mono ?_; rintro e w37 ⟨v276, rfl, I, hb⟩; refine ⟨_, rfl, ?_⟩; have J := zK (Kd.S_elder' (zkS A) (Kd.S_base I) hb); have L := zK (Kd.R_below (zkR q) hb); have M := zK (Kd.R_below (zkR u) hb); have O := zK (Kd.S_lower (Kd.S_new' (Kd.S_new' (Kd.S_new' I (Kd.S_lt (zkS A))) (Kd.R_lt (zkR q))) (Kd.R_lt (zkR u))) (zz zB)); have X := z7 l hb; have b0 := z8 hb; revert J L M O X b0; clear A q u l HB; intro A q u E l HB) | ((with_reducible refine gd 7 rfl ?_); refine zJ 7 #[.int .i64 0, .slice none 0 0] 29 ?_; intro y0 hg w38 hbox hb; have J := zK (Kd.S_below (zkS A) hb); have L := zK (Kd.R_below (zkR q) hb); have M := zK (Kd.R_below (zkR u) hb); have O := zK (Kd.S_below (zkS E) hb); have X := z7 l hb; have b0 := z8 hb; have d0 := zK (hbox); have e0 := z9 hg; have m0 := z9 hg; have t0 := zHH hg l; have F0 := zGG hg l; revert J L M O X b0 d0 e0 m0 t0 F0; clear A q u E l HB; intro A q u E l HB y o3 V0 I0 J0; clear hb hbox hg; have b5t := J0.out; have b5u := I0.out; obtain ⟨b3d, b3e, b3f, b3g⟩ := zc2 y; obtain ⟨a5, b5, a3z⟩ := Kd.S_slice E.out; subst a3z) | ((with_reducible refine gc 20 rfl ?_); refine zF 30 Try.func20 #[.slice A1 l1.length c1] rfl zL ?_; refine (laws_toIntS.calls k _ _ l1 T _ (z4 n1.out zB) o1.out m5.out).mono ?_; rintro e w42 ⟨v280, rfl, I, hb⟩; refine ⟨_, rfl, ?_⟩; have J := zK (Kd.S_elder' (Kd.S_mono (zlS (Kd.S_types A.out y.out (by decide))) (fun _ h_ => h_.1)) (Kd.R_base I) hb); have L := zK (Kd.R_elder' (Kd.R_mono (zlR (Kd.R_types q.out y.out (by decide))) (fun _ h_ => h_.1)) (Kd.R_base I) hb); have M := zK (Kd.R_elder' (Kd.R_mono (zlR (Kd.R_types u.out y.out (by decide))) (fun _ h_ => h_.1)) (Kd.R_base I) hb); have O := zK (Kd.S_elder' (Kd.S_mono (zlS (Kd.S_types E.out y.out (by decide))) (fun _ h_ => h_.1)) (Kd.R_base I) hb); have X := zK (Kd.R_lower (Kd.R_new' (Kd.R_new' I (Kd.R_lt (Kd.R_mono (zlR (Kd.R_types q.out y.out (by decide))) (fun _ h_ => h_.1)))) (Kd.R_lt (Kd.R_mono (zlR (Kd.R_types u.out y.out (by decide))) (fun _ h_ => h_.1)))) (zz zB)); have b0 := zK (zg (zV l) hb); have d0 := zK (zg (g := y0) (o := .cells #[.int .i64 n0, .slice a5 j0.length b5] 29 (0, 0)) (zW y) hb); have e0 := z8 hb; revert J L M O X b0 d0 e0; clear A q u E l y HB; intro A q u E z l y HB; obtain ⟨b3j, b3l, b3m, b3n⟩ := zc2 y; obtain ⟨E2, F2, a4a⟩ := Kd.R_slice z.out; subst a4a) | ((with_reducible refine gc 21 rfl ?_); refine zF 33 Try.func21 #[.agg #[.int .i64 n0, .slice a5 j0.length b5], .slice E2 T.length F2] rfl zL ?_; refine (impl_Weights.calls k n0 _ _ j0 _ _ T U _ (zC (Kd.S_reads' E.out).2.2) ((Kd.S_reads' E.out).2.1) (zC (Kd.R_reads' z.out).2.2) ((Kd.R_reads' z.out).2.1) n5.out).mono ?_; rintro e m4 ⟨v283, rfl, I, hb⟩; refine ⟨_, rfl, ?_⟩; have J := zK (Kd.S_elder' (zkS A) (Kd.R_base I) hb); have L := zK (Kd.R_elder' (zkR q) (Kd.R_base I) hb); have M := zK (Kd.R_elder' (zkR u) (Kd.R_base I) hb); have O := zK (Kd.S_elder' (zkS E) (Kd.R_base I) hb); have X := zK (Kd.R_elder' (zkR z) (Kd.R_base I) hb); have b0 := zK (Kd.R_lower (Kd.R_new' (Kd.R_new' (Kd.R_new' I (Kd.R_lt (zkR q))) (Kd.R_lt (zkR u))) (Kd.R_lt (zkR z))) (zz zB)); have d0 := z7 l hb; have e0 := z7 y hb; have m0 := z8 hb; revert J L M O X b0 d0 e0 m0; clear A q u E z l y HB; intro A q u E z B l y HB; obtain ⟨x3, y3, a4b⟩ := Kd.R_slice B.out; subst a4b; obtain ⟨A3, B3, a4c⟩ := Kd.R_slice u.out; subst a4c) | ((with_reducible refine gc 22 rfl ?_); refine zF 36 Try.func22 #[.slice x3 U.length y3, .slice A3 c0.length B3] rfl zL ?_; refine (laws_eqIntS.calls k _ _ U _ _ c0 true _ (zC (Kd.R_reads' B.out).2.2) ((Kd.R_reads' B.out).2.1) (zC (Kd.R_reads' u.out).2.2) ((Kd.R_reads' u.out).2.1) o5.out).mono ?_; rintro e w' ⟨rfl, ⟨nd, rfl⟩⟩; refine ⟨_, rfl, ?_⟩))
   (try (rw [drewN_self m4]; generalize hq_ : World.drewN m4 _ = m4; have J : Aside0 (Kd.S k57 57 m4 w.heap.size (fun k_ => (((((True ∧ some k_ ≠ (.slice q3 f0.length t3 : Value).ownBlock) ∧ some k_ ≠ (.slice A3 c0.length B3 : Value).ownBlock) ∧ some k_ ≠ (.slice a5 j0.length b5 : Value).ownBlock) ∧ some k_ ≠ (.slice E2 T.length F2 : Value).ownBlock) ∧ some k_ ≠ (.slice x3 U.length y3 : Value).ownBlock)) (.slice p6 x0.length q6) x0) := ⟨by rw [← hq_]; exact zkS A⟩; have L : Aside0 (Kd.R (Kd.int .i64) 3 m4 w.heap.size (fun k_ => (((True ∧ some k_ ≠ (.slice A3 c0.length B3 : Value).ownBlock) ∧ some k_ ≠ (.slice E2 T.length F2 : Value).ownBlock) ∧ some k_ ≠ (.slice x3 U.length y3 : Value).ownBlock)) (.slice q3 f0.length t3) f0) := ⟨by rw [← hq_]; exact zkR q⟩; have M : Aside0 (Kd.R (Kd.int .i64) 3 m4 w.heap.size (fun k_ => (((True ∧ some k_ ≠ (.slice q3 f0.length t3 : Value).ownBlock) ∧ some k_ ≠ (.slice E2 T.length F2 : Value).ownBlock) ∧ some k_ ≠ (.slice x3 U.length y3 : Value).ownBlock)) (.slice A3 c0.length B3) c0) := ⟨by rw [← hq_]; exact zkR u⟩; have O : Aside0 (Kd.S k57 57 m4 w.heap.size (fun k_ => (((((True ∧ some k_ ≠ (.slice p6 x0.length q6 : Value).ownBlock) ∧ some k_ ≠ (.slice q3 f0.length t3 : Value).ownBlock) ∧ some k_ ≠ (.slice A3 c0.length B3 : Value).ownBlock) ∧ some k_ ≠ (.slice E2 T.length F2 : Value).ownBlock) ∧ some k_ ≠ (.slice x3 U.length y3 : Value).ownBlock)) (.slice a5 j0.length b5) j0) := ⟨by rw [← hq_]; exact zkS E⟩; have X : Aside0 (Kd.R (Kd.int .i64) 3 m4 w.heap.size (fun k_ => (((True ∧ some k_ ≠ (.slice q3 f0.length t3 : Value).ownBlock) ∧ some k_ ≠ (.slice A3 c0.length B3 : Value).ownBlock) ∧ some k_ ≠ (.slice x3 U.length y3 : Value).ownBlock)) (.slice E2 T.length F2) T) := ⟨by rw [← hq_]; exact zkR z⟩; have b0 : Aside0 (Kd.R (Kd.int .i64) 3 m4 w.heap.size (fun k_ => (((True ∧ some k_ ≠ (.slice q3 f0.length t3 : Value).ownBlock) ∧ some k_ ≠ (.slice A3 c0.length B3 : Value).ownBlock) ∧ some k_ ≠ (.slice E2 T.length F2 : Value).ownBlock)) (.slice x3 U.length y3) U) := ⟨by rw [← hq_]; exact zkR B⟩; have d0 : Aside0 (m4.heap[C0]? = some (.cells #[.int .i64 i0, .slice p0 g0.length q0] 24 (0, 0))) := ⟨by rw [← hq_]; exact (zM l)⟩; have e0 : Aside0 (m4.heap[y0]? = some (.cells #[.int .i64 n0, .slice a5 j0.length b5] 29 (0, 0))) := ⟨by rw [← hq_]; exact (zM y)⟩; have m0 : Aside0 (Below w.heap.size w m4) := ⟨by rw [← hq_]; exact zB⟩; clear A q u E z B l y HB hq_; revert J L M O X b0 d0 e0 m0; intro A q u E z B l y HB))
   have J := zK (Kd.S_drew A.out)
   have L := zK (Kd.R_drew q.out)
   have M := zK (Kd.R_drew u.out)
   have O := zK (Kd.S_drew E.out)
   have X := zK (Kd.R_drew z.out)
   have b0 := zK (Kd.R_drew B.out)
   have d0 := zK (zd l.out)
   have e0 := zK (zd y.out)
   have m0 := zK (ze HB.out)
   revert J L M O X b0 d0 e0 m0
   clear A q u E z B l y HB
   intro A q u E z B l y HB
   refine start_ (n := 5) (S := fun w' => w'.cell? ⟨y0, 0, none⟩ = some (.int .i64 n0) ∧ w'.cell? ⟨y0, 1, none⟩ = some (.slice a5 j0.length b5) ∧ w'.cell? ⟨C0, 0, none⟩ = some (.int .i64 i0) ∧ w'.cell? ⟨C0, 1, none⟩ = some (.slice p0 g0.length q0)) (ds := []) (bl 5 0) (by kernel_rfl) rfl (by kernel_rfl) ⟨zy y 0, zy y 1, zy l 0, zy l 1⟩ (fun hHeld => ?_)
   generalize m4.drew = w48 at A q u E z B l y HB hHeld ⊢
   refine take_ (i := 0) (N := some 38) (v := ?_) (a' := ?_) (bl 5 1) rfl rfl (by kernel_rfl) (fun _ _ _ h => h) (Or.inl ⟨by rfl, ?_⟩) hHeld ?_ ?_
   rotate_left
   · rintro w' ⟨s0, s1, s2, s3⟩
     go_simp
     with_reducible rfl
   rotate_left
   · simp only [Act.put, zq1, zq2, zq3, i64_w, i32_w]
     rfl
   refine take_ (i := 1) (N := some 39) (v := ?_) (a' := ?_) (bl 5 3) rfl rfl (by kernel_rfl) (fun _ _ _ h => h) (Or.inl ⟨by rfl, ?_⟩) hHeld ?_ ?_
   rotate_left
   · rintro w' ⟨s0, s1, s2, s3⟩
     go_simp
     with_reducible rfl
   rotate_left
   · simp only [Act.put, zq1, zq2, zq3, i64_w, i32_w]
     rfl
   refine one_ (i := 2) (N := some 40) (bl 5 7) rfl rfl (by kernel_rfl) (by decide) (fun K hK => ?_)
   refine goes_ Try.func9 (by kernel_rfl) rfl #[.agg #[.int .i64 i0, .slice p0 g0.length q0]] (by rfl) rfl rfl zL ?_
   refine (laws_toLm.calls k i0 _ _ g0 R0 L0 _ (zS A0) B0.out p5.out).mono ?_
   rintro e w49 ⟨v288, rfl, I, hb⟩
   refine ⟨_, rfl, ?_⟩
   have J := zK (Kd.S_elder' (zkS A) (Kd.S_base I) hb)
   have L := zK (Kd.R_below (zkR q) hb)
   have M := zK (Kd.R_below (zkR u) hb)
   have O := zK (Kd.S_elder' (zkS E) (Kd.S_base I) hb)
   have X := zK (Kd.R_below (zkR z) hb)
   have b0 := zK (Kd.R_below (zkR B) hb)
   have d0 := zK (Kd.S_lower (Kd.S_new' (Kd.S_new' (Kd.S_new' (Kd.S_new' (Kd.S_new' (Kd.S_new' I (Kd.S_lt (zkS A))) (Kd.R_lt (zkR q))) (Kd.R_lt (zkR u))) (Kd.S_lt (zkS E))) (Kd.R_lt (zkR z))) (Kd.R_lt (zkR B))) (zz zB))
   have e0 := z7 l hb
   have m0 := z7 y hb
   have t0 := z8 hb
   revert J L M O X b0 d0 e0 m0 t0
   clear A q u E z B l y HB
   intro A q u E z B l0 l y HB
   (try clear hb)
   (try clear hb2)
   (try clear hk)
   (try clear hi)
   (try clear I)
   obtain ⟨I7, J7, L7⟩ := Kd.S_slice l0.out
   (first | subst L7 | (injection L7 with f1_ f2_ f3_; have f4_ := f1_.symm; have f5_ := f3_.symm; clear f1_ f2_ f3_; subst f4_; subst f5_))
   refine hK.out _ _ ⟨zy y 0, zy y 1, zy l 0, zy l 1⟩ (fun hHeld => ?_)
   clear hK K
   refine zU 40 ?_
   refine one_ (i := 3) (N := some 41) (bl 5 15) rfl rfl (by kernel_rfl) (by decide) (fun K hK => ?_)
   refine goes_ Try.func11 (by kernel_rfl) rfl #[.agg #[.int .i64 n0, .slice a5 j0.length b5], .agg #[.int .i64 R0, .slice I7 L0.length J7]] (by rfl) rfl rfl zL ?_
   refine (laws_eqLm.calls k n0 _ _ j0 R0 _ _ L0 true _ (zC (Kd.S_reads' E.out).2.2) ((Kd.S_reads' E.out).2.1) (zC (Kd.S_reads' l0.out).2.2) ((Kd.S_reads' l0.out).2.1) q5.out).mono ?_
   rintro e w51 ⟨rfl, hb⟩
   refine ⟨_, rfl, ?_⟩
   have J := zK (Kd.S_below (zkS A) hb)
   have L := zK (Kd.R_below (zkR q) hb)
   have M := zK (Kd.R_below (zkR u) hb)
   have O := zK (Kd.S_below (zkS E) hb)
   have X := zK (Kd.R_below (zkR z) hb)
   have b0 := zK (Kd.R_below (zkR B) hb)
   have d0 := zK (Kd.S_below (zkS l0) hb)
   have e0 := z7 l hb
   have m0 := z7 y hb
   have t0 := z8 hb
   revert J L M O X b0 d0 e0 m0 t0
   clear A q u E z B l0 l y HB
   intro A q u E z B l0 l y HB
   (try clear hb)
   (try clear hb2)
   (try clear hk)
   (try clear hi)
   refine hK.out _ _ ⟨zy y 0, zy y 1, zy l 0, zy l 1⟩ (fun hHeld => ?_)
   clear hK K
   refine zU 41 ?_
   refine pure_ (i := 4) (N := some 42) (v := ?_) (a' := ?_) (bl 5 31) rfl rfl (by kernel_rfl) (fun _ _ _ h => h) (Or.inl ⟨by rfl, ?_⟩) ?_ ?_
   rotate_left
   · intro w'
     go_simp
     with_reducible rfl
   rotate_left
   · simp only [Act.put, zq1, zq2, zq3, i64_w, i32_w]
     rfl
   refine done_ (by kernel_rfl) ?_
   try go_wp2_with (first | ((with_reducible refine gc 20 rfl ?_); refine zF 45 Try.func20 #[.slice A1 l1.length c1] rfl zL ?_; refine (laws_toIntS.calls k _ _ l1 o0 _ (zS n1) o1.out x5.out).mono ?_; rintro e w52 ⟨v292, rfl, I, hb⟩; refine ⟨_, rfl, ?_⟩; have J := zK (Kd.S_elder' (zkS A) (Kd.R_base I) hb); have L := zK (Kd.R_elder' (zkR q) (Kd.R_base I) hb); have M := zK (Kd.R_elder' (zkR u) (Kd.R_base I) hb); have O := zK (Kd.S_elder' (zkS E) (Kd.R_base I) hb); have X := zK (Kd.R_elder' (zkR z) (Kd.R_base I) hb); have b0 := zK (Kd.R_elder' (zkR B) (Kd.R_base I) hb); have d0 := zK (Kd.S_elder' (zkS l0) (Kd.R_base I) hb); have e0 := zK (Kd.R_lower (Kd.R_new' (Kd.R_new' (Kd.R_new' (Kd.R_new' I (Kd.R_lt (zkR q))) (Kd.R_lt (zkR u))) (Kd.R_lt (zkR z))) (Kd.R_lt (zkR B))) (zz zB)); have m0 := z7 l hb; have t0 := z7 y hb; have F0 := z8 hb; revert J L M O X b0 d0 e0 m0 t0 F0; clear A q u E z B l0 l y HB; intro A q u E z B l0 a0 l y HB; obtain ⟨X5, a6, a4d⟩ := Kd.R_slice a0.out; subst a4d) | ((with_reducible refine gc 22 rfl ?_); refine zF 46 Try.func22 #[.slice E2 T.length F2, .slice X5 o0.length a6] rfl zL ?_; refine (laws_eqIntS.calls k _ _ T _ _ o0 true _ (zC (Kd.R_reads' z.out).2.2) ((Kd.R_reads' z.out).2.1) (zC (Kd.R_reads' a0.out).2.2) ((Kd.R_reads' a0.out).2.1) y5.out).mono ?_; rintro e w' ⟨rfl, ⟨nd, rfl⟩⟩; refine ⟨_, rfl, ?_⟩; obtain ⟨b3o, b3p, b3q, b3s⟩ := zc2 y) | ((with_reducible refine gc 23 rfl ?_); refine zF 50 Try.func23 #[.agg #[.int .i64 n0, .slice a5 j0.length b5], .int .i64 1] rfl zL ?_; (with_reducible refine (Marks.markLm_E (fun k_ => (((((((True ∧ some k_ ≠ (.slice p6 x0.length q6 : Value).ownBlock) ∧ some k_ ≠ (.slice q3 f0.length t3 : Value).ownBlock) ∧ some k_ ≠ (.slice A3 c0.length B3 : Value).ownBlock) ∧ some k_ ≠ (.slice E2 T.length F2 : Value).ownBlock) ∧ some k_ ≠ (.slice x3 U.length y3 : Value).ownBlock) ∧ some k_ ≠ (.slice I7 L0.length J7 : Value).ownBlock) ∧ some k_ ≠ (.slice X5 o0.length a6 : Value).ownBlock)) n0 j0 1 N0 w.heap.size _ ?side1 ?side2).mono ?_); (case side1 => exact Kd.S_R (zkS E)); (case side2 => exact E5.out); rintro e w55 ⟨rfl, hb⟩; refine ⟨_, rfl, ?_⟩; have J := zK (Marks.Turned.block hb (zM l) (by decide)); have L := zK (Marks.Turned.R hb (zkR q) (fun k_ e_ o_ => (o_.1.1.1.1.1.2) e_)); have M := zK (Marks.Turned.R hb (zkR u) (fun k_ e_ o_ => (o_.1.1.1.1.2) e_)); have O := zK (Marks.Turned.block hb (zM y) (by decide)); have X := zK (Marks.Turned.R hb (zkR z) (fun k_ e_ o_ => (o_.1.1.1.2) e_)); have b0 := zK (Marks.Turned.R hb (zkR B) (fun k_ e_ o_ => (o_.1.1.2) e_)); have d0 := zK (Marks.Turned.R hb (zkR a0) (fun k_ e_ o_ => (o_.2) e_)); have e0 := zK (Marks.Turned.below hb zB); revert J L M O X b0 d0 e0; clear l q u y z B a0 HB A E l0; intro l q u y z B a0 HB) | ((with_reducible refine gc 24 rfl ?_); refine zF 53 Try.func24 #[.slice E2 T.length F2, .int .i64 N0] rfl zL ?_; (with_reducible refine (laws_markIntS.calls k (fun k_ => some k_ = (.slice E2 T.length F2 : Value).ownBlock) (.slice E2 T.length F2) T N0 l4 X4 w _ ?side1 ?side2 F5.out).mono ?_); (case side1 => repeat (first | (with_reducible first | exact HB.out | apply zb | apply zw | apply ze | refine zs ?_ U0.out | refine zs ?_ V0.out) | exact HB.out)); (case side2 => exact Kd.R_tight rfl z.out); rintro e w56 ⟨rfl, S0, hb, hkp⟩; refine ⟨_, rfl, ?_⟩; have J := zK (blk_kept (zM l) hkp (fun hs_ => (fun e_ => (Kd.R_ne z.out l.out (by decide)) e_) hs_)); have L := zK (Kd.R_mono (ok' := fun k_ => some k_ ≠ (.slice A3 c0.length B3 : Value).ownBlock ∧ some k_ ≠ (.slice E2 T.length F2 : Value).ownBlock ∧ some k_ ≠ (.slice x3 U.length y3 : Value).ownBlock ∧ some k_ ≠ (.slice X5 o0.length a6 : Value).ownBlock) (Kd.R_keptB (q.out) hkp (fun k_ hk_ hs_ => (hk_.1.1.2) hs_)) (fun k_ hk_ => ⟨hk_.1.1.1.1.2, hk_.1.1.1.2, hk_.1.1.2, hk_.1.2⟩)); have M := zK (Kd.R_mono (ok' := fun k_ => some k_ ≠ (.slice q3 f0.length t3 : Value).ownBlock ∧ some k_ ≠ (.slice E2 T.length F2 : Value).ownBlock ∧ some k_ ≠ (.slice x3 U.length y3 : Value).ownBlock ∧ some k_ ≠ (.slice X5 o0.length a6 : Value).ownBlock) (Kd.R_keptB (u.out) hkp (fun k_ hk_ hs_ => (hk_.1.1.2) hs_)) (fun k_ hk_ => ⟨hk_.1.1.1.1.2, hk_.1.1.1.2, hk_.1.1.2, hk_.1.2⟩)); have O := zK (blk_kept (zM y) hkp (fun hs_ => (fun e_ => (Kd.R_ne z.out y.out (by decide)) e_) hs_)); have X := zK (Kd.R_reok rfl S0 (fun k_ e_ => z.out.1 k_ e_)); have b0 := zK (Kd.R_mono (ok' := fun k_ => some k_ ≠ (.slice q3 f0.length t3 : Value).ownBlock ∧ some k_ ≠ (.slice A3 c0.length B3 : Value).ownBlock ∧ some k_ ≠ (.slice E2 T.length F2 : Value).ownBlock ∧ some k_ ≠ (.slice X5 o0.length a6 : Value).ownBlock) (Kd.R_keptB (B.out) hkp (fun k_ hk_ hs_ => (hk_.1.2) hs_)) (fun k_ hk_ => ⟨hk_.1.1.1.1.2, hk_.1.1.1.2, hk_.1.1.2, hk_.1.2⟩)); have d0 := zK (Kd.R_mono (ok' := fun k_ => some k_ ≠ (.slice q3 f0.length t3 : Value).ownBlock ∧ some k_ ≠ (.slice A3 c0.length B3 : Value).ownBlock ∧ some k_ ≠ (.slice E2 T.length F2 : Value).ownBlock ∧ some k_ ≠ (.slice x3 U.length y3 : Value).ownBlock) (Kd.R_keptB (a0.out) hkp (fun k_ hk_ hs_ => (hk_.1.2) hs_)) (fun k_ hk_ => ⟨hk_.1.1.1.1.2, hk_.1.1.1.2, hk_.1.1.2, hk_.1.2⟩)); have e0 := zK (hb); revert J L M O X b0 d0 e0; clear l q u y z B a0 HB; intro l q u y z B a0 HB; (try clear hkp); (try clear S0)))
   go_ret
   exact ⟨zE, zB⟩
 rw [if_neg f6] at H
 have G8 := z2 f6
 clear f6
 replace H := z6 H
 obtain ⟨p3, M7, H⟩ := H
 have b6 := zK M7
 clear M7
 by_cases G6 : p3 = true
 rotate_left
 · as_aux_lemma =>
   replace G6 := Bool.eq_false_iff.mpr G6
   subst G6
   rw [if_neg (show ¬ (false = true) by decide)] at H
   obtain rfl := z5 H
   go_enter Try.func6, Try.ntmps6
   try go_wp2_with (first | ((with_reducible refine gd 2 rfl ?_); refine zJ 2 #[.int .i64 i0, .slice p0 g0.length q0] 24 ?_; intro C0 hg b7e hbox hb; have J := z8 hb; have L := zK (hbox); have M := z9 hg; have O := z9 hg; revert J L M O; clear HB; intro HB l n3 U0; clear hb hbox hg; obtain ⟨a4e, a4f, a4g, a4j⟩ := zc2 l) | ((with_reducible refine gc 7 rfl ?_); refine zF 19 Try.func7 #[.agg #[.int .i64 i0, .slice p0 g0.length q0], .int .i64 1048576] rfl zL ?_; refine (laws_szLm.calls k i0 _ _ g0 1048576 X2 _ (zS A0) B0.out A5.out).mono ?_; rintro e b7f ⟨rfl, hb⟩; refine ⟨_, rfl, ?_⟩; have J := z7 l hb; have L := z8 hb; revert J L; clear l HB; intro l HB; obtain ⟨a4l, a4m, a4n, a4o⟩ := zc2 l) | ((with_reducible refine gc 9 rfl ?_); refine zF 23 Try.func9 #[.agg #[.int .i64 i0, .slice p0 g0.length q0]] rfl zL ?_; refine (laws_toLm.calls k i0 _ _ g0 O0 x0 _ (zS A0) B0.out g5.out).mono ?_; rintro e b7g ⟨v266, rfl, I, hb⟩; refine ⟨_, rfl, ?_⟩; have J := zK (Kd.S_lower I (zz zB)); have L := z7 l hb; have M := z8 hb; revert J L M; clear l HB; intro A l HB) | ((with_reducible refine gc 20 rfl ?_); refine zF 25 Try.func20 #[.slice A1 l1.length c1] rfl zL ?_; refine (laws_toIntS.calls k _ _ l1 f0 _ (zS n1) o1.out i5.out).mono ?_; rintro e b7j ⟨v269, rfl, I, hb⟩; refine ⟨_, rfl, ?_⟩; have J := zK (Kd.S_elder' (zkS A) (Kd.R_base I) hb); have L := zK (Kd.R_lower I (zz zB)); have M := z7 l hb; have O := z8 hb; revert J L M O; clear A l HB; intro A q l HB; obtain ⟨G5, I5, I8⟩ := Kd.S_slice A.out; subst I8; obtain ⟨I2, J2, J8⟩ := Kd.R_slice q.out; subst J8) | ((with_reducible refine gc 19 rfl ?_); refine zF 26 Try.func19 #[.agg #[.int .i64 O0, .slice G5 x0.length I5], .slice I2 f0.length J2] rfl zL ?_; refine (spec_Weights.calls k O0 _ _ x0 _ _ f0 c0 _ (zC (Kd.S_reads' A.out).2.2) ((Kd.S_reads' A.out).2.1) (zC (Kd.R_reads' q.out).2.2) ((Kd.R_reads' q.out).2.1) j5.out).mono ?_; rintro e b7l ⟨v272, rfl, I, hb⟩; refine ⟨_, rfl, ?_⟩; have J := zK (Kd.S_elder' (zkS A) (Kd.R_base I) hb); have L := zK (Kd.R_elder' (zkR q) (Kd.R_base I) hb); have M := zK (Kd.R_lower (Kd.R_new' I (Kd.R_lt (zkR q))) (zz zB)); have O := z7 l hb; have X := z8 hb; revert J L M O X; clear A q l HB; intro A q u l HB; obtain ⟨a4p, a4q, a4s, a4t⟩ := zc2 l) | ((with_reducible refine gc 9 rfl ?_); refine zF 28 Try.func9 #[.agg #[.int .i64 i0, .slice p0 g0.length q0]] rfl zL ?_; refine (laws_toLm.calls k i0 _ _ g0 n0 j0 _ (zS A0) B0.out l5.out).mono ?_; rintro e b7m ⟨v276, rfl, I, hb⟩; refine ⟨_, rfl, ?_⟩; have J := zK (Kd.S_elder' (zkS A) (Kd.S_base I) hb); have L := zK (Kd.R_below (zkR q) hb); have M := zK (Kd.R_below (zkR u) hb); have O := zK (Kd.S_lower (Kd.S_new' (Kd.S_new' (Kd.S_new' I (Kd.S_lt (zkS A))) (Kd.R_lt (zkR q))) (Kd.R_lt (zkR u))) (zz zB)); have X := z7 l hb; have b0 := z8 hb; revert J L M O X b0; clear A q u l HB; intro A q u E l HB) | ((with_reducible refine gd 7 rfl ?_); refine zJ 7 #[.int .i64 0, .slice none 0 0] 29 ?_; intro y0 hg b7n hbox hb; have J := zK (Kd.S_below (zkS A) hb); have L := zK (Kd.R_below (zkR q) hb); have M := zK (Kd.R_below (zkR u) hb); have O := zK (Kd.S_below (zkS E) hb); have X := z7 l hb; have b0 := z8 hb; have d0 := zK (hbox); have e0 := z9 hg; have m0 := z9 hg; have t0 := zHH hg l; have F0 := zGG hg l; revert J L M O X b0 d0 e0 m0 t0 F0; clear A q u E l HB; intro A q u E l HB y o3 V0 I0 J0; clear hb hbox hg; have b5d := J0.out; have b5e := I0.out; obtain ⟨a4u, a4x, a4y, a4z⟩ := zc2 y; obtain ⟨G3, I3, L8⟩ := Kd.S_slice E.out; subst L8) | ((with_reducible refine gc 20 rfl ?_); refine zF 30 Try.func20 #[.slice A1 l1.length c1] rfl zL ?_; refine (laws_toIntS.calls k _ _ l1 T _ (z4 n1.out zB) o1.out m5.out).mono ?_; rintro e b7o ⟨v280, rfl, I, hb⟩; refine ⟨_, rfl, ?_⟩; have J := zK (Kd.S_elder' (Kd.S_mono (zlS (Kd.S_types A.out y.out (by decide))) (fun _ h_ => h_.1)) (Kd.R_base I) hb); have L := zK (Kd.R_elder' (Kd.R_mono (zlR (Kd.R_types q.out y.out (by decide))) (fun _ h_ => h_.1)) (Kd.R_base I) hb); have M := zK (Kd.R_elder' (Kd.R_mono (zlR (Kd.R_types u.out y.out (by decide))) (fun _ h_ => h_.1)) (Kd.R_base I) hb); have O := zK (Kd.S_elder' (Kd.S_mono (zlS (Kd.S_types E.out y.out (by decide))) (fun _ h_ => h_.1)) (Kd.R_base I) hb); have X := zK (Kd.R_lower (Kd.R_new' (Kd.R_new' I (Kd.R_lt (Kd.R_mono (zlR (Kd.R_types q.out y.out (by decide))) (fun _ h_ => h_.1)))) (Kd.R_lt (Kd.R_mono (zlR (Kd.R_types u.out y.out (by decide))) (fun _ h_ => h_.1)))) (zz zB)); have b0 := zK (zg (zV l) hb); have d0 := zK (zg (g := y0) (o := .cells #[.int .i64 n0, .slice G3 j0.length I3] 29 (0, 0)) (zW y) hb); have e0 := z8 hb; revert J L M O X b0 d0 e0; clear A q u E l y HB; intro A q u E z l y HB; obtain ⟨a5a, a5b, a5c, a5d⟩ := zc2 y; obtain ⟨N1, O1, M8⟩ := Kd.R_slice z.out; subst M8) | ((with_reducible refine gc 21 rfl ?_); refine zF 33 Try.func21 #[.agg #[.int .i64 n0, .slice G3 j0.length I3], .slice N1 T.length O1] rfl zL ?_; refine (impl_Weights.calls k n0 _ _ j0 _ _ T U _ (zC (Kd.S_reads' E.out).2.2) ((Kd.S_reads' E.out).2.1) (zC (Kd.R_reads' z.out).2.2) ((Kd.R_reads' z.out).2.1) n5.out).mono ?_; rintro e d3 ⟨v283, rfl, I, hb⟩; refine ⟨_, rfl, ?_⟩; have J := zK (Kd.S_elder' (zkS A) (Kd.R_base I) hb); have L := zK (Kd.R_elder' (zkR q) (Kd.R_base I) hb); have M := zK (Kd.R_elder' (zkR u) (Kd.R_base I) hb); have O := zK (Kd.S_elder' (zkS E) (Kd.R_base I) hb); have X := zK (Kd.R_elder' (zkR z) (Kd.R_base I) hb); have b0 := zK (Kd.R_lower (Kd.R_new' (Kd.R_new' (Kd.R_new' I (Kd.R_lt (zkR q))) (Kd.R_lt (zkR u))) (Kd.R_lt (zkR z))) (zz zB)); have d0 := z7 l hb; have e0 := z7 y hb; have m0 := z8 hb; revert J L M O X b0 d0 e0 m0; clear A q u E z l y HB; intro A q u E z B l y HB; obtain ⟨L2, M2, N8⟩ := Kd.R_slice B.out; subst N8; obtain ⟨N2, O2, O8⟩ := Kd.R_slice u.out; subst O8) | ((with_reducible refine gc 22 rfl ?_); refine zF 36 Try.func22 #[.slice L2 U.length M2, .slice N2 c0.length O2] rfl zL ?_; refine (laws_eqIntS.calls k _ _ U _ _ c0 true _ (zC (Kd.R_reads' B.out).2.2) ((Kd.R_reads' B.out).2.1) (zC (Kd.R_reads' u.out).2.2) ((Kd.R_reads' u.out).2.1) o5.out).mono ?_; rintro e w' ⟨rfl, ⟨nd, rfl⟩⟩; refine ⟨_, rfl, ?_⟩))
   (try (rw [drewN_self d3]; generalize hq_ : World.drewN d3 _ = d3; have J : Aside0 (Kd.S k57 57 d3 w.heap.size (fun k_ => (((((True ∧ some k_ ≠ (.slice I2 f0.length J2 : Value).ownBlock) ∧ some k_ ≠ (.slice N2 c0.length O2 : Value).ownBlock) ∧ some k_ ≠ (.slice G3 j0.length I3 : Value).ownBlock) ∧ some k_ ≠ (.slice N1 T.length O1 : Value).ownBlock) ∧ some k_ ≠ (.slice L2 U.length M2 : Value).ownBlock)) (.slice G5 x0.length I5) x0) := ⟨by rw [← hq_]; exact zkS A⟩; have L : Aside0 (Kd.R (Kd.int .i64) 3 d3 w.heap.size (fun k_ => (((True ∧ some k_ ≠ (.slice N2 c0.length O2 : Value).ownBlock) ∧ some k_ ≠ (.slice N1 T.length O1 : Value).ownBlock) ∧ some k_ ≠ (.slice L2 U.length M2 : Value).ownBlock)) (.slice I2 f0.length J2) f0) := ⟨by rw [← hq_]; exact zkR q⟩; have M : Aside0 (Kd.R (Kd.int .i64) 3 d3 w.heap.size (fun k_ => (((True ∧ some k_ ≠ (.slice I2 f0.length J2 : Value).ownBlock) ∧ some k_ ≠ (.slice N1 T.length O1 : Value).ownBlock) ∧ some k_ ≠ (.slice L2 U.length M2 : Value).ownBlock)) (.slice N2 c0.length O2) c0) := ⟨by rw [← hq_]; exact zkR u⟩; have O : Aside0 (Kd.S k57 57 d3 w.heap.size (fun k_ => (((((True ∧ some k_ ≠ (.slice G5 x0.length I5 : Value).ownBlock) ∧ some k_ ≠ (.slice I2 f0.length J2 : Value).ownBlock) ∧ some k_ ≠ (.slice N2 c0.length O2 : Value).ownBlock) ∧ some k_ ≠ (.slice N1 T.length O1 : Value).ownBlock) ∧ some k_ ≠ (.slice L2 U.length M2 : Value).ownBlock)) (.slice G3 j0.length I3) j0) := ⟨by rw [← hq_]; exact zkS E⟩; have X : Aside0 (Kd.R (Kd.int .i64) 3 d3 w.heap.size (fun k_ => (((True ∧ some k_ ≠ (.slice I2 f0.length J2 : Value).ownBlock) ∧ some k_ ≠ (.slice N2 c0.length O2 : Value).ownBlock) ∧ some k_ ≠ (.slice L2 U.length M2 : Value).ownBlock)) (.slice N1 T.length O1) T) := ⟨by rw [← hq_]; exact zkR z⟩; have b0 : Aside0 (Kd.R (Kd.int .i64) 3 d3 w.heap.size (fun k_ => (((True ∧ some k_ ≠ (.slice I2 f0.length J2 : Value).ownBlock) ∧ some k_ ≠ (.slice N2 c0.length O2 : Value).ownBlock) ∧ some k_ ≠ (.slice N1 T.length O1 : Value).ownBlock)) (.slice L2 U.length M2) U) := ⟨by rw [← hq_]; exact zkR B⟩; have d0 : Aside0 (d3.heap[C0]? = some (.cells #[.int .i64 i0, .slice p0 g0.length q0] 24 (0, 0))) := ⟨by rw [← hq_]; exact (zM l)⟩; have e0 : Aside0 (d3.heap[y0]? = some (.cells #[.int .i64 n0, .slice G3 j0.length I3] 29 (0, 0))) := ⟨by rw [← hq_]; exact (zM y)⟩; have m0 : Aside0 (Below w.heap.size w d3) := ⟨by rw [← hq_]; exact zB⟩; clear A q u E z B l y HB hq_; revert J L M O X b0 d0 e0 m0; intro A q u E z B l y HB))
   have J := zK (Kd.S_drew A.out)
   have L := zK (Kd.R_drew q.out)
   have M := zK (Kd.R_drew u.out)
   have O := zK (Kd.S_drew E.out)
   have X := zK (Kd.R_drew z.out)
   have b0 := zK (Kd.R_drew B.out)
   have d0 := zK (zd l.out)
   have e0 := zK (zd y.out)
   have m0 := zK (ze HB.out)
   revert J L M O X b0 d0 e0 m0
   clear A q u E z B l y HB
   intro A q u E z B l y HB
   refine start_ (n := 5) (S := fun w' => w'.cell? ⟨y0, 0, none⟩ = some (.int .i64 n0) ∧ w'.cell? ⟨y0, 1, none⟩ = some (.slice G3 j0.length I3) ∧ w'.cell? ⟨C0, 0, none⟩ = some (.int .i64 i0) ∧ w'.cell? ⟨C0, 1, none⟩ = some (.slice p0 g0.length q0)) (ds := []) (bl 5 0) (by kernel_rfl) rfl (by kernel_rfl) ⟨zy y 0, zy y 1, zy l 0, zy l 1⟩ (fun hHeld => ?_)
   generalize d3.drew = b7p at A q u E z B l y HB hHeld ⊢
   refine take_ (i := 0) (N := some 38) (v := ?_) (a' := ?_) (bl 5 1) rfl rfl (by kernel_rfl) (fun _ _ _ h => h) (Or.inl ⟨by rfl, ?_⟩) hHeld ?_ ?_
   rotate_left
   · rintro w' ⟨s0, s1, s2, s3⟩
     go_simp
     with_reducible rfl
   rotate_left
   · simp only [Act.put, zq1, zq2, zq3, i64_w, i32_w]
     rfl
   refine take_ (i := 1) (N := some 39) (v := ?_) (a' := ?_) (bl 5 3) rfl rfl (by kernel_rfl) (fun _ _ _ h => h) (Or.inl ⟨by rfl, ?_⟩) hHeld ?_ ?_
   rotate_left
   · rintro w' ⟨s0, s1, s2, s3⟩
     go_simp
     with_reducible rfl
   rotate_left
   · simp only [Act.put, zq1, zq2, zq3, i64_w, i32_w]
     rfl
   refine one_ (i := 2) (N := some 40) (bl 5 7) rfl rfl (by kernel_rfl) (by decide) (fun K hK => ?_)
   refine goes_ Try.func9 (by kernel_rfl) rfl #[.agg #[.int .i64 i0, .slice p0 g0.length q0]] (by rfl) rfl rfl zL ?_
   refine (laws_toLm.calls k i0 _ _ g0 R0 L0 _ (zS A0) B0.out p5.out).mono ?_
   rintro e b7q ⟨v288, rfl, I, hb⟩
   refine ⟨_, rfl, ?_⟩
   have J := zK (Kd.S_elder' (zkS A) (Kd.S_base I) hb)
   have L := zK (Kd.R_below (zkR q) hb)
   have M := zK (Kd.R_below (zkR u) hb)
   have O := zK (Kd.S_elder' (zkS E) (Kd.S_base I) hb)
   have X := zK (Kd.R_below (zkR z) hb)
   have b0 := zK (Kd.R_below (zkR B) hb)
   have d0 := zK (Kd.S_lower (Kd.S_new' (Kd.S_new' (Kd.S_new' (Kd.S_new' (Kd.S_new' (Kd.S_new' I (Kd.S_lt (zkS A))) (Kd.R_lt (zkR q))) (Kd.R_lt (zkR u))) (Kd.S_lt (zkS E))) (Kd.R_lt (zkR z))) (Kd.R_lt (zkR B))) (zz zB))
   have e0 := z7 l hb
   have m0 := z7 y hb
   have t0 := z8 hb
   revert J L M O X b0 d0 e0 m0 t0
   clear A q u E z B l y HB
   intro A q u E z B l0 l y HB
   (try clear hb)
   (try clear hb2)
   (try clear hk)
   (try clear hi)
   (try clear I)
   obtain ⟨I6, J6, L6⟩ := Kd.S_slice l0.out
   (first | subst L6 | (injection L6 with f1_ f2_ f3_; have f4_ := f1_.symm; have f5_ := f3_.symm; clear f1_ f2_ f3_; subst f4_; subst f5_))
   refine hK.out _ _ ⟨zy y 0, zy y 1, zy l 0, zy l 1⟩ (fun hHeld => ?_)
   clear hK K
   refine zU 40 ?_
   refine one_ (i := 3) (N := some 41) (bl 5 15) rfl rfl (by kernel_rfl) (by decide) (fun K hK => ?_)
   refine goes_ Try.func11 (by kernel_rfl) rfl #[.agg #[.int .i64 n0, .slice G3 j0.length I3], .agg #[.int .i64 R0, .slice I6 L0.length J6]] (by rfl) rfl rfl zL ?_
   refine (laws_eqLm.calls k n0 _ _ j0 R0 _ _ L0 true _ (zC (Kd.S_reads' E.out).2.2) ((Kd.S_reads' E.out).2.1) (zC (Kd.S_reads' l0.out).2.2) ((Kd.S_reads' l0.out).2.1) q5.out).mono ?_
   rintro e b7s ⟨rfl, hb⟩
   refine ⟨_, rfl, ?_⟩
   have J := zK (Kd.S_below (zkS A) hb)
   have L := zK (Kd.R_below (zkR q) hb)
   have M := zK (Kd.R_below (zkR u) hb)
   have O := zK (Kd.S_below (zkS E) hb)
   have X := zK (Kd.R_below (zkR z) hb)
   have b0 := zK (Kd.R_below (zkR B) hb)
   have d0 := zK (Kd.S_below (zkS l0) hb)
   have e0 := z7 l hb
   have m0 := z7 y hb
   have t0 := z8 hb
   revert J L M O X b0 d0 e0 m0 t0
   clear A q u E z B l0 l y HB
   intro A q u E z B l0 l y HB
   (try clear hb)
   (try clear hb2)
   (try clear hk)
   (try clear hi)
   refine hK.out _ _ ⟨zy y 0, zy y 1, zy l 0, zy l 1⟩ (fun hHeld => ?_)
   clear hK K
   refine zU 41 ?_
   refine pure_ (i := 4) (N := some 42) (v := ?_) (a' := ?_) (bl 5 31) rfl rfl (by kernel_rfl) (fun _ _ _ h => h) (Or.inl ⟨by rfl, ?_⟩) ?_ ?_
   rotate_left
   · intro w'
     go_simp
     with_reducible rfl
   rotate_left
   · simp only [Act.put, zq1, zq2, zq3, i64_w, i32_w]
     rfl
   refine done_ (by kernel_rfl) ?_
   try go_wp2_with (first | ((with_reducible refine gc 20 rfl ?_); refine zF 45 Try.func20 #[.slice A1 l1.length c1] rfl zL ?_; refine (laws_toIntS.calls k _ _ l1 o0 _ (zS n1) o1.out x5.out).mono ?_; rintro e b7t ⟨v292, rfl, I, hb⟩; refine ⟨_, rfl, ?_⟩; have J := zK (Kd.S_elder' (zkS A) (Kd.R_base I) hb); have L := zK (Kd.R_elder' (zkR q) (Kd.R_base I) hb); have M := zK (Kd.R_elder' (zkR u) (Kd.R_base I) hb); have O := zK (Kd.S_elder' (zkS E) (Kd.R_base I) hb); have X := zK (Kd.R_elder' (zkR z) (Kd.R_base I) hb); have b0 := zK (Kd.R_elder' (zkR B) (Kd.R_base I) hb); have d0 := zK (Kd.S_elder' (zkS l0) (Kd.R_base I) hb); have e0 := zK (Kd.R_lower (Kd.R_new' (Kd.R_new' (Kd.R_new' (Kd.R_new' I (Kd.R_lt (zkR q))) (Kd.R_lt (zkR u))) (Kd.R_lt (zkR z))) (Kd.R_lt (zkR B))) (zz zB)); have m0 := z7 l hb; have t0 := z7 y hb; have F0 := z8 hb; revert J L M O X b0 d0 e0 m0 t0 F0; clear A q u E z B l0 l y HB; intro A q u E z B l0 a0 l y HB; obtain ⟨B5, C5, R8⟩ := Kd.R_slice a0.out; subst R8) | ((with_reducible refine gc 22 rfl ?_); refine zF 46 Try.func22 #[.slice N1 T.length O1, .slice B5 o0.length C5] rfl zL ?_; refine (laws_eqIntS.calls k _ _ T _ _ o0 true _ (zC (Kd.R_reads' z.out).2.2) ((Kd.R_reads' z.out).2.1) (zC (Kd.R_reads' a0.out).2.2) ((Kd.R_reads' a0.out).2.1) y5.out).mono ?_; rintro e w' ⟨rfl, ⟨nd, rfl⟩⟩; refine ⟨_, rfl, ?_⟩; obtain ⟨a5e, a5f, a5g, a5j⟩ := zc2 y) | ((with_reducible refine gc 23 rfl ?_); refine zF 50 Try.func23 #[.agg #[.int .i64 n0, .slice G3 j0.length I3], .int .i64 1] rfl zL ?_; (with_reducible refine (Marks.markLm_E (fun k_ => (((((((True ∧ some k_ ≠ (.slice G5 x0.length I5 : Value).ownBlock) ∧ some k_ ≠ (.slice I2 f0.length J2 : Value).ownBlock) ∧ some k_ ≠ (.slice N2 c0.length O2 : Value).ownBlock) ∧ some k_ ≠ (.slice N1 T.length O1 : Value).ownBlock) ∧ some k_ ≠ (.slice L2 U.length M2 : Value).ownBlock) ∧ some k_ ≠ (.slice I6 L0.length J6 : Value).ownBlock) ∧ some k_ ≠ (.slice B5 o0.length C5 : Value).ownBlock)) n0 j0 1 N0 w.heap.size _ ?side1 ?side2).mono ?_); (case side1 => exact Kd.S_R (zkS E)); (case side2 => exact E5.out); rintro e b7u ⟨rfl, hb⟩; refine ⟨_, rfl, ?_⟩; have J := zK (Marks.Turned.block hb (zM l) (by decide)); have L := zK (Marks.Turned.R hb (zkR q) (fun k_ e_ o_ => (o_.1.1.1.1.1.2) e_)); have M := zK (Marks.Turned.R hb (zkR u) (fun k_ e_ o_ => (o_.1.1.1.1.2) e_)); have O := zK (Marks.Turned.block hb (zM y) (by decide)); have X := zK (Marks.Turned.R hb (zkR z) (fun k_ e_ o_ => (o_.1.1.1.2) e_)); have b0 := zK (Marks.Turned.R hb (zkR B) (fun k_ e_ o_ => (o_.1.1.2) e_)); have d0 := zK (Marks.Turned.R hb (zkR a0) (fun k_ e_ o_ => (o_.2) e_)); have e0 := zK (Marks.Turned.below hb zB); revert J L M O X b0 d0 e0; clear l q u y z B a0 HB A E l0; intro l q u y z B a0 HB) | ((with_reducible refine gc 24 rfl ?_); refine zF 53 Try.func24 #[.slice N1 T.length O1, .int .i64 N0] rfl zL ?_; (with_reducible refine (laws_markIntS.calls k (fun k_ => some k_ = (.slice N1 T.length O1 : Value).ownBlock) (.slice N1 T.length O1) T N0 l4 X4 w _ ?side1 ?side2 F5.out).mono ?_); (case side1 => repeat (first | (with_reducible first | exact HB.out | apply zb | apply zw | apply ze | refine zs ?_ U0.out | refine zs ?_ V0.out) | exact HB.out)); (case side2 => exact Kd.R_tight rfl z.out); rintro e b7x ⟨rfl, S0, hb, hkp⟩; refine ⟨_, rfl, ?_⟩; have J := zK (blk_kept (zM l) hkp (fun hs_ => (fun e_ => (Kd.R_ne z.out l.out (by decide)) e_) hs_)); have L := zK (Kd.R_mono (ok' := fun k_ => some k_ ≠ (.slice N2 c0.length O2 : Value).ownBlock ∧ some k_ ≠ (.slice N1 T.length O1 : Value).ownBlock ∧ some k_ ≠ (.slice L2 U.length M2 : Value).ownBlock ∧ some k_ ≠ (.slice B5 o0.length C5 : Value).ownBlock) (Kd.R_keptB (q.out) hkp (fun k_ hk_ hs_ => (hk_.1.1.2) hs_)) (fun k_ hk_ => ⟨hk_.1.1.1.1.2, hk_.1.1.1.2, hk_.1.1.2, hk_.1.2⟩)); have M := zK (Kd.R_mono (ok' := fun k_ => some k_ ≠ (.slice I2 f0.length J2 : Value).ownBlock ∧ some k_ ≠ (.slice N1 T.length O1 : Value).ownBlock ∧ some k_ ≠ (.slice L2 U.length M2 : Value).ownBlock ∧ some k_ ≠ (.slice B5 o0.length C5 : Value).ownBlock) (Kd.R_keptB (u.out) hkp (fun k_ hk_ hs_ => (hk_.1.1.2) hs_)) (fun k_ hk_ => ⟨hk_.1.1.1.1.2, hk_.1.1.1.2, hk_.1.1.2, hk_.1.2⟩)); have O := zK (blk_kept (zM y) hkp (fun hs_ => (fun e_ => (Kd.R_ne z.out y.out (by decide)) e_) hs_)); have X := zK (Kd.R_reok rfl S0 (fun k_ e_ => z.out.1 k_ e_)); have b0 := zK (Kd.R_mono (ok' := fun k_ => some k_ ≠ (.slice I2 f0.length J2 : Value).ownBlock ∧ some k_ ≠ (.slice N2 c0.length O2 : Value).ownBlock ∧ some k_ ≠ (.slice N1 T.length O1 : Value).ownBlock ∧ some k_ ≠ (.slice B5 o0.length C5 : Value).ownBlock) (Kd.R_keptB (B.out) hkp (fun k_ hk_ hs_ => (hk_.1.2) hs_)) (fun k_ hk_ => ⟨hk_.1.1.1.1.2, hk_.1.1.1.2, hk_.1.1.2, hk_.1.2⟩)); have d0 := zK (Kd.R_mono (ok' := fun k_ => some k_ ≠ (.slice I2 f0.length J2 : Value).ownBlock ∧ some k_ ≠ (.slice N2 c0.length O2 : Value).ownBlock ∧ some k_ ≠ (.slice N1 T.length O1 : Value).ownBlock ∧ some k_ ≠ (.slice L2 U.length M2 : Value).ownBlock) (Kd.R_keptB (a0.out) hkp (fun k_ hk_ hs_ => (hk_.1.2) hs_)) (fun k_ hk_ => ⟨hk_.1.1.1.1.2, hk_.1.1.1.2, hk_.1.1.2, hk_.1.2⟩)); have e0 := zK (hb); revert J L M O X b0 d0 e0; clear l q u y z B a0 HB; intro l q u y z B a0 HB; (try clear hkp); (try clear S0)) | (go_at_call 22; (with_reducible refine (laws_eqIntS.calls k _ _ U _ _ c0 false _ ?side1 ?side2 ?side3 ?side4 b6.out).mono ?_); (case side1 => exact zC (Kd.R_reads' B.out).2.2); (case side2 => exact (Kd.R_reads' B.out).2.1); (case side3 => exact zC (Kd.R_reads' u.out).2.2); (case side4 => exact (Kd.R_reads' u.out).2.1); rintro e w' ⟨rfl, ⟨nd, rfl⟩⟩))
   go_ret
   exact ⟨zE, zB⟩
 rotate_right
 subst G6
 rw [if_pos rfl] at H
 replace H := z6 H
 obtain ⟨⟨C3, G0⟩, N7, H⟩ := H
 replace H : ((laws_heldIntS.f k G0 1).bind fun X0 => (if X0 < 0 then (some false) else (if X0 = C3 then ((laws_toLm.f k i0 g0).bind fun M1 => ((laws_toIntS.f k l1).bind fun a1 => ((impl_Weights.f k M1.1 M1.2 a1).bind fun b1 => ((laws_eqIntS.f k b1 c0).bind fun G2 => (if G2 = true then ((laws_heldIntS.f k G0 1).bind fun d1 => (if d1 < 0 then (some false) else (if d1 = C3 then (some true) else (some false)))) else (some false)))))) else (some false)))) = some r := H
 have g6 := zK N7
 clear N7
 replace H := z6 H
 obtain ⟨X0, O7, H⟩ := H
 have i6 := zK O7
 clear O7
 by_cases j6 : X0 < 0
 · as_aux_lemma =>
   rw [if_pos j6] at H
   have S8 := z1 j6
   clear j6
   obtain rfl := z5 H
   go_enter Try.func6, Try.ntmps6
   try go_wp2_with (first | ((with_reducible refine gd 2 rfl ?_); refine zJ 2 #[.int .i64 i0, .slice p0 g0.length q0] 24 ?_; intro C0 hg w62 hbox hb; have J := z8 hb; have L := zK (hbox); have M := z9 hg; have O := z9 hg; revert J L M O; clear HB; intro HB l n3 U0; clear hb hbox hg; obtain ⟨b3t, b3u, b3x, b3y⟩ := zc2 l) | ((with_reducible refine gc 7 rfl ?_); refine zF 19 Try.func7 #[.agg #[.int .i64 i0, .slice p0 g0.length q0], .int .i64 1048576] rfl zL ?_; refine (laws_szLm.calls k i0 _ _ g0 1048576 X2 _ (zS A0) B0.out A5.out).mono ?_; rintro e w64 ⟨rfl, hb⟩; refine ⟨_, rfl, ?_⟩; have J := z7 l hb; have L := z8 hb; revert J L; clear l HB; intro l HB; obtain ⟨b3z, b4a, b4b, b4c⟩ := zc2 l) | ((with_reducible refine gc 9 rfl ?_); refine zF 23 Try.func9 #[.agg #[.int .i64 i0, .slice p0 g0.length q0]] rfl zL ?_; refine (laws_toLm.calls k i0 _ _ g0 O0 x0 _ (zS A0) B0.out g5.out).mono ?_; rintro e w66 ⟨v266, rfl, I, hb⟩; refine ⟨_, rfl, ?_⟩; have J := zK (Kd.S_lower I (zz zB)); have L := z7 l hb; have M := z8 hb; revert J L M; clear l HB; intro A l HB) | ((with_reducible refine gc 20 rfl ?_); refine zF 25 Try.func20 #[.slice A1 l1.length c1] rfl zL ?_; refine (laws_toIntS.calls k _ _ l1 f0 _ (zS n1) o1.out i5.out).mono ?_; rintro e w67 ⟨v269, rfl, I, hb⟩; refine ⟨_, rfl, ?_⟩; have J := zK (Kd.S_elder' (zkS A) (Kd.R_base I) hb); have L := zK (Kd.R_lower I (zz zB)); have M := z7 l hb; have O := z8 hb; revert J L M O; clear A l HB; intro A q l HB; obtain ⟨s6, t6, a5l⟩ := Kd.S_slice A.out; subst a5l; obtain ⟨R2, T2, a5m⟩ := Kd.R_slice q.out; subst a5m) | ((with_reducible refine gc 19 rfl ?_); refine zF 26 Try.func19 #[.agg #[.int .i64 O0, .slice s6 x0.length t6], .slice R2 f0.length T2] rfl zL ?_; refine (spec_Weights.calls k O0 _ _ x0 _ _ f0 c0 _ (zC (Kd.S_reads' A.out).2.2) ((Kd.S_reads' A.out).2.1) (zC (Kd.R_reads' q.out).2.2) ((Kd.R_reads' q.out).2.1) j5.out).mono ?_; rintro e w70 ⟨v272, rfl, I, hb⟩; refine ⟨_, rfl, ?_⟩; have J := zK (Kd.S_elder' (zkS A) (Kd.R_base I) hb); have L := zK (Kd.R_elder' (zkR q) (Kd.R_base I) hb); have M := zK (Kd.R_lower (Kd.R_new' I (Kd.R_lt (zkR q))) (zz zB)); have O := z7 l hb; have X := z8 hb; revert J L M O X; clear A q l HB; intro A q u l HB; obtain ⟨b4d, b4e, b4f, b4g⟩ := zc2 l) | ((with_reducible refine gc 9 rfl ?_); refine zF 28 Try.func9 #[.agg #[.int .i64 i0, .slice p0 g0.length q0]] rfl zL ?_; refine (laws_toLm.calls k i0 _ _ g0 n0 j0 _ (zS A0) B0.out l5.out).mono ?_; rintro e w72 ⟨v276, rfl, I, hb⟩; refine ⟨_, rfl, ?_⟩; have J := zK (Kd.S_elder' (zkS A) (Kd.S_base I) hb); have L := zK (Kd.R_below (zkR q) hb); have M := zK (Kd.R_below (zkR u) hb); have O := zK (Kd.S_lower (Kd.S_new' (Kd.S_new' (Kd.S_new' I (Kd.S_lt (zkS A))) (Kd.R_lt (zkR q))) (Kd.R_lt (zkR u))) (zz zB)); have X := z7 l hb; have b0 := z8 hb; revert J L M O X b0; clear A q u l HB; intro A q u E l HB) | ((with_reducible refine gd 7 rfl ?_); refine zJ 7 #[.int .i64 0, .slice none 0 0] 29 ?_; intro y0 hg w73 hbox hb; have J := zK (Kd.S_below (zkS A) hb); have L := zK (Kd.R_below (zkR q) hb); have M := zK (Kd.R_below (zkR u) hb); have O := zK (Kd.S_below (zkS E) hb); have X := z7 l hb; have b0 := z8 hb; have d0 := zK (hbox); have e0 := z9 hg; have m0 := z9 hg; have t0 := zHH hg l; have F0 := zGG hg l; revert J L M O X b0 d0 e0 m0 t0 F0; clear A q u E l HB; intro A q u E l HB y o3 V0 I0 J0; clear hb hbox hg; have b5x := J0.out; have b5y := I0.out; obtain ⟨b4j, b4l, b4m, b4n⟩ := zc2 y; obtain ⟨c5, d5, a5n⟩ := Kd.S_slice E.out; subst a5n) | ((with_reducible refine gc 20 rfl ?_); refine zF 30 Try.func20 #[.slice A1 l1.length c1] rfl zL ?_; refine (laws_toIntS.calls k _ _ l1 T _ (z4 n1.out zB) o1.out m5.out).mono ?_; rintro e w77 ⟨v280, rfl, I, hb⟩; refine ⟨_, rfl, ?_⟩; have J := zK (Kd.S_elder' (Kd.S_mono (zlS (Kd.S_types A.out y.out (by decide))) (fun _ h_ => h_.1)) (Kd.R_base I) hb); have L := zK (Kd.R_elder' (Kd.R_mono (zlR (Kd.R_types q.out y.out (by decide))) (fun _ h_ => h_.1)) (Kd.R_base I) hb); have M := zK (Kd.R_elder' (Kd.R_mono (zlR (Kd.R_types u.out y.out (by decide))) (fun _ h_ => h_.1)) (Kd.R_base I) hb); have O := zK (Kd.S_elder' (Kd.S_mono (zlS (Kd.S_types E.out y.out (by decide))) (fun _ h_ => h_.1)) (Kd.R_base I) hb); have X := zK (Kd.R_lower (Kd.R_new' (Kd.R_new' I (Kd.R_lt (Kd.R_mono (zlR (Kd.R_types q.out y.out (by decide))) (fun _ h_ => h_.1)))) (Kd.R_lt (Kd.R_mono (zlR (Kd.R_types u.out y.out (by decide))) (fun _ h_ => h_.1)))) (zz zB)); have b0 := zK (zg (zV l) hb); have d0 := zK (zg (g := y0) (o := .cells #[.int .i64 n0, .slice c5 j0.length d5] 29 (0, 0)) (zW y) hb); have e0 := z8 hb; revert J L M O X b0 d0 e0; clear A q u E l y HB; intro A q u E z l y HB; obtain ⟨b4o, b4p, b4q, b4s⟩ := zc2 y; obtain ⟨R1, S1, a5o⟩ := Kd.R_slice z.out; subst a5o) | ((with_reducible refine gc 21 rfl ?_); refine zF 33 Try.func21 #[.agg #[.int .i64 n0, .slice c5 j0.length d5], .slice R1 T.length S1] rfl zL ?_; refine (impl_Weights.calls k n0 _ _ j0 _ _ T U _ (zC (Kd.S_reads' E.out).2.2) ((Kd.S_reads' E.out).2.1) (zC (Kd.R_reads' z.out).2.2) ((Kd.R_reads' z.out).2.1) n5.out).mono ?_; rintro e n4 ⟨v283, rfl, I, hb⟩; refine ⟨_, rfl, ?_⟩; have J := zK (Kd.S_elder' (zkS A) (Kd.R_base I) hb); have L := zK (Kd.R_elder' (zkR q) (Kd.R_base I) hb); have M := zK (Kd.R_elder' (zkR u) (Kd.R_base I) hb); have O := zK (Kd.S_elder' (zkS E) (Kd.R_base I) hb); have X := zK (Kd.R_elder' (zkR z) (Kd.R_base I) hb); have b0 := zK (Kd.R_lower (Kd.R_new' (Kd.R_new' (Kd.R_new' I (Kd.R_lt (zkR q))) (Kd.R_lt (zkR u))) (Kd.R_lt (zkR z))) (zz zB)); have d0 := z7 l hb; have e0 := z7 y hb; have m0 := z8 hb; revert J L M O X b0 d0 e0 m0; clear A q u E z l y HB; intro A q u E z B l y HB; obtain ⟨T1, U1, a5p⟩ := Kd.R_slice B.out; subst a5p; obtain ⟨U2, V2, a5q⟩ := Kd.R_slice u.out; subst a5q) | ((with_reducible refine gc 22 rfl ?_); refine zF 36 Try.func22 #[.slice T1 U.length U1, .slice U2 c0.length V2] rfl zL ?_; refine (laws_eqIntS.calls k _ _ U _ _ c0 true _ (zC (Kd.R_reads' B.out).2.2) ((Kd.R_reads' B.out).2.1) (zC (Kd.R_reads' u.out).2.2) ((Kd.R_reads' u.out).2.1) o5.out).mono ?_; rintro e w' ⟨rfl, ⟨nd, rfl⟩⟩; refine ⟨_, rfl, ?_⟩))
   (try (rw [drewN_self n4]; generalize hq_ : World.drewN n4 _ = n4; have J : Aside0 (Kd.S k57 57 n4 w.heap.size (fun k_ => (((((True ∧ some k_ ≠ (.slice R2 f0.length T2 : Value).ownBlock) ∧ some k_ ≠ (.slice U2 c0.length V2 : Value).ownBlock) ∧ some k_ ≠ (.slice c5 j0.length d5 : Value).ownBlock) ∧ some k_ ≠ (.slice R1 T.length S1 : Value).ownBlock) ∧ some k_ ≠ (.slice T1 U.length U1 : Value).ownBlock)) (.slice s6 x0.length t6) x0) := ⟨by rw [← hq_]; exact zkS A⟩; have L : Aside0 (Kd.R (Kd.int .i64) 3 n4 w.heap.size (fun k_ => (((True ∧ some k_ ≠ (.slice U2 c0.length V2 : Value).ownBlock) ∧ some k_ ≠ (.slice R1 T.length S1 : Value).ownBlock) ∧ some k_ ≠ (.slice T1 U.length U1 : Value).ownBlock)) (.slice R2 f0.length T2) f0) := ⟨by rw [← hq_]; exact zkR q⟩; have M : Aside0 (Kd.R (Kd.int .i64) 3 n4 w.heap.size (fun k_ => (((True ∧ some k_ ≠ (.slice R2 f0.length T2 : Value).ownBlock) ∧ some k_ ≠ (.slice R1 T.length S1 : Value).ownBlock) ∧ some k_ ≠ (.slice T1 U.length U1 : Value).ownBlock)) (.slice U2 c0.length V2) c0) := ⟨by rw [← hq_]; exact zkR u⟩; have O : Aside0 (Kd.S k57 57 n4 w.heap.size (fun k_ => (((((True ∧ some k_ ≠ (.slice s6 x0.length t6 : Value).ownBlock) ∧ some k_ ≠ (.slice R2 f0.length T2 : Value).ownBlock) ∧ some k_ ≠ (.slice U2 c0.length V2 : Value).ownBlock) ∧ some k_ ≠ (.slice R1 T.length S1 : Value).ownBlock) ∧ some k_ ≠ (.slice T1 U.length U1 : Value).ownBlock)) (.slice c5 j0.length d5) j0) := ⟨by rw [← hq_]; exact zkS E⟩; have X : Aside0 (Kd.R (Kd.int .i64) 3 n4 w.heap.size (fun k_ => (((True ∧ some k_ ≠ (.slice R2 f0.length T2 : Value).ownBlock) ∧ some k_ ≠ (.slice U2 c0.length V2 : Value).ownBlock) ∧ some k_ ≠ (.slice T1 U.length U1 : Value).ownBlock)) (.slice R1 T.length S1) T) := ⟨by rw [← hq_]; exact zkR z⟩; have b0 : Aside0 (Kd.R (Kd.int .i64) 3 n4 w.heap.size (fun k_ => (((True ∧ some k_ ≠ (.slice R2 f0.length T2 : Value).ownBlock) ∧ some k_ ≠ (.slice U2 c0.length V2 : Value).ownBlock) ∧ some k_ ≠ (.slice R1 T.length S1 : Value).ownBlock)) (.slice T1 U.length U1) U) := ⟨by rw [← hq_]; exact zkR B⟩; have d0 : Aside0 (n4.heap[C0]? = some (.cells #[.int .i64 i0, .slice p0 g0.length q0] 24 (0, 0))) := ⟨by rw [← hq_]; exact (zM l)⟩; have e0 : Aside0 (n4.heap[y0]? = some (.cells #[.int .i64 n0, .slice c5 j0.length d5] 29 (0, 0))) := ⟨by rw [← hq_]; exact (zM y)⟩; have m0 : Aside0 (Below w.heap.size w n4) := ⟨by rw [← hq_]; exact zB⟩; clear A q u E z B l y HB hq_; revert J L M O X b0 d0 e0 m0; intro A q u E z B l y HB))
   have J := zK (Kd.S_drew A.out)
   have L := zK (Kd.R_drew q.out)
   have M := zK (Kd.R_drew u.out)
   have O := zK (Kd.S_drew E.out)
   have X := zK (Kd.R_drew z.out)
   have b0 := zK (Kd.R_drew B.out)
   have d0 := zK (zd l.out)
   have e0 := zK (zd y.out)
   have m0 := zK (ze HB.out)
   revert J L M O X b0 d0 e0 m0
   clear A q u E z B l y HB
   intro A q u E z B l y HB
   refine start_ (n := 5) (S := fun w' => w'.cell? ⟨y0, 0, none⟩ = some (.int .i64 n0) ∧ w'.cell? ⟨y0, 1, none⟩ = some (.slice c5 j0.length d5) ∧ w'.cell? ⟨C0, 0, none⟩ = some (.int .i64 i0) ∧ w'.cell? ⟨C0, 1, none⟩ = some (.slice p0 g0.length q0)) (ds := []) (bl 5 0) (by kernel_rfl) rfl (by kernel_rfl) ⟨zy y 0, zy y 1, zy l 0, zy l 1⟩ (fun hHeld => ?_)
   generalize n4.drew = w83 at A q u E z B l y HB hHeld ⊢
   refine take_ (i := 0) (N := some 38) (v := ?_) (a' := ?_) (bl 5 1) rfl rfl (by kernel_rfl) (fun _ _ _ h => h) (Or.inl ⟨by rfl, ?_⟩) hHeld ?_ ?_
   rotate_left
   · rintro w' ⟨s0, s1, s2, s3⟩
     go_simp
     with_reducible rfl
   rotate_left
   · simp only [Act.put, zq1, zq2, zq3, i64_w, i32_w]
     rfl
   refine take_ (i := 1) (N := some 39) (v := ?_) (a' := ?_) (bl 5 3) rfl rfl (by kernel_rfl) (fun _ _ _ h => h) (Or.inl ⟨by rfl, ?_⟩) hHeld ?_ ?_
   rotate_left
   · rintro w' ⟨s0, s1, s2, s3⟩
     go_simp
     with_reducible rfl
   rotate_left
   · simp only [Act.put, zq1, zq2, zq3, i64_w, i32_w]
     rfl
   refine one_ (i := 2) (N := some 40) (bl 5 7) rfl rfl (by kernel_rfl) (by decide) (fun K hK => ?_)
   refine goes_ Try.func9 (by kernel_rfl) rfl #[.agg #[.int .i64 i0, .slice p0 g0.length q0]] (by rfl) rfl rfl zL ?_
   refine (laws_toLm.calls k i0 _ _ g0 R0 L0 _ (zS A0) B0.out p5.out).mono ?_
   rintro e w84 ⟨v288, rfl, I, hb⟩
   refine ⟨_, rfl, ?_⟩
   have J := zK (Kd.S_elder' (zkS A) (Kd.S_base I) hb)
   have L := zK (Kd.R_below (zkR q) hb)
   have M := zK (Kd.R_below (zkR u) hb)
   have O := zK (Kd.S_elder' (zkS E) (Kd.S_base I) hb)
   have X := zK (Kd.R_below (zkR z) hb)
   have b0 := zK (Kd.R_below (zkR B) hb)
   have d0 := zK (Kd.S_lower (Kd.S_new' (Kd.S_new' (Kd.S_new' (Kd.S_new' (Kd.S_new' (Kd.S_new' I (Kd.S_lt (zkS A))) (Kd.R_lt (zkR q))) (Kd.R_lt (zkR u))) (Kd.S_lt (zkS E))) (Kd.R_lt (zkR z))) (Kd.R_lt (zkR B))) (zz zB))
   have e0 := z7 l hb
   have m0 := z7 y hb
   have t0 := z8 hb
   revert J L M O X b0 d0 e0 m0 t0
   clear A q u E z B l y HB
   intro A q u E z B l0 l y HB
   (try clear hb)
   (try clear hb2)
   (try clear hk)
   (try clear hi)
   (try clear I)
   obtain ⟨R7, S7, T7⟩ := Kd.S_slice l0.out
   (first | subst T7 | (injection T7 with f1_ f2_ f3_; have f4_ := f1_.symm; have f5_ := f3_.symm; clear f1_ f2_ f3_; subst f4_; subst f5_))
   refine hK.out _ _ ⟨zy y 0, zy y 1, zy l 0, zy l 1⟩ (fun hHeld => ?_)
   clear hK K
   refine zU 40 ?_
   refine one_ (i := 3) (N := some 41) (bl 5 15) rfl rfl (by kernel_rfl) (by decide) (fun K hK => ?_)
   refine goes_ Try.func11 (by kernel_rfl) rfl #[.agg #[.int .i64 n0, .slice c5 j0.length d5], .agg #[.int .i64 R0, .slice R7 L0.length S7]] (by rfl) rfl rfl zL ?_
   refine (laws_eqLm.calls k n0 _ _ j0 R0 _ _ L0 true _ (zC (Kd.S_reads' E.out).2.2) ((Kd.S_reads' E.out).2.1) (zC (Kd.S_reads' l0.out).2.2) ((Kd.S_reads' l0.out).2.1) q5.out).mono ?_
   rintro e w86 ⟨rfl, hb⟩
   refine ⟨_, rfl, ?_⟩
   have J := zK (Kd.S_below (zkS A) hb)
   have L := zK (Kd.R_below (zkR q) hb)
   have M := zK (Kd.R_below (zkR u) hb)
   have O := zK (Kd.S_below (zkS E) hb)
   have X := zK (Kd.R_below (zkR z) hb)
   have b0 := zK (Kd.R_below (zkR B) hb)
   have d0 := zK (Kd.S_below (zkS l0) hb)
   have e0 := z7 l hb
   have m0 := z7 y hb
   have t0 := z8 hb
   revert J L M O X b0 d0 e0 m0 t0
   clear A q u E z B l0 l y HB
   intro A q u E z B l0 l y HB
   (try clear hb)
   (try clear hb2)
   (try clear hk)
   (try clear hi)
   refine hK.out _ _ ⟨zy y 0, zy y 1, zy l 0, zy l 1⟩ (fun hHeld => ?_)
   clear hK K
   refine zU 41 ?_
   refine pure_ (i := 4) (N := some 42) (v := ?_) (a' := ?_) (bl 5 31) rfl rfl (by kernel_rfl) (fun _ _ _ h => h) (Or.inl ⟨by rfl, ?_⟩) ?_ ?_
   rotate_left
   · intro w'
     go_simp
     with_reducible rfl
   rotate_left
   · simp only [Act.put, zq1, zq2, zq3, i64_w, i32_w]
     rfl
   refine done_ (by kernel_rfl) ?_
   try go_wp2_with (first | ((with_reducible refine gc 20 rfl ?_); refine zF 45 Try.func20 #[.slice A1 l1.length c1] rfl zL ?_; refine (laws_toIntS.calls k _ _ l1 o0 _ (zS n1) o1.out x5.out).mono ?_; rintro e w87 ⟨v292, rfl, I, hb⟩; refine ⟨_, rfl, ?_⟩; have J := zK (Kd.S_elder' (zkS A) (Kd.R_base I) hb); have L := zK (Kd.R_elder' (zkR q) (Kd.R_base I) hb); have M := zK (Kd.R_elder' (zkR u) (Kd.R_base I) hb); have O := zK (Kd.S_elder' (zkS E) (Kd.R_base I) hb); have X := zK (Kd.R_elder' (zkR z) (Kd.R_base I) hb); have b0 := zK (Kd.R_elder' (zkR B) (Kd.R_base I) hb); have d0 := zK (Kd.S_elder' (zkS l0) (Kd.R_base I) hb); have e0 := zK (Kd.R_lower (Kd.R_new' (Kd.R_new' (Kd.R_new' (Kd.R_new' I (Kd.R_lt (zkR q))) (Kd.R_lt (zkR u))) (Kd.R_lt (zkR z))) (Kd.R_lt (zkR B))) (zz zB)); have m0 := z7 l hb; have t0 := z7 y hb; have F0 := z8 hb; revert J L M O X b0 d0 e0 m0 t0 F0; clear A q u E z B l0 l y HB; intro A q u E z B l0 a0 l y HB; obtain ⟨e5, f5, a5s⟩ := Kd.R_slice a0.out; subst a5s) | ((with_reducible refine gc 22 rfl ?_); refine zF 46 Try.func22 #[.slice R1 T.length S1, .slice e5 o0.length f5] rfl zL ?_; refine (laws_eqIntS.calls k _ _ T _ _ o0 true _ (zC (Kd.R_reads' z.out).2.2) ((Kd.R_reads' z.out).2.1) (zC (Kd.R_reads' a0.out).2.2) ((Kd.R_reads' a0.out).2.1) y5.out).mono ?_; rintro e w' ⟨rfl, ⟨nd, rfl⟩⟩; refine ⟨_, rfl, ?_⟩; obtain ⟨b4t, b4u, b4x, b4y⟩ := zc2 y) | ((with_reducible refine gc 23 rfl ?_); refine zF 50 Try.func23 #[.agg #[.int .i64 n0, .slice c5 j0.length d5], .int .i64 1] rfl zL ?_; (with_reducible refine (Marks.markLm_E (fun k_ => (((((((True ∧ some k_ ≠ (.slice s6 x0.length t6 : Value).ownBlock) ∧ some k_ ≠ (.slice R2 f0.length T2 : Value).ownBlock) ∧ some k_ ≠ (.slice U2 c0.length V2 : Value).ownBlock) ∧ some k_ ≠ (.slice R1 T.length S1 : Value).ownBlock) ∧ some k_ ≠ (.slice T1 U.length U1 : Value).ownBlock) ∧ some k_ ≠ (.slice R7 L0.length S7 : Value).ownBlock) ∧ some k_ ≠ (.slice e5 o0.length f5 : Value).ownBlock)) n0 j0 1 N0 w.heap.size _ ?side1 ?side2).mono ?_); (case side1 => exact Kd.S_R (zkS E)); (case side2 => exact E5.out); rintro e w90 ⟨rfl, hb⟩; refine ⟨_, rfl, ?_⟩; have J := zK (Marks.Turned.block hb (zM l) (by decide)); have L := zK (Marks.Turned.R hb (zkR q) (fun k_ e_ o_ => (o_.1.1.1.1.1.2) e_)); have M := zK (Marks.Turned.R hb (zkR u) (fun k_ e_ o_ => (o_.1.1.1.1.2) e_)); have O := zK (Marks.Turned.block hb (zM y) (by decide)); have X := zK (Marks.Turned.R hb (zkR z) (fun k_ e_ o_ => (o_.1.1.1.2) e_)); have b0 := zK (Marks.Turned.R hb (zkR B) (fun k_ e_ o_ => (o_.1.1.2) e_)); have d0 := zK (Marks.Turned.R hb (zkR a0) (fun k_ e_ o_ => (o_.2) e_)); have e0 := zK (Marks.Turned.below hb zB); revert J L M O X b0 d0 e0; clear l q u y z B a0 HB A E l0; intro l q u y z B a0 HB) | ((with_reducible refine gc 24 rfl ?_); refine zF 53 Try.func24 #[.slice R1 T.length S1, .int .i64 N0] rfl zL ?_; (with_reducible refine (laws_markIntS.calls k (fun k_ => some k_ = (.slice R1 T.length S1 : Value).ownBlock) (.slice R1 T.length S1) T N0 l4 X4 w _ ?side1 ?side2 F5.out).mono ?_); (case side1 => repeat (first | (with_reducible first | exact HB.out | apply zb | apply zw | apply ze | refine zs ?_ U0.out | refine zs ?_ V0.out) | exact HB.out)); (case side2 => exact Kd.R_tight rfl z.out); rintro e w91 ⟨rfl, S0, hb, hkp⟩; refine ⟨_, rfl, ?_⟩; have J := zK (blk_kept (zM l) hkp (fun hs_ => (fun e_ => (Kd.R_ne z.out l.out (by decide)) e_) hs_)); have L := zK (Kd.R_mono (ok' := fun k_ => some k_ ≠ (.slice U2 c0.length V2 : Value).ownBlock ∧ some k_ ≠ (.slice R1 T.length S1 : Value).ownBlock ∧ some k_ ≠ (.slice T1 U.length U1 : Value).ownBlock ∧ some k_ ≠ (.slice e5 o0.length f5 : Value).ownBlock) (Kd.R_keptB (q.out) hkp (fun k_ hk_ hs_ => (hk_.1.1.2) hs_)) (fun k_ hk_ => ⟨hk_.1.1.1.1.2, hk_.1.1.1.2, hk_.1.1.2, hk_.1.2⟩)); have M := zK (Kd.R_mono (ok' := fun k_ => some k_ ≠ (.slice R2 f0.length T2 : Value).ownBlock ∧ some k_ ≠ (.slice R1 T.length S1 : Value).ownBlock ∧ some k_ ≠ (.slice T1 U.length U1 : Value).ownBlock ∧ some k_ ≠ (.slice e5 o0.length f5 : Value).ownBlock) (Kd.R_keptB (u.out) hkp (fun k_ hk_ hs_ => (hk_.1.1.2) hs_)) (fun k_ hk_ => ⟨hk_.1.1.1.1.2, hk_.1.1.1.2, hk_.1.1.2, hk_.1.2⟩)); have O := zK (blk_kept (zM y) hkp (fun hs_ => (fun e_ => (Kd.R_ne z.out y.out (by decide)) e_) hs_)); have X := zK (Kd.R_reok rfl S0 (fun k_ e_ => z.out.1 k_ e_)); have b0 := zK (Kd.R_mono (ok' := fun k_ => some k_ ≠ (.slice R2 f0.length T2 : Value).ownBlock ∧ some k_ ≠ (.slice U2 c0.length V2 : Value).ownBlock ∧ some k_ ≠ (.slice R1 T.length S1 : Value).ownBlock ∧ some k_ ≠ (.slice e5 o0.length f5 : Value).ownBlock) (Kd.R_keptB (B.out) hkp (fun k_ hk_ hs_ => (hk_.1.2) hs_)) (fun k_ hk_ => ⟨hk_.1.1.1.1.2, hk_.1.1.1.2, hk_.1.1.2, hk_.1.2⟩)); have d0 := zK (Kd.R_mono (ok' := fun k_ => some k_ ≠ (.slice R2 f0.length T2 : Value).ownBlock ∧ some k_ ≠ (.slice U2 c0.length V2 : Value).ownBlock ∧ some k_ ≠ (.slice R1 T.length S1 : Value).ownBlock ∧ some k_ ≠ (.slice T1 U.length U1 : Value).ownBlock) (Kd.R_keptB (a0.out) hkp (fun k_ hk_ hs_ => (hk_.1.2) hs_)) (fun k_ hk_ => ⟨hk_.1.1.1.1.2, hk_.1.1.1.2, hk_.1.1.2, hk_.1.2⟩)); have e0 := zK (hb); revert J L M O X b0 d0 e0; clear l q u y z B a0 HB; intro l q u y z B a0 HB; (try clear hkp); (try clear S0)) | (go_at_call 22; (with_reducible refine (laws_eqIntS.calls k _ _ U _ _ c0 true _ ?side1 ?side2 ?side3 ?side4 b6.out).mono ?_); (case side1 => exact zC (Kd.R_reads' B.out).2.2); (case side2 => exact (Kd.R_reads' B.out).2.1); (case side3 => exact zC (Kd.R_reads' u.out).2.2); (case side4 => exact (Kd.R_reads' u.out).2.1); rintro e w' ⟨rfl, ⟨nd, rfl⟩⟩) | ((with_reducible refine gc 24 rfl ?_); refine zF 64 Try.func24 #[.slice T1 U.length U1, .int .i64 1] rfl zL ?_; (with_reducible refine (laws_markIntS.calls k (fun k_ => some k_ = (.slice T1 U.length U1 : Value).ownBlock) (.slice T1 U.length U1) U 1 C3 G0 w _ ?side1 ?side2 g6.out).mono ?_); (case side1 => repeat (first | (with_reducible first | exact HB.out | apply zb | apply zw | apply ze | refine zs ?_ U0.out | refine zs ?_ V0.out) | exact HB.out)); (case side2 => exact Kd.R_tight rfl B.out); rintro e w92 ⟨rfl, S0, hb, hkp⟩; refine ⟨_, rfl, ?_⟩; have J := zK (blk_kept (zM l) hkp (fun hs_ => (fun e_ => (Kd.R_ne B.out l.out (by decide)) e_) hs_)); have L := zK (Kd.R_mono (ok' := fun k_ => some k_ ≠ (.slice U2 c0.length V2 : Value).ownBlock ∧ some k_ ≠ (.slice R1 T.length S1 : Value).ownBlock ∧ some k_ ≠ (.slice T1 U.length U1 : Value).ownBlock ∧ some k_ ≠ (.slice e5 o0.length f5 : Value).ownBlock) (Kd.R_keptB (q.out) hkp (fun k_ hk_ hs_ => (hk_.2.2.1) hs_)) (fun k_ hk_ => ⟨hk_.1.1, hk_.1.2.1, hk_.1.2.2.1, hk_.1.2.2.2⟩)); have M := zK (Kd.R_mono (ok' := fun k_ => some k_ ≠ (.slice R2 f0.length T2 : Value).ownBlock ∧ some k_ ≠ (.slice R1 T.length S1 : Value).ownBlock ∧ some k_ ≠ (.slice T1 U.length U1 : Value).ownBlock ∧ some k_ ≠ (.slice e5 o0.length f5 : Value).ownBlock) (Kd.R_keptB (u.out) hkp (fun k_ hk_ hs_ => (hk_.2.2.1) hs_)) (fun k_ hk_ => ⟨hk_.1.1, hk_.1.2.1, hk_.1.2.2.1, hk_.1.2.2.2⟩)); have O := zK (blk_kept (zM y) hkp (fun hs_ => (fun e_ => (Kd.R_ne B.out y.out (by decide)) e_) hs_)); have X := zK (Kd.R_mono (ok' := fun k_ => some k_ ≠ (.slice R2 f0.length T2 : Value).ownBlock ∧ some k_ ≠ (.slice U2 c0.length V2 : Value).ownBlock ∧ some k_ ≠ (.slice T1 U.length U1 : Value).ownBlock ∧ some k_ ≠ (.slice e5 o0.length f5 : Value).ownBlock) (Kd.R_keptB (z.out) hkp (fun k_ hk_ hs_ => (hk_.1.2) hs_)) (fun k_ hk_ => ⟨hk_.1.1.1.1.2, hk_.1.1.1.2, hk_.1.1.2, hk_.1.2⟩)); have b0 := zK (Kd.R_reok rfl S0 (fun k_ e_ => B.out.1 k_ e_)); have d0 := zK (Kd.R_mono (ok' := fun k_ => some k_ ≠ (.slice R2 f0.length T2 : Value).ownBlock ∧ some k_ ≠ (.slice U2 c0.length V2 : Value).ownBlock ∧ some k_ ≠ (.slice R1 T.length S1 : Value).ownBlock ∧ some k_ ≠ (.slice T1 U.length U1 : Value).ownBlock) (Kd.R_keptB (a0.out) hkp (fun k_ hk_ hs_ => (hk_.2.2.2) hs_)) (fun k_ hk_ => ⟨hk_.1.1, hk_.1.2.1, hk_.1.2.2.1, hk_.1.2.2.2⟩)); have e0 := zK (hb); revert J L M O X b0 d0 e0; clear l q u y z B a0 HB; intro l q u y z B a0 HB; (try clear hkp); (try clear S0)) | ((with_reducible refine gc 25 rfl ?_); refine zF 67 Try.func25 #[.slice T1 G0.length U1, .int .i64 1] rfl (by (try simp only [List.map_toArray, List.map_cons, List.map_nil]); first | done | (rw [show G0.length = U.length from (Kd.R_reads' B.out).1.symm] <;> rfl) | rfl | (simp only [List.length_drop, List.length_take]; rfl)) ?_; (with_reducible refine (laws_heldIntS.calls k _ _ G0 1 X0 _ ?side1 ?side2 i6.out).mono ?_); (case side1 => exact zC (Kd.R_reads' B.out).2.2); (case side2 => rw [show G0.length = U.length from (Kd.R_reads' B.out).1.symm]; exact (Kd.R_reads' B.out).2.1); rintro e w' ⟨rfl, ⟨nd, rfl⟩⟩; refine ⟨_, rfl, ?_⟩))
   go_ret
   exact ⟨zE, zB⟩
 rw [if_neg j6] at H
 have S8 := z2 j6
 clear j6
 by_cases d6 : X0 = C3
 rotate_left
 · as_aux_lemma =>
   rw [if_neg d6] at H
   have T8 := beq_eq_false_iff_ne.mpr d6
   have U8 := bne_iff_ne.mpr d6
   obtain rfl := z5 H
   go_enter Try.func6, Try.ntmps6
   try go_wp2_with (first | ((with_reducible refine gd 2 rfl ?_); refine zJ 2 #[.int .i64 i0, .slice p0 g0.length q0] 24 ?_; intro C0 hg b7y hbox hb; have J := z8 hb; have L := zK (hbox); have M := z9 hg; have O := z9 hg; revert J L M O; clear HB; intro HB l n3 U0; clear hb hbox hg; obtain ⟨a5t, a5u, a5x, a5y⟩ := zc2 l) | ((with_reducible refine gc 7 rfl ?_); refine zF 19 Try.func7 #[.agg #[.int .i64 i0, .slice p0 g0.length q0], .int .i64 1048576] rfl zL ?_; refine (laws_szLm.calls k i0 _ _ g0 1048576 X2 _ (zS A0) B0.out A5.out).mono ?_; rintro e b7z ⟨rfl, hb⟩; refine ⟨_, rfl, ?_⟩; have J := z7 l hb; have L := z8 hb; revert J L; clear l HB; intro l HB; obtain ⟨a5z, a6a, a6b, a6c⟩ := zc2 l) | ((with_reducible refine gc 9 rfl ?_); refine zF 23 Try.func9 #[.agg #[.int .i64 i0, .slice p0 g0.length q0]] rfl zL ?_; refine (laws_toLm.calls k i0 _ _ g0 O0 x0 _ (zS A0) B0.out g5.out).mono ?_; rintro e b8a ⟨v266, rfl, I, hb⟩; refine ⟨_, rfl, ?_⟩; have J := zK (Kd.S_lower I (zz zB)); have L := z7 l hb; have M := z8 hb; revert J L M; clear l HB; intro A l HB) | ((with_reducible refine gc 20 rfl ?_); refine zF 25 Try.func20 #[.slice A1 l1.length c1] rfl zL ?_; refine (laws_toIntS.calls k _ _ l1 f0 _ (zS n1) o1.out i5.out).mono ?_; rintro e b8b ⟨v269, rfl, I, hb⟩; refine ⟨_, rfl, ?_⟩; have J := zK (Kd.S_elder' (zkS A) (Kd.R_base I) hb); have L := zK (Kd.R_lower I (zz zB)); have M := z7 l hb; have O := z8 hb; revert J L M O; clear A l HB; intro A q l HB; obtain ⟨J5, L5, V8⟩ := Kd.S_slice A.out; subst V8; obtain ⟨i2, j2, X8⟩ := Kd.R_slice q.out; subst X8) | ((with_reducible refine gc 19 rfl ?_); refine zF 26 Try.func19 #[.agg #[.int .i64 O0, .slice J5 x0.length L5], .slice i2 f0.length j2] rfl zL ?_; refine (spec_Weights.calls k O0 _ _ x0 _ _ f0 c0 _ (zC (Kd.S_reads' A.out).2.2) ((Kd.S_reads' A.out).2.1) (zC (Kd.R_reads' q.out).2.2) ((Kd.R_reads' q.out).2.1) j5.out).mono ?_; rintro e b8c ⟨v272, rfl, I, hb⟩; refine ⟨_, rfl, ?_⟩; have J := zK (Kd.S_elder' (zkS A) (Kd.R_base I) hb); have L := zK (Kd.R_elder' (zkR q) (Kd.R_base I) hb); have M := zK (Kd.R_lower (Kd.R_new' I (Kd.R_lt (zkR q))) (zz zB)); have O := z7 l hb; have X := z8 hb; revert J L M O X; clear A q l HB; intro A q u l HB; obtain ⟨a6d, a6e, a6f, a6g⟩ := zc2 l) | ((with_reducible refine gc 9 rfl ?_); refine zF 28 Try.func9 #[.agg #[.int .i64 i0, .slice p0 g0.length q0]] rfl zL ?_; refine (laws_toLm.calls k i0 _ _ g0 n0 j0 _ (zS A0) B0.out l5.out).mono ?_; rintro e b8d ⟨v276, rfl, I, hb⟩; refine ⟨_, rfl, ?_⟩; have J := zK (Kd.S_elder' (zkS A) (Kd.S_base I) hb); have L := zK (Kd.R_below (zkR q) hb); have M := zK (Kd.R_below (zkR u) hb); have O := zK (Kd.S_lower (Kd.S_new' (Kd.S_new' (Kd.S_new' I (Kd.S_lt (zkS A))) (Kd.R_lt (zkR q))) (Kd.R_lt (zkR u))) (zz zB)); have X := z7 l hb; have b0 := z8 hb; revert J L M O X b0; clear A q u l HB; intro A q u E l HB) | ((with_reducible refine gd 7 rfl ?_); refine zJ 7 #[.int .i64 0, .slice none 0 0] 29 ?_; intro y0 hg b8e hbox hb; have J := zK (Kd.S_below (zkS A) hb); have L := zK (Kd.R_below (zkR q) hb); have M := zK (Kd.R_below (zkR u) hb); have O := zK (Kd.S_below (zkS E) hb); have X := z7 l hb; have b0 := z8 hb; have d0 := zK (hbox); have e0 := z9 hg; have m0 := z9 hg; have t0 := zHH hg l; have F0 := zGG hg l; revert J L M O X b0 d0 e0 m0 t0 F0; clear A q u E l HB; intro A q u E l HB y o3 V0 I0 J0; clear hb hbox hg; have b5f := J0.out; have b5g := I0.out; obtain ⟨a6j, a6l, a6m, a6n⟩ := zc2 y; obtain ⟨J3, L3, a9⟩ := Kd.S_slice E.out; subst a9) | ((with_reducible refine gc 20 rfl ?_); refine zF 30 Try.func20 #[.slice A1 l1.length c1] rfl zL ?_; refine (laws_toIntS.calls k _ _ l1 T _ (z4 n1.out zB) o1.out m5.out).mono ?_; rintro e b8f ⟨v280, rfl, I, hb⟩; refine ⟨_, rfl, ?_⟩; have J := zK (Kd.S_elder' (Kd.S_mono (zlS (Kd.S_types A.out y.out (by decide))) (fun _ h_ => h_.1)) (Kd.R_base I) hb); have L := zK (Kd.R_elder' (Kd.R_mono (zlR (Kd.R_types q.out y.out (by decide))) (fun _ h_ => h_.1)) (Kd.R_base I) hb); have M := zK (Kd.R_elder' (Kd.R_mono (zlR (Kd.R_types u.out y.out (by decide))) (fun _ h_ => h_.1)) (Kd.R_base I) hb); have O := zK (Kd.S_elder' (Kd.S_mono (zlS (Kd.S_types E.out y.out (by decide))) (fun _ h_ => h_.1)) (Kd.R_base I) hb); have X := zK (Kd.R_lower (Kd.R_new' (Kd.R_new' I (Kd.R_lt (Kd.R_mono (zlR (Kd.R_types q.out y.out (by decide))) (fun _ h_ => h_.1)))) (Kd.R_lt (Kd.R_mono (zlR (Kd.R_types u.out y.out (by decide))) (fun _ h_ => h_.1)))) (zz zB)); have b0 := zK (zg (zV l) hb); have d0 := zK (zg (g := y0) (o := .cells #[.int .i64 n0, .slice J3 j0.length L3] 29 (0, 0)) (zW y) hb); have e0 := z8 hb; revert J L M O X b0 d0 e0; clear A q u E l y HB; intro A q u E z l y HB; obtain ⟨a6o, a6p, a6q, a6s⟩ := zc2 y; obtain ⟨p1, q1, b9⟩ := Kd.R_slice z.out; subst b9) | ((with_reducible refine gc 21 rfl ?_); refine zF 33 Try.func21 #[.agg #[.int .i64 n0, .slice J3 j0.length L3], .slice p1 T.length q1] rfl zL ?_; refine (impl_Weights.calls k n0 _ _ j0 _ _ T U _ (zC (Kd.S_reads' E.out).2.2) ((Kd.S_reads' E.out).2.1) (zC (Kd.R_reads' z.out).2.2) ((Kd.R_reads' z.out).2.1) n5.out).mono ?_; rintro e e3 ⟨v283, rfl, I, hb⟩; refine ⟨_, rfl, ?_⟩; have J := zK (Kd.S_elder' (zkS A) (Kd.R_base I) hb); have L := zK (Kd.R_elder' (zkR q) (Kd.R_base I) hb); have M := zK (Kd.R_elder' (zkR u) (Kd.R_base I) hb); have O := zK (Kd.S_elder' (zkS E) (Kd.R_base I) hb); have X := zK (Kd.R_elder' (zkR z) (Kd.R_base I) hb); have b0 := zK (Kd.R_lower (Kd.R_new' (Kd.R_new' (Kd.R_new' I (Kd.R_lt (zkR q))) (Kd.R_lt (zkR u))) (Kd.R_lt (zkR z))) (zz zB)); have d0 := z7 l hb; have e0 := z7 y hb; have m0 := z8 hb; revert J L M O X b0 d0 e0 m0; clear A q u E z l y HB; intro A q u E z B l y HB; obtain ⟨t1, x1, c9⟩ := Kd.R_slice B.out; subst c9; obtain ⟨l2, m2, d9⟩ := Kd.R_slice u.out; subst d9) | ((with_reducible refine gc 22 rfl ?_); refine zF 36 Try.func22 #[.slice t1 U.length x1, .slice l2 c0.length m2] rfl zL ?_; refine (laws_eqIntS.calls k _ _ U _ _ c0 true _ (zC (Kd.R_reads' B.out).2.2) ((Kd.R_reads' B.out).2.1) (zC (Kd.R_reads' u.out).2.2) ((Kd.R_reads' u.out).2.1) o5.out).mono ?_; rintro e w' ⟨rfl, ⟨nd, rfl⟩⟩; refine ⟨_, rfl, ?_⟩))
   (try (rw [drewN_self e3]; generalize hq_ : World.drewN e3 _ = e3; have J : Aside0 (Kd.S k57 57 e3 w.heap.size (fun k_ => (((((True ∧ some k_ ≠ (.slice i2 f0.length j2 : Value).ownBlock) ∧ some k_ ≠ (.slice l2 c0.length m2 : Value).ownBlock) ∧ some k_ ≠ (.slice J3 j0.length L3 : Value).ownBlock) ∧ some k_ ≠ (.slice p1 T.length q1 : Value).ownBlock) ∧ some k_ ≠ (.slice t1 U.length x1 : Value).ownBlock)) (.slice J5 x0.length L5) x0) := ⟨by rw [← hq_]; exact zkS A⟩; have L : Aside0 (Kd.R (Kd.int .i64) 3 e3 w.heap.size (fun k_ => (((True ∧ some k_ ≠ (.slice l2 c0.length m2 : Value).ownBlock) ∧ some k_ ≠ (.slice p1 T.length q1 : Value).ownBlock) ∧ some k_ ≠ (.slice t1 U.length x1 : Value).ownBlock)) (.slice i2 f0.length j2) f0) := ⟨by rw [← hq_]; exact zkR q⟩; have M : Aside0 (Kd.R (Kd.int .i64) 3 e3 w.heap.size (fun k_ => (((True ∧ some k_ ≠ (.slice i2 f0.length j2 : Value).ownBlock) ∧ some k_ ≠ (.slice p1 T.length q1 : Value).ownBlock) ∧ some k_ ≠ (.slice t1 U.length x1 : Value).ownBlock)) (.slice l2 c0.length m2) c0) := ⟨by rw [← hq_]; exact zkR u⟩; have O : Aside0 (Kd.S k57 57 e3 w.heap.size (fun k_ => (((((True ∧ some k_ ≠ (.slice J5 x0.length L5 : Value).ownBlock) ∧ some k_ ≠ (.slice i2 f0.length j2 : Value).ownBlock) ∧ some k_ ≠ (.slice l2 c0.length m2 : Value).ownBlock) ∧ some k_ ≠ (.slice p1 T.length q1 : Value).ownBlock) ∧ some k_ ≠ (.slice t1 U.length x1 : Value).ownBlock)) (.slice J3 j0.length L3) j0) := ⟨by rw [← hq_]; exact zkS E⟩; have X : Aside0 (Kd.R (Kd.int .i64) 3 e3 w.heap.size (fun k_ => (((True ∧ some k_ ≠ (.slice i2 f0.length j2 : Value).ownBlock) ∧ some k_ ≠ (.slice l2 c0.length m2 : Value).ownBlock) ∧ some k_ ≠ (.slice t1 U.length x1 : Value).ownBlock)) (.slice p1 T.length q1) T) := ⟨by rw [← hq_]; exact zkR z⟩; have b0 : Aside0 (Kd.R (Kd.int .i64) 3 e3 w.heap.size (fun k_ => (((True ∧ some k_ ≠ (.slice i2 f0.length j2 : Value).ownBlock) ∧ some k_ ≠ (.slice l2 c0.length m2 : Value).ownBlock) ∧ some k_ ≠ (.slice p1 T.length q1 : Value).ownBlock)) (.slice t1 U.length x1) U) := ⟨by rw [← hq_]; exact zkR B⟩; have d0 : Aside0 (e3.heap[C0]? = some (.cells #[.int .i64 i0, .slice p0 g0.length q0] 24 (0, 0))) := ⟨by rw [← hq_]; exact (zM l)⟩; have e0 : Aside0 (e3.heap[y0]? = some (.cells #[.int .i64 n0, .slice J3 j0.length L3] 29 (0, 0))) := ⟨by rw [← hq_]; exact (zM y)⟩; have m0 : Aside0 (Below w.heap.size w e3) := ⟨by rw [← hq_]; exact zB⟩; clear A q u E z B l y HB hq_; revert J L M O X b0 d0 e0 m0; intro A q u E z B l y HB))
   have J := zK (Kd.S_drew A.out)
   have L := zK (Kd.R_drew q.out)
   have M := zK (Kd.R_drew u.out)
   have O := zK (Kd.S_drew E.out)
   have X := zK (Kd.R_drew z.out)
   have b0 := zK (Kd.R_drew B.out)
   have d0 := zK (zd l.out)
   have e0 := zK (zd y.out)
   have m0 := zK (ze HB.out)
   revert J L M O X b0 d0 e0 m0
   clear A q u E z B l y HB
   intro A q u E z B l y HB
   refine start_ (n := 5) (S := fun w' => w'.cell? ⟨y0, 0, none⟩ = some (.int .i64 n0) ∧ w'.cell? ⟨y0, 1, none⟩ = some (.slice J3 j0.length L3) ∧ w'.cell? ⟨C0, 0, none⟩ = some (.int .i64 i0) ∧ w'.cell? ⟨C0, 1, none⟩ = some (.slice p0 g0.length q0)) (ds := []) (bl 5 0) (by kernel_rfl) rfl (by kernel_rfl) ⟨zy y 0, zy y 1, zy l 0, zy l 1⟩ (fun hHeld => ?_)
   generalize e3.drew = b8g at A q u E z B l y HB hHeld ⊢
   refine take_ (i := 0) (N := some 38) (v := ?_) (a' := ?_) (bl 5 1) rfl rfl (by kernel_rfl) (fun _ _ _ h => h) (Or.inl ⟨by rfl, ?_⟩) hHeld ?_ ?_
   rotate_left
   · rintro w' ⟨s0, s1, s2, s3⟩
     go_simp
     with_reducible rfl
   rotate_left
   · simp only [Act.put, zq1, zq2, zq3, i64_w, i32_w]
     rfl
   refine take_ (i := 1) (N := some 39) (v := ?_) (a' := ?_) (bl 5 3) rfl rfl (by kernel_rfl) (fun _ _ _ h => h) (Or.inl ⟨by rfl, ?_⟩) hHeld ?_ ?_
   rotate_left
   · rintro w' ⟨s0, s1, s2, s3⟩
     go_simp
     with_reducible rfl
   rotate_left
   · simp only [Act.put, zq1, zq2, zq3, i64_w, i32_w]
     rfl
   refine one_ (i := 2) (N := some 40) (bl 5 7) rfl rfl (by kernel_rfl) (by decide) (fun K hK => ?_)
   refine goes_ Try.func9 (by kernel_rfl) rfl #[.agg #[.int .i64 i0, .slice p0 g0.length q0]] (by rfl) rfl rfl zL ?_
   refine (laws_toLm.calls k i0 _ _ g0 R0 L0 _ (zS A0) B0.out p5.out).mono ?_
   rintro e b8j ⟨v288, rfl, I, hb⟩
   refine ⟨_, rfl, ?_⟩
   have J := zK (Kd.S_elder' (zkS A) (Kd.S_base I) hb)
   have L := zK (Kd.R_below (zkR q) hb)
   have M := zK (Kd.R_below (zkR u) hb)
   have O := zK (Kd.S_elder' (zkS E) (Kd.S_base I) hb)
   have X := zK (Kd.R_below (zkR z) hb)
   have b0 := zK (Kd.R_below (zkR B) hb)
   have d0 := zK (Kd.S_lower (Kd.S_new' (Kd.S_new' (Kd.S_new' (Kd.S_new' (Kd.S_new' (Kd.S_new' I (Kd.S_lt (zkS A))) (Kd.R_lt (zkR q))) (Kd.R_lt (zkR u))) (Kd.S_lt (zkS E))) (Kd.R_lt (zkR z))) (Kd.R_lt (zkR B))) (zz zB))
   have e0 := z7 l hb
   have m0 := z7 y hb
   have t0 := z8 hb
   revert J L M O X b0 d0 e0 m0 t0
   clear A q u E z B l y HB
   intro A q u E z B l0 l y HB
   (try clear hb)
   (try clear hb2)
   (try clear hk)
   (try clear hi)
   (try clear I)
   obtain ⟨M6, N6, O6⟩ := Kd.S_slice l0.out
   (first | subst O6 | (injection O6 with f1_ f2_ f3_; have f4_ := f1_.symm; have f5_ := f3_.symm; clear f1_ f2_ f3_; subst f4_; subst f5_))
   refine hK.out _ _ ⟨zy y 0, zy y 1, zy l 0, zy l 1⟩ (fun hHeld => ?_)
   clear hK K
   refine zU 40 ?_
   refine one_ (i := 3) (N := some 41) (bl 5 15) rfl rfl (by kernel_rfl) (by decide) (fun K hK => ?_)
   refine goes_ Try.func11 (by kernel_rfl) rfl #[.agg #[.int .i64 n0, .slice J3 j0.length L3], .agg #[.int .i64 R0, .slice M6 L0.length N6]] (by rfl) rfl rfl zL ?_
   refine (laws_eqLm.calls k n0 _ _ j0 R0 _ _ L0 true _ (zC (Kd.S_reads' E.out).2.2) ((Kd.S_reads' E.out).2.1) (zC (Kd.S_reads' l0.out).2.2) ((Kd.S_reads' l0.out).2.1) q5.out).mono ?_
   rintro e b8l ⟨rfl, hb⟩
   refine ⟨_, rfl, ?_⟩
   have J := zK (Kd.S_below (zkS A) hb)
   have L := zK (Kd.R_below (zkR q) hb)
   have M := zK (Kd.R_below (zkR u) hb)
   have O := zK (Kd.S_below (zkS E) hb)
   have X := zK (Kd.R_below (zkR z) hb)
   have b0 := zK (Kd.R_below (zkR B) hb)
   have d0 := zK (Kd.S_below (zkS l0) hb)
   have e0 := z7 l hb
   have m0 := z7 y hb
   have t0 := z8 hb
   revert J L M O X b0 d0 e0 m0 t0
   clear A q u E z B l0 l y HB
   intro A q u E z B l0 l y HB
   (try clear hb)
   (try clear hb2)
   (try clear hk)
   (try clear hi)
   refine hK.out _ _ ⟨zy y 0, zy y 1, zy l 0, zy l 1⟩ (fun hHeld => ?_)
   clear hK K
   refine zU 41 ?_
   refine pure_ (i := 4) (N := some 42) (v := ?_) (a' := ?_) (bl 5 31) rfl rfl (by kernel_rfl) (fun _ _ _ h => h) (Or.inl ⟨by rfl, ?_⟩) ?_ ?_
   rotate_left
   · intro w'
     go_simp
     with_reducible rfl
   rotate_left
   · simp only [Act.put, zq1, zq2, zq3, i64_w, i32_w]
     rfl
   refine done_ (by kernel_rfl) ?_
   try go_wp2_with (first | ((with_reducible refine gc 20 rfl ?_); refine zF 45 Try.func20 #[.slice A1 l1.length c1] rfl zL ?_; refine (laws_toIntS.calls k _ _ l1 o0 _ (zS n1) o1.out x5.out).mono ?_; rintro e b8m ⟨v292, rfl, I, hb⟩; refine ⟨_, rfl, ?_⟩; have J := zK (Kd.S_elder' (zkS A) (Kd.R_base I) hb); have L := zK (Kd.R_elder' (zkR q) (Kd.R_base I) hb); have M := zK (Kd.R_elder' (zkR u) (Kd.R_base I) hb); have O := zK (Kd.S_elder' (zkS E) (Kd.R_base I) hb); have X := zK (Kd.R_elder' (zkR z) (Kd.R_base I) hb); have b0 := zK (Kd.R_elder' (zkR B) (Kd.R_base I) hb); have d0 := zK (Kd.S_elder' (zkS l0) (Kd.R_base I) hb); have e0 := zK (Kd.R_lower (Kd.R_new' (Kd.R_new' (Kd.R_new' (Kd.R_new' I (Kd.R_lt (zkR q))) (Kd.R_lt (zkR u))) (Kd.R_lt (zkR z))) (Kd.R_lt (zkR B))) (zz zB)); have m0 := z7 l hb; have t0 := z7 y hb; have F0 := z8 hb; revert J L M O X b0 d0 e0 m0 t0 F0; clear A q u E z B l0 l y HB; intro A q u E z B l0 a0 l y HB; obtain ⟨M3, N3, e9⟩ := Kd.R_slice a0.out; subst e9) | ((with_reducible refine gc 22 rfl ?_); refine zF 46 Try.func22 #[.slice p1 T.length q1, .slice M3 o0.length N3] rfl zL ?_; refine (laws_eqIntS.calls k _ _ T _ _ o0 true _ (zC (Kd.R_reads' z.out).2.2) ((Kd.R_reads' z.out).2.1) (zC (Kd.R_reads' a0.out).2.2) ((Kd.R_reads' a0.out).2.1) y5.out).mono ?_; rintro e w' ⟨rfl, ⟨nd, rfl⟩⟩; refine ⟨_, rfl, ?_⟩; obtain ⟨a6t, a6u, a6x, a6y⟩ := zc2 y) | ((with_reducible refine gc 23 rfl ?_); refine zF 50 Try.func23 #[.agg #[.int .i64 n0, .slice J3 j0.length L3], .int .i64 1] rfl zL ?_; (with_reducible refine (Marks.markLm_E (fun k_ => (((((((True ∧ some k_ ≠ (.slice J5 x0.length L5 : Value).ownBlock) ∧ some k_ ≠ (.slice i2 f0.length j2 : Value).ownBlock) ∧ some k_ ≠ (.slice l2 c0.length m2 : Value).ownBlock) ∧ some k_ ≠ (.slice p1 T.length q1 : Value).ownBlock) ∧ some k_ ≠ (.slice t1 U.length x1 : Value).ownBlock) ∧ some k_ ≠ (.slice M6 L0.length N6 : Value).ownBlock) ∧ some k_ ≠ (.slice M3 o0.length N3 : Value).ownBlock)) n0 j0 1 N0 w.heap.size _ ?side1 ?side2).mono ?_); (case side1 => exact Kd.S_R (zkS E)); (case side2 => exact E5.out); rintro e b8n ⟨rfl, hb⟩; refine ⟨_, rfl, ?_⟩; have J := zK (Marks.Turned.block hb (zM l) (by decide)); have L := zK (Marks.Turned.R hb (zkR q) (fun k_ e_ o_ => (o_.1.1.1.1.1.2) e_)); have M := zK (Marks.Turned.R hb (zkR u) (fun k_ e_ o_ => (o_.1.1.1.1.2) e_)); have O := zK (Marks.Turned.block hb (zM y) (by decide)); have X := zK (Marks.Turned.R hb (zkR z) (fun k_ e_ o_ => (o_.1.1.1.2) e_)); have b0 := zK (Marks.Turned.R hb (zkR B) (fun k_ e_ o_ => (o_.1.1.2) e_)); have d0 := zK (Marks.Turned.R hb (zkR a0) (fun k_ e_ o_ => (o_.2) e_)); have e0 := zK (Marks.Turned.below hb zB); revert J L M O X b0 d0 e0; clear l q u y z B a0 HB A E l0; intro l q u y z B a0 HB) | ((with_reducible refine gc 24 rfl ?_); refine zF 53 Try.func24 #[.slice p1 T.length q1, .int .i64 N0] rfl zL ?_; (with_reducible refine (laws_markIntS.calls k (fun k_ => some k_ = (.slice p1 T.length q1 : Value).ownBlock) (.slice p1 T.length q1) T N0 l4 X4 w _ ?side1 ?side2 F5.out).mono ?_); (case side1 => repeat (first | (with_reducible first | exact HB.out | apply zb | apply zw | apply ze | refine zs ?_ U0.out | refine zs ?_ V0.out) | exact HB.out)); (case side2 => exact Kd.R_tight rfl z.out); rintro e b8o ⟨rfl, S0, hb, hkp⟩; refine ⟨_, rfl, ?_⟩; have J := zK (blk_kept (zM l) hkp (fun hs_ => (fun e_ => (Kd.R_ne z.out l.out (by decide)) e_) hs_)); have L := zK (Kd.R_mono (ok' := fun k_ => some k_ ≠ (.slice l2 c0.length m2 : Value).ownBlock ∧ some k_ ≠ (.slice p1 T.length q1 : Value).ownBlock ∧ some k_ ≠ (.slice t1 U.length x1 : Value).ownBlock ∧ some k_ ≠ (.slice M3 o0.length N3 : Value).ownBlock) (Kd.R_keptB (q.out) hkp (fun k_ hk_ hs_ => (hk_.1.1.2) hs_)) (fun k_ hk_ => ⟨hk_.1.1.1.1.2, hk_.1.1.1.2, hk_.1.1.2, hk_.1.2⟩)); have M := zK (Kd.R_mono (ok' := fun k_ => some k_ ≠ (.slice i2 f0.length j2 : Value).ownBlock ∧ some k_ ≠ (.slice p1 T.length q1 : Value).ownBlock ∧ some k_ ≠ (.slice t1 U.length x1 : Value).ownBlock ∧ some k_ ≠ (.slice M3 o0.length N3 : Value).ownBlock) (Kd.R_keptB (u.out) hkp (fun k_ hk_ hs_ => (hk_.1.1.2) hs_)) (fun k_ hk_ => ⟨hk_.1.1.1.1.2, hk_.1.1.1.2, hk_.1.1.2, hk_.1.2⟩)); have O := zK (blk_kept (zM y) hkp (fun hs_ => (fun e_ => (Kd.R_ne z.out y.out (by decide)) e_) hs_)); have X := zK (Kd.R_reok rfl S0 (fun k_ e_ => z.out.1 k_ e_)); have b0 := zK (Kd.R_mono (ok' := fun k_ => some k_ ≠ (.slice i2 f0.length j2 : Value).ownBlock ∧ some k_ ≠ (.slice l2 c0.length m2 : Value).ownBlock ∧ some k_ ≠ (.slice p1 T.length q1 : Value).ownBlock ∧ some k_ ≠ (.slice M3 o0.length N3 : Value).ownBlock) (Kd.R_keptB (B.out) hkp (fun k_ hk_ hs_ => (hk_.1.2) hs_)) (fun k_ hk_ => ⟨hk_.1.1.1.1.2, hk_.1.1.1.2, hk_.1.1.2, hk_.1.2⟩)); have d0 := zK (Kd.R_mono (ok' := fun k_ => some k_ ≠ (.slice i2 f0.length j2 : Value).ownBlock ∧ some k_ ≠ (.slice l2 c0.length m2 : Value).ownBlock ∧ some k_ ≠ (.slice p1 T.length q1 : Value).ownBlock ∧ some k_ ≠ (.slice t1 U.length x1 : Value).ownBlock) (Kd.R_keptB (a0.out) hkp (fun k_ hk_ hs_ => (hk_.1.2) hs_)) (fun k_ hk_ => ⟨hk_.1.1.1.1.2, hk_.1.1.1.2, hk_.1.1.2, hk_.1.2⟩)); have e0 := zK (hb); revert J L M O X b0 d0 e0; clear l q u y z B a0 HB; intro l q u y z B a0 HB; (try clear hkp); (try clear S0)) | (go_at_call 22; (with_reducible refine (laws_eqIntS.calls k _ _ U _ _ c0 true _ ?side1 ?side2 ?side3 ?side4 b6.out).mono ?_); (case side1 => exact zC (Kd.R_reads' B.out).2.2); (case side2 => exact (Kd.R_reads' B.out).2.1); (case side3 => exact zC (Kd.R_reads' u.out).2.2); (case side4 => exact (Kd.R_reads' u.out).2.1); rintro e w' ⟨rfl, ⟨nd, rfl⟩⟩) | ((with_reducible refine gc 24 rfl ?_); refine zF 64 Try.func24 #[.slice t1 U.length x1, .int .i64 1] rfl zL ?_; (with_reducible refine (laws_markIntS.calls k (fun k_ => some k_ = (.slice t1 U.length x1 : Value).ownBlock) (.slice t1 U.length x1) U 1 C3 G0 w _ ?side1 ?side2 g6.out).mono ?_); (case side1 => repeat (first | (with_reducible first | exact HB.out | apply zb | apply zw | apply ze | refine zs ?_ U0.out | refine zs ?_ V0.out) | exact HB.out)); (case side2 => exact Kd.R_tight rfl B.out); rintro e b8p ⟨rfl, S0, hb, hkp⟩; refine ⟨_, rfl, ?_⟩; have J := zK (blk_kept (zM l) hkp (fun hs_ => (fun e_ => (Kd.R_ne B.out l.out (by decide)) e_) hs_)); have L := zK (Kd.R_mono (ok' := fun k_ => some k_ ≠ (.slice l2 c0.length m2 : Value).ownBlock ∧ some k_ ≠ (.slice p1 T.length q1 : Value).ownBlock ∧ some k_ ≠ (.slice t1 U.length x1 : Value).ownBlock ∧ some k_ ≠ (.slice M3 o0.length N3 : Value).ownBlock) (Kd.R_keptB (q.out) hkp (fun k_ hk_ hs_ => (hk_.2.2.1) hs_)) (fun k_ hk_ => ⟨hk_.1.1, hk_.1.2.1, hk_.1.2.2.1, hk_.1.2.2.2⟩)); have M := zK (Kd.R_mono (ok' := fun k_ => some k_ ≠ (.slice i2 f0.length j2 : Value).ownBlock ∧ some k_ ≠ (.slice p1 T.length q1 : Value).ownBlock ∧ some k_ ≠ (.slice t1 U.length x1 : Value).ownBlock ∧ some k_ ≠ (.slice M3 o0.length N3 : Value).ownBlock) (Kd.R_keptB (u.out) hkp (fun k_ hk_ hs_ => (hk_.2.2.1) hs_)) (fun k_ hk_ => ⟨hk_.1.1, hk_.1.2.1, hk_.1.2.2.1, hk_.1.2.2.2⟩)); have O := zK (blk_kept (zM y) hkp (fun hs_ => (fun e_ => (Kd.R_ne B.out y.out (by decide)) e_) hs_)); have X := zK (Kd.R_mono (ok' := fun k_ => some k_ ≠ (.slice i2 f0.length j2 : Value).ownBlock ∧ some k_ ≠ (.slice l2 c0.length m2 : Value).ownBlock ∧ some k_ ≠ (.slice t1 U.length x1 : Value).ownBlock ∧ some k_ ≠ (.slice M3 o0.length N3 : Value).ownBlock) (Kd.R_keptB (z.out) hkp (fun k_ hk_ hs_ => (hk_.1.2) hs_)) (fun k_ hk_ => ⟨hk_.1.1.1.1.2, hk_.1.1.1.2, hk_.1.1.2, hk_.1.2⟩)); have b0 := zK (Kd.R_reok rfl S0 (fun k_ e_ => B.out.1 k_ e_)); have d0 := zK (Kd.R_mono (ok' := fun k_ => some k_ ≠ (.slice i2 f0.length j2 : Value).ownBlock ∧ some k_ ≠ (.slice l2 c0.length m2 : Value).ownBlock ∧ some k_ ≠ (.slice p1 T.length q1 : Value).ownBlock ∧ some k_ ≠ (.slice t1 U.length x1 : Value).ownBlock) (Kd.R_keptB (a0.out) hkp (fun k_ hk_ hs_ => (hk_.2.2.2) hs_)) (fun k_ hk_ => ⟨hk_.1.1, hk_.1.2.1, hk_.1.2.2.1, hk_.1.2.2.2⟩)); have e0 := zK (hb); revert J L M O X b0 d0 e0; clear l q u y z B a0 HB; intro l q u y z B a0 HB; (try clear hkp); (try clear S0)) | ((with_reducible refine gc 25 rfl ?_); refine zF 67 Try.func25 #[.slice t1 G0.length x1, .int .i64 1] rfl (by (try simp only [List.map_toArray, List.map_cons, List.map_nil]); first | done | (rw [show G0.length = U.length from (Kd.R_reads' B.out).1.symm] <;> rfl) | rfl | (simp only [List.length_drop, List.length_take]; rfl)) ?_; (with_reducible refine (laws_heldIntS.calls k _ _ G0 1 X0 _ ?side1 ?side2 i6.out).mono ?_); (case side1 => exact zC (Kd.R_reads' B.out).2.2); (case side2 => rw [show G0.length = U.length from (Kd.R_reads' B.out).1.symm]; exact (Kd.R_reads' B.out).2.1); rintro e w' ⟨rfl, ⟨nd, rfl⟩⟩; refine ⟨_, rfl, ?_⟩))
   go_ret
   exact ⟨zE, zB⟩
 rotate_right
 rw [if_pos d6] at H
 have T8 := beq_iff_eq.mpr d6
 have U8 := bne_eq_false_iff_eq.mpr d6
 clear d6
 replace H := z6 H
 obtain ⟨⟨f3, g3⟩, U7, H⟩ := H
 replace H : ((laws_toIntS.f k l1).bind fun a1 => ((impl_Weights.f k f3 g3 a1).bind fun b1 => ((laws_eqIntS.f k b1 c0).bind fun G2 => (if G2 = true then ((laws_heldIntS.f k G0 1).bind fun d1 => (if d1 < 0 then (some false) else (if d1 = C3 then (some true) else (some false)))) else (some false))))) = some r := H
 have R6 := zK U7
 clear U7
 replace H := z6 H
 obtain ⟨a1, V7, H⟩ := H
 have S6 := zK V7
 clear V7
 replace H := z6 H
 obtain ⟨b1, X7, H⟩ := H
 have T6 := zK X7
 clear X7
 replace H := z6 H
 obtain ⟨G2, a8, H⟩ := H
 have U6 := zK a8
 clear a8
 by_cases V6 : G2 = true
 rotate_left
 · as_aux_lemma =>
   replace V6 := Bool.eq_false_iff.mpr V6
   subst V6
   rw [if_neg (show ¬ (false = true) by decide)] at H
   obtain rfl := z5 H
   go_enter Try.func6, Try.ntmps6
   try go_wp2_with (first | ((with_reducible refine gd 2 rfl ?_); refine zJ 2 #[.int .i64 i0, .slice p0 g0.length q0] 24 ?_; intro C0 hg b8q hbox hb; have J := z8 hb; have L := zK (hbox); have M := z9 hg; have O := z9 hg; revert J L M O; clear HB; intro HB l n3 U0; clear hb hbox hg; obtain ⟨a6z, a7a, a7b, a7c⟩ := zc2 l) | ((with_reducible refine gc 7 rfl ?_); refine zF 19 Try.func7 #[.agg #[.int .i64 i0, .slice p0 g0.length q0], .int .i64 1048576] rfl zL ?_; refine (laws_szLm.calls k i0 _ _ g0 1048576 X2 _ (zS A0) B0.out A5.out).mono ?_; rintro e b8s ⟨rfl, hb⟩; refine ⟨_, rfl, ?_⟩; have J := z7 l hb; have L := z8 hb; revert J L; clear l HB; intro l HB; obtain ⟨a7d, a7e, a7f, a7g⟩ := zc2 l) | ((with_reducible refine gc 9 rfl ?_); refine zF 23 Try.func9 #[.agg #[.int .i64 i0, .slice p0 g0.length q0]] rfl zL ?_; refine (laws_toLm.calls k i0 _ _ g0 O0 x0 _ (zS A0) B0.out g5.out).mono ?_; rintro e b8t ⟨v266, rfl, I, hb⟩; refine ⟨_, rfl, ?_⟩; have J := zK (Kd.S_lower I (zz zB)); have L := z7 l hb; have M := z8 hb; revert J L M; clear l HB; intro A l HB) | ((with_reducible refine gc 20 rfl ?_); refine zF 25 Try.func20 #[.slice A1 l1.length c1] rfl zL ?_; refine (laws_toIntS.calls k _ _ l1 f0 _ (zS n1) o1.out i5.out).mono ?_; rintro e b8u ⟨v269, rfl, I, hb⟩; refine ⟨_, rfl, ?_⟩; have J := zK (Kd.S_elder' (zkS A) (Kd.R_base I) hb); have L := zK (Kd.R_lower I (zz zB)); have M := z7 l hb; have O := z8 hb; revert J L M O; clear A l HB; intro A q l HB; obtain ⟨M5, N5, f9⟩ := Kd.S_slice A.out; subst f9; obtain ⟨n2, o2, g9⟩ := Kd.R_slice q.out; subst g9) | ((with_reducible refine gc 19 rfl ?_); refine zF 26 Try.func19 #[.agg #[.int .i64 O0, .slice M5 x0.length N5], .slice n2 f0.length o2] rfl zL ?_; refine (spec_Weights.calls k O0 _ _ x0 _ _ f0 c0 _ (zC (Kd.S_reads' A.out).2.2) ((Kd.S_reads' A.out).2.1) (zC (Kd.R_reads' q.out).2.2) ((Kd.R_reads' q.out).2.1) j5.out).mono ?_; rintro e b8x ⟨v272, rfl, I, hb⟩; refine ⟨_, rfl, ?_⟩; have J := zK (Kd.S_elder' (zkS A) (Kd.R_base I) hb); have L := zK (Kd.R_elder' (zkR q) (Kd.R_base I) hb); have M := zK (Kd.R_lower (Kd.R_new' I (Kd.R_lt (zkR q))) (zz zB)); have O := z7 l hb; have X := z8 hb; revert J L M O X; clear A q l HB; intro A q u l HB; obtain ⟨a7j, a7l, a7m, a7n⟩ := zc2 l) | ((with_reducible refine gc 9 rfl ?_); refine zF 28 Try.func9 #[.agg #[.int .i64 i0, .slice p0 g0.length q0]] rfl zL ?_; refine (laws_toLm.calls k i0 _ _ g0 n0 j0 _ (zS A0) B0.out l5.out).mono ?_; rintro e b8y ⟨v276, rfl, I, hb⟩; refine ⟨_, rfl, ?_⟩; have J := zK (Kd.S_elder' (zkS A) (Kd.S_base I) hb); have L := zK (Kd.R_below (zkR q) hb); have M := zK (Kd.R_below (zkR u) hb); have O := zK (Kd.S_lower (Kd.S_new' (Kd.S_new' (Kd.S_new' I (Kd.S_lt (zkS A))) (Kd.R_lt (zkR q))) (Kd.R_lt (zkR u))) (zz zB)); have X := z7 l hb; have b0 := z8 hb; revert J L M O X b0; clear A q u l HB; intro A q u E l HB) | ((with_reducible refine gd 7 rfl ?_); refine zJ 7 #[.int .i64 0, .slice none 0 0] 29 ?_; intro y0 hg b8z hbox hb; have J := zK (Kd.S_below (zkS A) hb); have L := zK (Kd.R_below (zkR q) hb); have M := zK (Kd.R_below (zkR u) hb); have O := zK (Kd.S_below (zkS E) hb); have X := z7 l hb; have b0 := z8 hb; have d0 := zK (hbox); have e0 := z9 hg; have m0 := z9 hg; have t0 := zHH hg l; have F0 := zGG hg l; revert J L M O X b0 d0 e0 m0 t0 F0; clear A q u E l HB; intro A q u E l HB y o3 V0 I0 J0; clear hb hbox hg; have b5j := J0.out; have b5l := I0.out; obtain ⟨a7o, a7p, a7q, a7s⟩ := zc2 y; obtain ⟨O3, R3, i9⟩ := Kd.S_slice E.out; subst i9) | ((with_reducible refine gc 20 rfl ?_); refine zF 30 Try.func20 #[.slice A1 l1.length c1] rfl zL ?_; refine (laws_toIntS.calls k _ _ l1 T _ (z4 n1.out zB) o1.out m5.out).mono ?_; rintro e b9a ⟨v280, rfl, I, hb⟩; refine ⟨_, rfl, ?_⟩; have J := zK (Kd.S_elder' (Kd.S_mono (zlS (Kd.S_types A.out y.out (by decide))) (fun _ h_ => h_.1)) (Kd.R_base I) hb); have L := zK (Kd.R_elder' (Kd.R_mono (zlR (Kd.R_types q.out y.out (by decide))) (fun _ h_ => h_.1)) (Kd.R_base I) hb); have M := zK (Kd.R_elder' (Kd.R_mono (zlR (Kd.R_types u.out y.out (by decide))) (fun _ h_ => h_.1)) (Kd.R_base I) hb); have O := zK (Kd.S_elder' (Kd.S_mono (zlS (Kd.S_types E.out y.out (by decide))) (fun _ h_ => h_.1)) (Kd.R_base I) hb); have X := zK (Kd.R_lower (Kd.R_new' (Kd.R_new' I (Kd.R_lt (Kd.R_mono (zlR (Kd.R_types q.out y.out (by decide))) (fun _ h_ => h_.1)))) (Kd.R_lt (Kd.R_mono (zlR (Kd.R_types u.out y.out (by decide))) (fun _ h_ => h_.1)))) (zz zB)); have b0 := zK (zg (zV l) hb); have d0 := zK (zg (g := y0) (o := .cells #[.int .i64 n0, .slice O3 j0.length R3] 29 (0, 0)) (zW y) hb); have e0 := z8 hb; revert J L M O X b0 d0 e0; clear A q u E l y HB; intro A q u E z l y HB; obtain ⟨a7t, a7u, a7x, a7y⟩ := zc2 y; obtain ⟨y1, B1, j9⟩ := Kd.R_slice z.out; subst j9) | ((with_reducible refine gc 21 rfl ?_); refine zF 33 Try.func21 #[.agg #[.int .i64 n0, .slice O3 j0.length R3], .slice y1 T.length B1] rfl zL ?_; refine (impl_Weights.calls k n0 _ _ j0 _ _ T U _ (zC (Kd.S_reads' E.out).2.2) ((Kd.S_reads' E.out).2.1) (zC (Kd.R_reads' z.out).2.2) ((Kd.R_reads' z.out).2.1) n5.out).mono ?_; rintro e i3 ⟨v283, rfl, I, hb⟩; refine ⟨_, rfl, ?_⟩; have J := zK (Kd.S_elder' (zkS A) (Kd.R_base I) hb); have L := zK (Kd.R_elder' (zkR q) (Kd.R_base I) hb); have M := zK (Kd.R_elder' (zkR u) (Kd.R_base I) hb); have O := zK (Kd.S_elder' (zkS E) (Kd.R_base I) hb); have X := zK (Kd.R_elder' (zkR z) (Kd.R_base I) hb); have b0 := zK (Kd.R_lower (Kd.R_new' (Kd.R_new' (Kd.R_new' I (Kd.R_lt (zkR q))) (Kd.R_lt (zkR u))) (Kd.R_lt (zkR z))) (zz zB)); have d0 := z7 l hb; have e0 := z7 y hb; have m0 := z8 hb; revert J L M O X b0 d0 e0 m0; clear A q u E z l y HB; intro A q u E z B l y HB; obtain ⟨C1, D1, l9⟩ := Kd.R_slice B.out; subst l9; obtain ⟨V1, X1, m9⟩ := Kd.R_slice u.out; subst m9) | ((with_reducible refine gc 22 rfl ?_); refine zF 36 Try.func22 #[.slice C1 U.length D1, .slice V1 c0.length X1] rfl zL ?_; refine (laws_eqIntS.calls k _ _ U _ _ c0 true _ (zC (Kd.R_reads' B.out).2.2) ((Kd.R_reads' B.out).2.1) (zC (Kd.R_reads' u.out).2.2) ((Kd.R_reads' u.out).2.1) o5.out).mono ?_; rintro e w' ⟨rfl, ⟨nd, rfl⟩⟩; refine ⟨_, rfl, ?_⟩))
   (try (rw [drewN_self i3]; generalize hq_ : World.drewN i3 _ = i3; have J : Aside0 (Kd.S k57 57 i3 w.heap.size (fun k_ => (((((True ∧ some k_ ≠ (.slice n2 f0.length o2 : Value).ownBlock) ∧ some k_ ≠ (.slice V1 c0.length X1 : Value).ownBlock) ∧ some k_ ≠ (.slice O3 j0.length R3 : Value).ownBlock) ∧ some k_ ≠ (.slice y1 T.length B1 : Value).ownBlock) ∧ some k_ ≠ (.slice C1 U.length D1 : Value).ownBlock)) (.slice M5 x0.length N5) x0) := ⟨by rw [← hq_]; exact zkS A⟩; have L : Aside0 (Kd.R (Kd.int .i64) 3 i3 w.heap.size (fun k_ => (((True ∧ some k_ ≠ (.slice V1 c0.length X1 : Value).ownBlock) ∧ some k_ ≠ (.slice y1 T.length B1 : Value).ownBlock) ∧ some k_ ≠ (.slice C1 U.length D1 : Value).ownBlock)) (.slice n2 f0.length o2) f0) := ⟨by rw [← hq_]; exact zkR q⟩; have M : Aside0 (Kd.R (Kd.int .i64) 3 i3 w.heap.size (fun k_ => (((True ∧ some k_ ≠ (.slice n2 f0.length o2 : Value).ownBlock) ∧ some k_ ≠ (.slice y1 T.length B1 : Value).ownBlock) ∧ some k_ ≠ (.slice C1 U.length D1 : Value).ownBlock)) (.slice V1 c0.length X1) c0) := ⟨by rw [← hq_]; exact zkR u⟩; have O : Aside0 (Kd.S k57 57 i3 w.heap.size (fun k_ => (((((True ∧ some k_ ≠ (.slice M5 x0.length N5 : Value).ownBlock) ∧ some k_ ≠ (.slice n2 f0.length o2 : Value).ownBlock) ∧ some k_ ≠ (.slice V1 c0.length X1 : Value).ownBlock) ∧ some k_ ≠ (.slice y1 T.length B1 : Value).ownBlock) ∧ some k_ ≠ (.slice C1 U.length D1 : Value).ownBlock)) (.slice O3 j0.length R3) j0) := ⟨by rw [← hq_]; exact zkS E⟩; have X : Aside0 (Kd.R (Kd.int .i64) 3 i3 w.heap.size (fun k_ => (((True ∧ some k_ ≠ (.slice n2 f0.length o2 : Value).ownBlock) ∧ some k_ ≠ (.slice V1 c0.length X1 : Value).ownBlock) ∧ some k_ ≠ (.slice C1 U.length D1 : Value).ownBlock)) (.slice y1 T.length B1) T) := ⟨by rw [← hq_]; exact zkR z⟩; have b0 : Aside0 (Kd.R (Kd.int .i64) 3 i3 w.heap.size (fun k_ => (((True ∧ some k_ ≠ (.slice n2 f0.length o2 : Value).ownBlock) ∧ some k_ ≠ (.slice V1 c0.length X1 : Value).ownBlock) ∧ some k_ ≠ (.slice y1 T.length B1 : Value).ownBlock)) (.slice C1 U.length D1) U) := ⟨by rw [← hq_]; exact zkR B⟩; have d0 : Aside0 (i3.heap[C0]? = some (.cells #[.int .i64 i0, .slice p0 g0.length q0] 24 (0, 0))) := ⟨by rw [← hq_]; exact (zM l)⟩; have e0 : Aside0 (i3.heap[y0]? = some (.cells #[.int .i64 n0, .slice O3 j0.length R3] 29 (0, 0))) := ⟨by rw [← hq_]; exact (zM y)⟩; have m0 : Aside0 (Below w.heap.size w i3) := ⟨by rw [← hq_]; exact zB⟩; clear A q u E z B l y HB hq_; revert J L M O X b0 d0 e0 m0; intro A q u E z B l y HB))
   have J := zK (Kd.S_drew A.out)
   have L := zK (Kd.R_drew q.out)
   have M := zK (Kd.R_drew u.out)
   have O := zK (Kd.S_drew E.out)
   have X := zK (Kd.R_drew z.out)
   have b0 := zK (Kd.R_drew B.out)
   have d0 := zK (zd l.out)
   have e0 := zK (zd y.out)
   have m0 := zK (ze HB.out)
   revert J L M O X b0 d0 e0 m0
   clear A q u E z B l y HB
   intro A q u E z B l y HB
   refine start_ (n := 5) (S := fun w' => w'.cell? ⟨y0, 0, none⟩ = some (.int .i64 n0) ∧ w'.cell? ⟨y0, 1, none⟩ = some (.slice O3 j0.length R3) ∧ w'.cell? ⟨C0, 0, none⟩ = some (.int .i64 i0) ∧ w'.cell? ⟨C0, 1, none⟩ = some (.slice p0 g0.length q0)) (ds := []) (bl 5 0) (by kernel_rfl) rfl (by kernel_rfl) ⟨zy y 0, zy y 1, zy l 0, zy l 1⟩ (fun hHeld => ?_)
   generalize i3.drew = b9b at A q u E z B l y HB hHeld ⊢
   refine take_ (i := 0) (N := some 38) (v := ?_) (a' := ?_) (bl 5 1) rfl rfl (by kernel_rfl) (fun _ _ _ h => h) (Or.inl ⟨by rfl, ?_⟩) hHeld ?_ ?_
   rotate_left
   · rintro w' ⟨s0, s1, s2, s3⟩
     go_simp
     with_reducible rfl
   rotate_left
   · simp only [Act.put, zq1, zq2, zq3, i64_w, i32_w]
     rfl
   refine take_ (i := 1) (N := some 39) (v := ?_) (a' := ?_) (bl 5 3) rfl rfl (by kernel_rfl) (fun _ _ _ h => h) (Or.inl ⟨by rfl, ?_⟩) hHeld ?_ ?_
   rotate_left
   · rintro w' ⟨s0, s1, s2, s3⟩
     go_simp
     with_reducible rfl
   rotate_left
   · simp only [Act.put, zq1, zq2, zq3, i64_w, i32_w]
     rfl
   refine one_ (i := 2) (N := some 40) (bl 5 7) rfl rfl (by kernel_rfl) (by decide) (fun K hK => ?_)
   refine goes_ Try.func9 (by kernel_rfl) rfl #[.agg #[.int .i64 i0, .slice p0 g0.length q0]] (by rfl) rfl rfl zL ?_
   refine (laws_toLm.calls k i0 _ _ g0 R0 L0 _ (zS A0) B0.out p5.out).mono ?_
   rintro e b9c ⟨v288, rfl, I, hb⟩
   refine ⟨_, rfl, ?_⟩
   have J := zK (Kd.S_elder' (zkS A) (Kd.S_base I) hb)
   have L := zK (Kd.R_below (zkR q) hb)
   have M := zK (Kd.R_below (zkR u) hb)
   have O := zK (Kd.S_elder' (zkS E) (Kd.S_base I) hb)
   have X := zK (Kd.R_below (zkR z) hb)
   have b0 := zK (Kd.R_below (zkR B) hb)
   have d0 := zK (Kd.S_lower (Kd.S_new' (Kd.S_new' (Kd.S_new' (Kd.S_new' (Kd.S_new' (Kd.S_new' I (Kd.S_lt (zkS A))) (Kd.R_lt (zkR q))) (Kd.R_lt (zkR u))) (Kd.S_lt (zkS E))) (Kd.R_lt (zkR z))) (Kd.R_lt (zkR B))) (zz zB))
   have e0 := z7 l hb
   have m0 := z7 y hb
   have t0 := z8 hb
   revert J L M O X b0 d0 e0 m0 t0
   clear A q u E z B l y HB
   intro A q u E z B l0 l y HB
   (try clear hb)
   (try clear hb2)
   (try clear hk)
   (try clear hi)
   (try clear I)
   obtain ⟨X6, a7, b7⟩ := Kd.S_slice l0.out
   (first | subst b7 | (injection b7 with f1_ f2_ f3_; have f4_ := f1_.symm; have f5_ := f3_.symm; clear f1_ f2_ f3_; subst f4_; subst f5_))
   refine hK.out _ _ ⟨zy y 0, zy y 1, zy l 0, zy l 1⟩ (fun hHeld => ?_)
   clear hK K
   refine zU 40 ?_
   refine one_ (i := 3) (N := some 41) (bl 5 15) rfl rfl (by kernel_rfl) (by decide) (fun K hK => ?_)
   refine goes_ Try.func11 (by kernel_rfl) rfl #[.agg #[.int .i64 n0, .slice O3 j0.length R3], .agg #[.int .i64 R0, .slice X6 L0.length a7]] (by rfl) rfl rfl zL ?_
   refine (laws_eqLm.calls k n0 _ _ j0 R0 _ _ L0 true _ (zC (Kd.S_reads' E.out).2.2) ((Kd.S_reads' E.out).2.1) (zC (Kd.S_reads' l0.out).2.2) ((Kd.S_reads' l0.out).2.1) q5.out).mono ?_
   rintro e b9d ⟨rfl, hb⟩
   refine ⟨_, rfl, ?_⟩
   have J := zK (Kd.S_below (zkS A) hb)
   have L := zK (Kd.R_below (zkR q) hb)
   have M := zK (Kd.R_below (zkR u) hb)
   have O := zK (Kd.S_below (zkS E) hb)
   have X := zK (Kd.R_below (zkR z) hb)
   have b0 := zK (Kd.R_below (zkR B) hb)
   have d0 := zK (Kd.S_below (zkS l0) hb)
   have e0 := z7 l hb
   have m0 := z7 y hb
   have t0 := z8 hb
   revert J L M O X b0 d0 e0 m0 t0
   clear A q u E z B l0 l y HB
   intro A q u E z B l0 l y HB
   (try clear hb)
   (try clear hb2)
   (try clear hk)
   (try clear hi)
   refine hK.out _ _ ⟨zy y 0, zy y 1, zy l 0, zy l 1⟩ (fun hHeld => ?_)
   clear hK K
   refine zU 41 ?_
   refine pure_ (i := 4) (N := some 42) (v := ?_) (a' := ?_) (bl 5 31) rfl rfl (by kernel_rfl) (fun _ _ _ h => h) (Or.inl ⟨by rfl, ?_⟩) ?_ ?_
   rotate_left
   · intro w'
     go_simp
     with_reducible rfl
   rotate_left
   · simp only [Act.put, zq1, zq2, zq3, i64_w, i32_w]
     rfl
   refine done_ (by kernel_rfl) ?_
   try go_wp2_with (first | ((with_reducible refine gc 20 rfl ?_); refine zF 45 Try.func20 #[.slice A1 l1.length c1] rfl zL ?_; refine (laws_toIntS.calls k _ _ l1 o0 _ (zS n1) o1.out x5.out).mono ?_; rintro e b9e ⟨v292, rfl, I, hb⟩; refine ⟨_, rfl, ?_⟩; have J := zK (Kd.S_elder' (zkS A) (Kd.R_base I) hb); have L := zK (Kd.R_elder' (zkR q) (Kd.R_base I) hb); have M := zK (Kd.R_elder' (zkR u) (Kd.R_base I) hb); have O := zK (Kd.S_elder' (zkS E) (Kd.R_base I) hb); have X := zK (Kd.R_elder' (zkR z) (Kd.R_base I) hb); have b0 := zK (Kd.R_elder' (zkR B) (Kd.R_base I) hb); have d0 := zK (Kd.S_elder' (zkS l0) (Kd.R_base I) hb); have e0 := zK (Kd.R_lower (Kd.R_new' (Kd.R_new' (Kd.R_new' (Kd.R_new' I (Kd.R_lt (zkR q))) (Kd.R_lt (zkR u))) (Kd.R_lt (zkR z))) (Kd.R_lt (zkR B))) (zz zB)); have m0 := z7 l hb; have t0 := z7 y hb; have F0 := z8 hb; revert J L M O X b0 d0 e0 m0 t0 F0; clear A q u E z B l0 l y HB; intro A q u E z B l0 a0 l y HB; obtain ⟨S3, T3, n9⟩ := Kd.R_slice a0.out; subst n9) | ((with_reducible refine gc 22 rfl ?_); refine zF 46 Try.func22 #[.slice y1 T.length B1, .slice S3 o0.length T3] rfl zL ?_; refine (laws_eqIntS.calls k _ _ T _ _ o0 true _ (zC (Kd.R_reads' z.out).2.2) ((Kd.R_reads' z.out).2.1) (zC (Kd.R_reads' a0.out).2.2) ((Kd.R_reads' a0.out).2.1) y5.out).mono ?_; rintro e w' ⟨rfl, ⟨nd, rfl⟩⟩; refine ⟨_, rfl, ?_⟩; obtain ⟨a7z, a8a, a8b, a8c⟩ := zc2 y) | ((with_reducible refine gc 23 rfl ?_); refine zF 50 Try.func23 #[.agg #[.int .i64 n0, .slice O3 j0.length R3], .int .i64 1] rfl zL ?_; (with_reducible refine (Marks.markLm_E (fun k_ => (((((((True ∧ some k_ ≠ (.slice M5 x0.length N5 : Value).ownBlock) ∧ some k_ ≠ (.slice n2 f0.length o2 : Value).ownBlock) ∧ some k_ ≠ (.slice V1 c0.length X1 : Value).ownBlock) ∧ some k_ ≠ (.slice y1 T.length B1 : Value).ownBlock) ∧ some k_ ≠ (.slice C1 U.length D1 : Value).ownBlock) ∧ some k_ ≠ (.slice X6 L0.length a7 : Value).ownBlock) ∧ some k_ ≠ (.slice S3 o0.length T3 : Value).ownBlock)) n0 j0 1 N0 w.heap.size _ ?side1 ?side2).mono ?_); (case side1 => exact Kd.S_R (zkS E)); (case side2 => exact E5.out); rintro e b9f ⟨rfl, hb⟩; refine ⟨_, rfl, ?_⟩; have J := zK (Marks.Turned.block hb (zM l) (by decide)); have L := zK (Marks.Turned.R hb (zkR q) (fun k_ e_ o_ => (o_.1.1.1.1.1.2) e_)); have M := zK (Marks.Turned.R hb (zkR u) (fun k_ e_ o_ => (o_.1.1.1.1.2) e_)); have O := zK (Marks.Turned.block hb (zM y) (by decide)); have X := zK (Marks.Turned.R hb (zkR z) (fun k_ e_ o_ => (o_.1.1.1.2) e_)); have b0 := zK (Marks.Turned.R hb (zkR B) (fun k_ e_ o_ => (o_.1.1.2) e_)); have d0 := zK (Marks.Turned.R hb (zkR a0) (fun k_ e_ o_ => (o_.2) e_)); have e0 := zK (Marks.Turned.below hb zB); revert J L M O X b0 d0 e0; clear l q u y z B a0 HB A E l0; intro l q u y z B a0 HB) | ((with_reducible refine gc 24 rfl ?_); refine zF 53 Try.func24 #[.slice y1 T.length B1, .int .i64 N0] rfl zL ?_; (with_reducible refine (laws_markIntS.calls k (fun k_ => some k_ = (.slice y1 T.length B1 : Value).ownBlock) (.slice y1 T.length B1) T N0 l4 X4 w _ ?side1 ?side2 F5.out).mono ?_); (case side1 => repeat (first | (with_reducible first | exact HB.out | apply zb | apply zw | apply ze | refine zs ?_ U0.out | refine zs ?_ V0.out) | exact HB.out)); (case side2 => exact Kd.R_tight rfl z.out); rintro e b9g ⟨rfl, S0, hb, hkp⟩; refine ⟨_, rfl, ?_⟩; have J := zK (blk_kept (zM l) hkp (fun hs_ => (fun e_ => (Kd.R_ne z.out l.out (by decide)) e_) hs_)); have L := zK (Kd.R_mono (ok' := fun k_ => some k_ ≠ (.slice V1 c0.length X1 : Value).ownBlock ∧ some k_ ≠ (.slice y1 T.length B1 : Value).ownBlock ∧ some k_ ≠ (.slice C1 U.length D1 : Value).ownBlock ∧ some k_ ≠ (.slice S3 o0.length T3 : Value).ownBlock) (Kd.R_keptB (q.out) hkp (fun k_ hk_ hs_ => (hk_.1.1.2) hs_)) (fun k_ hk_ => ⟨hk_.1.1.1.1.2, hk_.1.1.1.2, hk_.1.1.2, hk_.1.2⟩)); have M := zK (Kd.R_mono (ok' := fun k_ => some k_ ≠ (.slice n2 f0.length o2 : Value).ownBlock ∧ some k_ ≠ (.slice y1 T.length B1 : Value).ownBlock ∧ some k_ ≠ (.slice C1 U.length D1 : Value).ownBlock ∧ some k_ ≠ (.slice S3 o0.length T3 : Value).ownBlock) (Kd.R_keptB (u.out) hkp (fun k_ hk_ hs_ => (hk_.1.1.2) hs_)) (fun k_ hk_ => ⟨hk_.1.1.1.1.2, hk_.1.1.1.2, hk_.1.1.2, hk_.1.2⟩)); have O := zK (blk_kept (zM y) hkp (fun hs_ => (fun e_ => (Kd.R_ne z.out y.out (by decide)) e_) hs_)); have X := zK (Kd.R_reok rfl S0 (fun k_ e_ => z.out.1 k_ e_)); have b0 := zK (Kd.R_mono (ok' := fun k_ => some k_ ≠ (.slice n2 f0.length o2 : Value).ownBlock ∧ some k_ ≠ (.slice V1 c0.length X1 : Value).ownBlock ∧ some k_ ≠ (.slice y1 T.length B1 : Value).ownBlock ∧ some k_ ≠ (.slice S3 o0.length T3 : Value).ownBlock) (Kd.R_keptB (B.out) hkp (fun k_ hk_ hs_ => (hk_.1.2) hs_)) (fun k_ hk_ => ⟨hk_.1.1.1.1.2, hk_.1.1.1.2, hk_.1.1.2, hk_.1.2⟩)); have d0 := zK (Kd.R_mono (ok' := fun k_ => some k_ ≠ (.slice n2 f0.length o2 : Value).ownBlock ∧ some k_ ≠ (.slice V1 c0.length X1 : Value).ownBlock ∧ some k_ ≠ (.slice y1 T.length B1 : Value).ownBlock ∧ some k_ ≠ (.slice C1 U.length D1 : Value).ownBlock) (Kd.R_keptB (a0.out) hkp (fun k_ hk_ hs_ => (hk_.1.2) hs_)) (fun k_ hk_ => ⟨hk_.1.1.1.1.2, hk_.1.1.1.2, hk_.1.1.2, hk_.1.2⟩)); have e0 := zK (hb); revert J L M O X b0 d0 e0; clear l q u y z B a0 HB; intro l q u y z B a0 HB; (try clear hkp); (try clear S0)) | (go_at_call 22; (with_reducible refine (laws_eqIntS.calls k _ _ U _ _ c0 true _ ?side1 ?side2 ?side3 ?side4 b6.out).mono ?_); (case side1 => exact zC (Kd.R_reads' B.out).2.2); (case side2 => exact (Kd.R_reads' B.out).2.1); (case side3 => exact zC (Kd.R_reads' u.out).2.2); (case side4 => exact (Kd.R_reads' u.out).2.1); rintro e w' ⟨rfl, ⟨nd, rfl⟩⟩) | ((with_reducible refine gc 24 rfl ?_); refine zF 64 Try.func24 #[.slice C1 U.length D1, .int .i64 1] rfl zL ?_; (with_reducible refine (laws_markIntS.calls k (fun k_ => some k_ = (.slice C1 U.length D1 : Value).ownBlock) (.slice C1 U.length D1) U 1 C3 G0 w _ ?side1 ?side2 g6.out).mono ?_); (case side1 => repeat (first | (with_reducible first | exact HB.out | apply zb | apply zw | apply ze | refine zs ?_ U0.out | refine zs ?_ V0.out) | exact HB.out)); (case side2 => exact Kd.R_tight rfl B.out); rintro e b9j ⟨rfl, S0, hb, hkp⟩; refine ⟨_, rfl, ?_⟩; have J := zK (blk_kept (zM l) hkp (fun hs_ => (fun e_ => (Kd.R_ne B.out l.out (by decide)) e_) hs_)); have L := zK (Kd.R_mono (ok' := fun k_ => some k_ ≠ (.slice V1 c0.length X1 : Value).ownBlock ∧ some k_ ≠ (.slice y1 T.length B1 : Value).ownBlock ∧ some k_ ≠ (.slice C1 U.length D1 : Value).ownBlock ∧ some k_ ≠ (.slice S3 o0.length T3 : Value).ownBlock) (Kd.R_keptB (q.out) hkp (fun k_ hk_ hs_ => (hk_.2.2.1) hs_)) (fun k_ hk_ => ⟨hk_.1.1, hk_.1.2.1, hk_.1.2.2.1, hk_.1.2.2.2⟩)); have M := zK (Kd.R_mono (ok' := fun k_ => some k_ ≠ (.slice n2 f0.length o2 : Value).ownBlock ∧ some k_ ≠ (.slice y1 T.length B1 : Value).ownBlock ∧ some k_ ≠ (.slice C1 U.length D1 : Value).ownBlock ∧ some k_ ≠ (.slice S3 o0.length T3 : Value).ownBlock) (Kd.R_keptB (u.out) hkp (fun k_ hk_ hs_ => (hk_.2.2.1) hs_)) (fun k_ hk_ => ⟨hk_.1.1, hk_.1.2.1, hk_.1.2.2.1, hk_.1.2.2.2⟩)); have O := zK (blk_kept (zM y) hkp (fun hs_ => (fun e_ => (Kd.R_ne B.out y.out (by decide)) e_) hs_)); have X := zK (Kd.R_mono (ok' := fun k_ => some k_ ≠ (.slice n2 f0.length o2 : Value).ownBlock ∧ some k_ ≠ (.slice V1 c0.length X1 : Value).ownBlock ∧ some k_ ≠ (.slice C1 U.length D1 : Value).ownBlock ∧ some k_ ≠ (.slice S3 o0.length T3 : Value).ownBlock) (Kd.R_keptB (z.out) hkp (fun k_ hk_ hs_ => (hk_.1.2) hs_)) (fun k_ hk_ => ⟨hk_.1.1.1.1.2, hk_.1.1.1.2, hk_.1.1.2, hk_.1.2⟩)); have b0 := zK (Kd.R_reok rfl S0 (fun k_ e_ => B.out.1 k_ e_)); have d0 := zK (Kd.R_mono (ok' := fun k_ => some k_ ≠ (.slice n2 f0.length o2 : Value).ownBlock ∧ some k_ ≠ (.slice V1 c0.length X1 : Value).ownBlock ∧ some k_ ≠ (.slice y1 T.length B1 : Value).ownBlock ∧ some k_ ≠ (.slice C1 U.length D1 : Value).ownBlock) (Kd.R_keptB (a0.out) hkp (fun k_ hk_ hs_ => (hk_.2.2.2) hs_)) (fun k_ hk_ => ⟨hk_.1.1, hk_.1.2.1, hk_.1.2.2.1, hk_.1.2.2.2⟩)); have e0 := zK (hb); revert J L M O X b0 d0 e0; clear l q u y z B a0 HB; intro l q u y z B a0 HB; (try clear hkp); (try clear S0)) | ((with_reducible refine gc 25 rfl ?_); refine zF 67 Try.func25 #[.slice C1 G0.length D1, .int .i64 1] rfl (by (try simp only [List.map_toArray, List.map_cons, List.map_nil]); first | done | (rw [show G0.length = U.length from (Kd.R_reads' B.out).1.symm] <;> rfl) | rfl | (simp only [List.length_drop, List.length_take]; rfl)) ?_; (with_reducible refine (laws_heldIntS.calls k _ _ G0 1 X0 _ ?side1 ?side2 i6.out).mono ?_); (case side1 => exact zC (Kd.R_reads' B.out).2.2); (case side2 => rw [show G0.length = U.length from (Kd.R_reads' B.out).1.symm]; exact (Kd.R_reads' B.out).2.1); rintro e w' ⟨rfl, ⟨nd, rfl⟩⟩; refine ⟨_, rfl, ?_⟩; obtain ⟨a8d, a8e, a8f, a8g⟩ := zc2 l) | ((with_reducible refine gc 9 rfl ?_); refine zF 74 Try.func9 #[.agg #[.int .i64 i0, .slice p0 g0.length q0]] rfl zL ?_; refine (laws_toLm.calls k i0 _ _ g0 f3 g3 _ (zS A0) B0.out R6.out).mono ?_; rintro e b9l ⟨v304, rfl, I, hb⟩; refine ⟨_, rfl, ?_⟩; have J := zK (Kd.R_below (zkR q) hb); have L := zK (Kd.R_below (zkR u) hb); have M := zK (Kd.R_below (zkR z) hb); have O := zK (Kd.R_below (zkR B) hb); have X := zK (Kd.R_below (zkR a0) hb); have b0 := zK (Kd.S_lower (Kd.S_new' (Kd.S_new' (Kd.S_new' (Kd.S_new' (Kd.S_new' I (Kd.R_lt (zkR q))) (Kd.R_lt (zkR u))) (Kd.R_lt (zkR z))) (Kd.R_lt (zkR B))) (Kd.R_lt (zkR a0))) (zz zB)); have d0 := z7 l hb; have e0 := z7 y hb; have m0 := z8 hb; revert J L M O X b0 d0 e0 m0; clear q u z B a0 l y HB; intro q u z B a0 D0 l y HB) | ((with_reducible refine gc 20 rfl ?_); refine zF 76 Try.func20 #[.slice A1 l1.length c1] rfl zL ?_; refine (laws_toIntS.calls k _ _ l1 a1 _ (zS n1) o1.out S6.out).mono ?_; rintro e b9m ⟨v307, rfl, I, hb⟩; refine ⟨_, rfl, ?_⟩; have J := zK (Kd.R_elder' (zkR q) (Kd.R_base I) hb); have L := zK (Kd.R_elder' (zkR u) (Kd.R_base I) hb); have M := zK (Kd.R_elder' (zkR z) (Kd.R_base I) hb); have O := zK (Kd.R_elder' (zkR B) (Kd.R_base I) hb); have X := zK (Kd.R_elder' (zkR a0) (Kd.R_base I) hb); have b0 := zK (Kd.S_elder' (zkS D0) (Kd.R_base I) hb); have d0 := zK (Kd.R_lower (Kd.R_new' (Kd.R_new' (Kd.R_new' (Kd.R_new' (Kd.R_new' I (Kd.R_lt (zkR q))) (Kd.R_lt (zkR u))) (Kd.R_lt (zkR z))) (Kd.R_lt (zkR B))) (Kd.R_lt (zkR a0))) (zz zB)); have e0 := z7 l hb; have m0 := z7 y hb; have t0 := z8 hb; revert J L M O X b0 d0 e0 m0 t0; clear q u z B a0 D0 l y HB; intro q u z B a0 D0 M0 l y HB; obtain ⟨o9, p9, q9⟩ := Kd.S_slice D0.out; subst q9; obtain ⟨s9, t9, x9⟩ := Kd.R_slice M0.out; subst x9) | ((with_reducible refine gc 21 rfl ?_); refine zF 77 Try.func21 #[.agg #[.int .i64 f3, .slice o9 g3.length p9], .slice s9 a1.length t9] rfl zL ?_; refine (impl_Weights.calls k f3 _ _ g3 _ _ a1 b1 _ (zC (Kd.S_reads' D0.out).2.2) ((Kd.S_reads' D0.out).2.1) (zC (Kd.R_reads' M0.out).2.2) ((Kd.R_reads' M0.out).2.1) T6.out).mono ?_; rintro e b9n ⟨v310, rfl, I, hb⟩; refine ⟨_, rfl, ?_⟩; have J := zK (Kd.R_elder' (zkR q) (Kd.R_base I) hb); have L := zK (Kd.R_elder' (zkR u) (Kd.R_base I) hb); have M := zK (Kd.R_elder' (zkR z) (Kd.R_base I) hb); have O := zK (Kd.R_elder' (zkR B) (Kd.R_base I) hb); have X := zK (Kd.R_elder' (zkR a0) (Kd.R_base I) hb); have b0 := zK (Kd.S_elder' (zkS D0) (Kd.R_base I) hb); have d0 := zK (Kd.R_elder' (zkR M0) (Kd.R_base I) hb); have e0 := zK (Kd.R_lower (Kd.R_new' (Kd.R_new' (Kd.R_new' (Kd.R_new' (Kd.R_new' (Kd.R_new' I (Kd.R_lt (zkR q))) (Kd.R_lt (zkR u))) (Kd.R_lt (zkR z))) (Kd.R_lt (zkR B))) (Kd.R_lt (zkR a0))) (Kd.R_lt (zkR M0))) (zz zB)); have m0 := z7 l hb; have t0 := z7 y hb; have F0 := z8 hb; revert J L M O X b0 d0 e0 m0 t0 F0; clear q u z B a0 D0 M0 l y HB; intro q u z B a0 D0 M0 a2 l y HB; obtain ⟨y9, A9, B9⟩ := Kd.R_slice a2.out; subst B9) | ((with_reducible refine gc 22 rfl ?_); refine zF 80 Try.func22 #[.slice y9 b1.length A9, .slice V1 c0.length X1] rfl zL ?_; refine (laws_eqIntS.calls k _ _ b1 _ _ c0 false _ (zC (Kd.R_reads' a2.out).2.2) ((Kd.R_reads' a2.out).2.1) (zC (Kd.R_reads' u.out).2.2) ((Kd.R_reads' u.out).2.1) U6.out).mono ?_; rintro e w' ⟨rfl, ⟨nd, rfl⟩⟩; refine ⟨_, rfl, ?_⟩))
   go_ret
   exact ⟨zE, zB⟩
 rotate_right
 subst V6
 rw [if_pos rfl] at H
 replace H := z6 H
 obtain ⟨d1, b8, H⟩ := H
 have c8 := zK b8
 clear b8
 by_cases D5 : d1 < 0
 · as_aux_lemma =>
   rw [if_pos D5] at H
   have d8 := z1 D5
   clear D5
   obtain rfl := z5 H
   go_enter Try.func6, Try.ntmps6
   try go_wp2_with (first | ((with_reducible refine gd 2 rfl ?_); refine zJ 2 #[.int .i64 i0, .slice p0 g0.length q0] 24 ?_; intro C0 hg b9o hbox hb; have J := z8 hb; have L := zK (hbox); have M := z9 hg; have O := z9 hg; revert J L M O; clear HB; intro HB l n3 U0; clear hb hbox hg; obtain ⟨a8j, a8l, a8m, a8n⟩ := zc2 l) | ((with_reducible refine gc 7 rfl ?_); refine zF 19 Try.func7 #[.agg #[.int .i64 i0, .slice p0 g0.length q0], .int .i64 1048576] rfl zL ?_; refine (laws_szLm.calls k i0 _ _ g0 1048576 X2 _ (zS A0) B0.out A5.out).mono ?_; rintro e b9p ⟨rfl, hb⟩; refine ⟨_, rfl, ?_⟩; have J := z7 l hb; have L := z8 hb; revert J L; clear l HB; intro l HB; obtain ⟨a8o, a8p, a8q, a8s⟩ := zc2 l) | ((with_reducible refine gc 9 rfl ?_); refine zF 23 Try.func9 #[.agg #[.int .i64 i0, .slice p0 g0.length q0]] rfl zL ?_; refine (laws_toLm.calls k i0 _ _ g0 O0 x0 _ (zS A0) B0.out g5.out).mono ?_; rintro e b9q ⟨v266, rfl, I, hb⟩; refine ⟨_, rfl, ?_⟩; have J := zK (Kd.S_lower I (zz zB)); have L := z7 l hb; have M := z8 hb; revert J L M; clear l HB; intro A l HB) | ((with_reducible refine gc 20 rfl ?_); refine zF 25 Try.func20 #[.slice A1 l1.length c1] rfl zL ?_; refine (laws_toIntS.calls k _ _ l1 f0 _ (zS n1) o1.out i5.out).mono ?_; rintro e b9s ⟨v269, rfl, I, hb⟩; refine ⟨_, rfl, ?_⟩; have J := zK (Kd.S_elder' (zkS A) (Kd.R_base I) hb); have L := zK (Kd.R_lower I (zz zB)); have M := z7 l hb; have O := z8 hb; revert J L M O; clear A l HB; intro A q l HB; obtain ⟨O5, R5, C9⟩ := Kd.S_slice A.out; subst C9; obtain ⟨p2, q2, D9⟩ := Kd.R_slice q.out; subst D9) | ((with_reducible refine gc 19 rfl ?_); refine zF 26 Try.func19 #[.agg #[.int .i64 O0, .slice O5 x0.length R5], .slice p2 f0.length q2] rfl zL ?_; refine (spec_Weights.calls k O0 _ _ x0 _ _ f0 c0 _ (zC (Kd.S_reads' A.out).2.2) ((Kd.S_reads' A.out).2.1) (zC (Kd.R_reads' q.out).2.2) ((Kd.R_reads' q.out).2.1) j5.out).mono ?_; rintro e b9t ⟨v272, rfl, I, hb⟩; refine ⟨_, rfl, ?_⟩; have J := zK (Kd.S_elder' (zkS A) (Kd.R_base I) hb); have L := zK (Kd.R_elder' (zkR q) (Kd.R_base I) hb); have M := zK (Kd.R_lower (Kd.R_new' I (Kd.R_lt (zkR q))) (zz zB)); have O := z7 l hb; have X := z8 hb; revert J L M O X; clear A q l HB; intro A q u l HB; obtain ⟨a8t, a8u, a8x, a8y⟩ := zc2 l) | ((with_reducible refine gc 9 rfl ?_); refine zF 28 Try.func9 #[.agg #[.int .i64 i0, .slice p0 g0.length q0]] rfl zL ?_; refine (laws_toLm.calls k i0 _ _ g0 n0 j0 _ (zS A0) B0.out l5.out).mono ?_; rintro e b9u ⟨v276, rfl, I, hb⟩; refine ⟨_, rfl, ?_⟩; have J := zK (Kd.S_elder' (zkS A) (Kd.S_base I) hb); have L := zK (Kd.R_below (zkR q) hb); have M := zK (Kd.R_below (zkR u) hb); have O := zK (Kd.S_lower (Kd.S_new' (Kd.S_new' (Kd.S_new' I (Kd.S_lt (zkS A))) (Kd.R_lt (zkR q))) (Kd.R_lt (zkR u))) (zz zB)); have X := z7 l hb; have b0 := z8 hb; revert J L M O X b0; clear A q u l HB; intro A q u E l HB) | ((with_reducible refine gd 7 rfl ?_); refine zJ 7 #[.int .i64 0, .slice none 0 0] 29 ?_; intro y0 hg b9x hbox hb; have J := zK (Kd.S_below (zkS A) hb); have L := zK (Kd.R_below (zkR q) hb); have M := zK (Kd.R_below (zkR u) hb); have O := zK (Kd.S_below (zkS E) hb); have X := z7 l hb; have b0 := z8 hb; have d0 := zK (hbox); have e0 := z9 hg; have m0 := z9 hg; have t0 := zHH hg l; have F0 := zGG hg l; revert J L M O X b0 d0 e0 m0 t0 F0; clear A q u E l HB; intro A q u E l HB y o3 V0 I0 J0; clear hb hbox hg; have b5m := J0.out; have b5n := I0.out; obtain ⟨a8z, a9a, a9b, a9c⟩ := zc2 y; obtain ⟨U3, V3, E9⟩ := Kd.S_slice E.out; subst E9) | ((with_reducible refine gc 20 rfl ?_); refine zF 30 Try.func20 #[.slice A1 l1.length c1] rfl zL ?_; refine (laws_toIntS.calls k _ _ l1 T _ (z4 n1.out zB) o1.out m5.out).mono ?_; rintro e b9y ⟨v280, rfl, I, hb⟩; refine ⟨_, rfl, ?_⟩; have J := zK (Kd.S_elder' (Kd.S_mono (zlS (Kd.S_types A.out y.out (by decide))) (fun _ h_ => h_.1)) (Kd.R_base I) hb); have L := zK (Kd.R_elder' (Kd.R_mono (zlR (Kd.R_types q.out y.out (by decide))) (fun _ h_ => h_.1)) (Kd.R_base I) hb); have M := zK (Kd.R_elder' (Kd.R_mono (zlR (Kd.R_types u.out y.out (by decide))) (fun _ h_ => h_.1)) (Kd.R_base I) hb); have O := zK (Kd.S_elder' (Kd.S_mono (zlS (Kd.S_types E.out y.out (by decide))) (fun _ h_ => h_.1)) (Kd.R_base I) hb); have X := zK (Kd.R_lower (Kd.R_new' (Kd.R_new' I (Kd.R_lt (Kd.R_mono (zlR (Kd.R_types q.out y.out (by decide))) (fun _ h_ => h_.1)))) (Kd.R_lt (Kd.R_mono (zlR (Kd.R_types u.out y.out (by decide))) (fun _ h_ => h_.1)))) (zz zB)); have b0 := zK (zg (zV l) hb); have d0 := zK (zg (g := y0) (o := .cells #[.int .i64 n0, .slice U3 j0.length V3] 29 (0, 0)) (zW y) hb); have e0 := z8 hb; revert J L M O X b0 d0 e0; clear A q u E l y HB; intro A q u E z l y HB; obtain ⟨a9d, a9e, a9f, a9g⟩ := zc2 y; obtain ⟨E1, F1, F9⟩ := Kd.R_slice z.out; subst F9) | ((with_reducible refine gc 21 rfl ?_); refine zF 33 Try.func21 #[.agg #[.int .i64 n0, .slice U3 j0.length V3], .slice E1 T.length F1] rfl zL ?_; refine (impl_Weights.calls k n0 _ _ j0 _ _ T U _ (zC (Kd.S_reads' E.out).2.2) ((Kd.S_reads' E.out).2.1) (zC (Kd.R_reads' z.out).2.2) ((Kd.R_reads' z.out).2.1) n5.out).mono ?_; rintro e j3 ⟨v283, rfl, I, hb⟩; refine ⟨_, rfl, ?_⟩; have J := zK (Kd.S_elder' (zkS A) (Kd.R_base I) hb); have L := zK (Kd.R_elder' (zkR q) (Kd.R_base I) hb); have M := zK (Kd.R_elder' (zkR u) (Kd.R_base I) hb); have O := zK (Kd.S_elder' (zkS E) (Kd.R_base I) hb); have X := zK (Kd.R_elder' (zkR z) (Kd.R_base I) hb); have b0 := zK (Kd.R_lower (Kd.R_new' (Kd.R_new' (Kd.R_new' I (Kd.R_lt (zkR q))) (Kd.R_lt (zkR u))) (Kd.R_lt (zkR z))) (zz zB)); have d0 := z7 l hb; have e0 := z7 y hb; have m0 := z8 hb; revert J L M O X b0 d0 e0 m0; clear A q u E z l y HB; intro A q u E z B l y HB; obtain ⟨e1, f1, G9⟩ := Kd.R_slice B.out; subst G9; obtain ⟨b2, c2, I9⟩ := Kd.R_slice u.out; subst I9) | ((with_reducible refine gc 22 rfl ?_); refine zF 36 Try.func22 #[.slice e1 U.length f1, .slice b2 c0.length c2] rfl zL ?_; refine (laws_eqIntS.calls k _ _ U _ _ c0 true _ (zC (Kd.R_reads' B.out).2.2) ((Kd.R_reads' B.out).2.1) (zC (Kd.R_reads' u.out).2.2) ((Kd.R_reads' u.out).2.1) o5.out).mono ?_; rintro e w' ⟨rfl, ⟨nd, rfl⟩⟩; refine ⟨_, rfl, ?_⟩))
   (try (rw [drewN_self j3]; generalize hq_ : World.drewN j3 _ = j3; have J : Aside0 (Kd.S k57 57 j3 w.heap.size (fun k_ => (((((True ∧ some k_ ≠ (.slice p2 f0.length q2 : Value).ownBlock) ∧ some k_ ≠ (.slice b2 c0.length c2 : Value).ownBlock) ∧ some k_ ≠ (.slice U3 j0.length V3 : Value).ownBlock) ∧ some k_ ≠ (.slice E1 T.length F1 : Value).ownBlock) ∧ some k_ ≠ (.slice e1 U.length f1 : Value).ownBlock)) (.slice O5 x0.length R5) x0) := ⟨by rw [← hq_]; exact zkS A⟩; have L : Aside0 (Kd.R (Kd.int .i64) 3 j3 w.heap.size (fun k_ => (((True ∧ some k_ ≠ (.slice b2 c0.length c2 : Value).ownBlock) ∧ some k_ ≠ (.slice E1 T.length F1 : Value).ownBlock) ∧ some k_ ≠ (.slice e1 U.length f1 : Value).ownBlock)) (.slice p2 f0.length q2) f0) := ⟨by rw [← hq_]; exact zkR q⟩; have M : Aside0 (Kd.R (Kd.int .i64) 3 j3 w.heap.size (fun k_ => (((True ∧ some k_ ≠ (.slice p2 f0.length q2 : Value).ownBlock) ∧ some k_ ≠ (.slice E1 T.length F1 : Value).ownBlock) ∧ some k_ ≠ (.slice e1 U.length f1 : Value).ownBlock)) (.slice b2 c0.length c2) c0) := ⟨by rw [← hq_]; exact zkR u⟩; have O : Aside0 (Kd.S k57 57 j3 w.heap.size (fun k_ => (((((True ∧ some k_ ≠ (.slice O5 x0.length R5 : Value).ownBlock) ∧ some k_ ≠ (.slice p2 f0.length q2 : Value).ownBlock) ∧ some k_ ≠ (.slice b2 c0.length c2 : Value).ownBlock) ∧ some k_ ≠ (.slice E1 T.length F1 : Value).ownBlock) ∧ some k_ ≠ (.slice e1 U.length f1 : Value).ownBlock)) (.slice U3 j0.length V3) j0) := ⟨by rw [← hq_]; exact zkS E⟩; have X : Aside0 (Kd.R (Kd.int .i64) 3 j3 w.heap.size (fun k_ => (((True ∧ some k_ ≠ (.slice p2 f0.length q2 : Value).ownBlock) ∧ some k_ ≠ (.slice b2 c0.length c2 : Value).ownBlock) ∧ some k_ ≠ (.slice e1 U.length f1 : Value).ownBlock)) (.slice E1 T.length F1) T) := ⟨by rw [← hq_]; exact zkR z⟩; have b0 : Aside0 (Kd.R (Kd.int .i64) 3 j3 w.heap.size (fun k_ => (((True ∧ some k_ ≠ (.slice p2 f0.length q2 : Value).ownBlock) ∧ some k_ ≠ (.slice b2 c0.length c2 : Value).ownBlock) ∧ some k_ ≠ (.slice E1 T.length F1 : Value).ownBlock)) (.slice e1 U.length f1) U) := ⟨by rw [← hq_]; exact zkR B⟩; have d0 : Aside0 (j3.heap[C0]? = some (.cells #[.int .i64 i0, .slice p0 g0.length q0] 24 (0, 0))) := ⟨by rw [← hq_]; exact (zM l)⟩; have e0 : Aside0 (j3.heap[y0]? = some (.cells #[.int .i64 n0, .slice U3 j0.length V3] 29 (0, 0))) := ⟨by rw [← hq_]; exact (zM y)⟩; have m0 : Aside0 (Below w.heap.size w j3) := ⟨by rw [← hq_]; exact zB⟩; clear A q u E z B l y HB hq_; revert J L M O X b0 d0 e0 m0; intro A q u E z B l y HB))
   have J := zK (Kd.S_drew A.out)
   have L := zK (Kd.R_drew q.out)
   have M := zK (Kd.R_drew u.out)
   have O := zK (Kd.S_drew E.out)
   have X := zK (Kd.R_drew z.out)
   have b0 := zK (Kd.R_drew B.out)
   have d0 := zK (zd l.out)
   have e0 := zK (zd y.out)
   have m0 := zK (ze HB.out)
   revert J L M O X b0 d0 e0 m0
   clear A q u E z B l y HB
   intro A q u E z B l y HB
   refine start_ (n := 5) (S := fun w' => w'.cell? ⟨y0, 0, none⟩ = some (.int .i64 n0) ∧ w'.cell? ⟨y0, 1, none⟩ = some (.slice U3 j0.length V3) ∧ w'.cell? ⟨C0, 0, none⟩ = some (.int .i64 i0) ∧ w'.cell? ⟨C0, 1, none⟩ = some (.slice p0 g0.length q0)) (ds := []) (bl 5 0) (by kernel_rfl) rfl (by kernel_rfl) ⟨zy y 0, zy y 1, zy l 0, zy l 1⟩ (fun hHeld => ?_)
   generalize j3.drew = b9z at A q u E z B l y HB hHeld ⊢
   refine take_ (i := 0) (N := some 38) (v := ?_) (a' := ?_) (bl 5 1) rfl rfl (by kernel_rfl) (fun _ _ _ h => h) (Or.inl ⟨by rfl, ?_⟩) hHeld ?_ ?_
   rotate_left
   · rintro w' ⟨s0, s1, s2, s3⟩
     go_simp
     with_reducible rfl
   rotate_left
   · simp only [Act.put, zq1, zq2, zq3, i64_w, i32_w]
     rfl
   refine take_ (i := 1) (N := some 39) (v := ?_) (a' := ?_) (bl 5 3) rfl rfl (by kernel_rfl) (fun _ _ _ h => h) (Or.inl ⟨by rfl, ?_⟩) hHeld ?_ ?_
   rotate_left
   · rintro w' ⟨s0, s1, s2, s3⟩
     go_simp
     with_reducible rfl
   rotate_left
   · simp only [Act.put, zq1, zq2, zq3, i64_w, i32_w]
     rfl
   refine one_ (i := 2) (N := some 40) (bl 5 7) rfl rfl (by kernel_rfl) (by decide) (fun K hK => ?_)
   refine goes_ Try.func9 (by kernel_rfl) rfl #[.agg #[.int .i64 i0, .slice p0 g0.length q0]] (by rfl) rfl rfl zL ?_
   refine (laws_toLm.calls k i0 _ _ g0 R0 L0 _ (zS A0) B0.out p5.out).mono ?_
   rintro e c0a ⟨v288, rfl, I, hb⟩
   refine ⟨_, rfl, ?_⟩
   have J := zK (Kd.S_elder' (zkS A) (Kd.S_base I) hb)
   have L := zK (Kd.R_below (zkR q) hb)
   have M := zK (Kd.R_below (zkR u) hb)
   have O := zK (Kd.S_elder' (zkS E) (Kd.S_base I) hb)
   have X := zK (Kd.R_below (zkR z) hb)
   have b0 := zK (Kd.R_below (zkR B) hb)
   have d0 := zK (Kd.S_lower (Kd.S_new' (Kd.S_new' (Kd.S_new' (Kd.S_new' (Kd.S_new' (Kd.S_new' I (Kd.S_lt (zkS A))) (Kd.R_lt (zkR q))) (Kd.R_lt (zkR u))) (Kd.S_lt (zkS E))) (Kd.R_lt (zkR z))) (Kd.R_lt (zkR B))) (zz zB))
   have e0 := z7 l hb
   have m0 := z7 y hb
   have t0 := z8 hb
   revert J L M O X b0 d0 e0 m0 t0
   clear A q u E z B l y HB
   intro A q u E z B l0 l y HB
   (try clear hb)
   (try clear hb2)
   (try clear hk)
   (try clear hi)
   (try clear I)
   obtain ⟨c7, d7, e7⟩ := Kd.S_slice l0.out
   (first | subst e7 | (injection e7 with f1_ f2_ f3_; have f4_ := f1_.symm; have f5_ := f3_.symm; clear f1_ f2_ f3_; subst f4_; subst f5_))
   refine hK.out _ _ ⟨zy y 0, zy y 1, zy l 0, zy l 1⟩ (fun hHeld => ?_)
   clear hK K
   refine zU 40 ?_
   refine one_ (i := 3) (N := some 41) (bl 5 15) rfl rfl (by kernel_rfl) (by decide) (fun K hK => ?_)
   refine goes_ Try.func11 (by kernel_rfl) rfl #[.agg #[.int .i64 n0, .slice U3 j0.length V3], .agg #[.int .i64 R0, .slice c7 L0.length d7]] (by rfl) rfl rfl zL ?_
   refine (laws_eqLm.calls k n0 _ _ j0 R0 _ _ L0 true _ (zC (Kd.S_reads' E.out).2.2) ((Kd.S_reads' E.out).2.1) (zC (Kd.S_reads' l0.out).2.2) ((Kd.S_reads' l0.out).2.1) q5.out).mono ?_
   rintro e c0b ⟨rfl, hb⟩
   refine ⟨_, rfl, ?_⟩
   have J := zK (Kd.S_below (zkS A) hb)
   have L := zK (Kd.R_below (zkR q) hb)
   have M := zK (Kd.R_below (zkR u) hb)
   have O := zK (Kd.S_below (zkS E) hb)
   have X := zK (Kd.R_below (zkR z) hb)
   have b0 := zK (Kd.R_below (zkR B) hb)
   have d0 := zK (Kd.S_below (zkS l0) hb)
   have e0 := z7 l hb
   have m0 := z7 y hb
   have t0 := z8 hb
   revert J L M O X b0 d0 e0 m0 t0
   clear A q u E z B l0 l y HB
   intro A q u E z B l0 l y HB
   (try clear hb)
   (try clear hb2)
   (try clear hk)
   (try clear hi)
   refine hK.out _ _ ⟨zy y 0, zy y 1, zy l 0, zy l 1⟩ (fun hHeld => ?_)
   clear hK K
   refine zU 41 ?_
   refine pure_ (i := 4) (N := some 42) (v := ?_) (a' := ?_) (bl 5 31) rfl rfl (by kernel_rfl) (fun _ _ _ h => h) (Or.inl ⟨by rfl, ?_⟩) ?_ ?_
   rotate_left
   · intro w'
     go_simp
     with_reducible rfl
   rotate_left
   · simp only [Act.put, zq1, zq2, zq3, i64_w, i32_w]
     rfl
   refine done_ (by kernel_rfl) ?_
   try go_wp2_with (first | ((with_reducible refine gc 20 rfl ?_); refine zF 45 Try.func20 #[.slice A1 l1.length c1] rfl zL ?_; refine (laws_toIntS.calls k _ _ l1 o0 _ (zS n1) o1.out x5.out).mono ?_; rintro e c0c ⟨v292, rfl, I, hb⟩; refine ⟨_, rfl, ?_⟩; have J := zK (Kd.S_elder' (zkS A) (Kd.R_base I) hb); have L := zK (Kd.R_elder' (zkR q) (Kd.R_base I) hb); have M := zK (Kd.R_elder' (zkR u) (Kd.R_base I) hb); have O := zK (Kd.S_elder' (zkS E) (Kd.R_base I) hb); have X := zK (Kd.R_elder' (zkR z) (Kd.R_base I) hb); have b0 := zK (Kd.R_elder' (zkR B) (Kd.R_base I) hb); have d0 := zK (Kd.S_elder' (zkS l0) (Kd.R_base I) hb); have e0 := zK (Kd.R_lower (Kd.R_new' (Kd.R_new' (Kd.R_new' (Kd.R_new' I (Kd.R_lt (zkR q))) (Kd.R_lt (zkR u))) (Kd.R_lt (zkR z))) (Kd.R_lt (zkR B))) (zz zB)); have m0 := z7 l hb; have t0 := z7 y hb; have F0 := z8 hb; revert J L M O X b0 d0 e0 m0 t0 F0; clear A q u E z B l0 l y HB; intro A q u E z B l0 a0 l y HB; obtain ⟨X3, a4, J9⟩ := Kd.R_slice a0.out; subst J9) | ((with_reducible refine gc 22 rfl ?_); refine zF 46 Try.func22 #[.slice E1 T.length F1, .slice X3 o0.length a4] rfl zL ?_; refine (laws_eqIntS.calls k _ _ T _ _ o0 true _ (zC (Kd.R_reads' z.out).2.2) ((Kd.R_reads' z.out).2.1) (zC (Kd.R_reads' a0.out).2.2) ((Kd.R_reads' a0.out).2.1) y5.out).mono ?_; rintro e w' ⟨rfl, ⟨nd, rfl⟩⟩; refine ⟨_, rfl, ?_⟩; obtain ⟨a9j, a9l, a9m, a9n⟩ := zc2 y) | ((with_reducible refine gc 23 rfl ?_); refine zF 50 Try.func23 #[.agg #[.int .i64 n0, .slice U3 j0.length V3], .int .i64 1] rfl zL ?_; (with_reducible refine (Marks.markLm_E (fun k_ => (((((((True ∧ some k_ ≠ (.slice O5 x0.length R5 : Value).ownBlock) ∧ some k_ ≠ (.slice p2 f0.length q2 : Value).ownBlock) ∧ some k_ ≠ (.slice b2 c0.length c2 : Value).ownBlock) ∧ some k_ ≠ (.slice E1 T.length F1 : Value).ownBlock) ∧ some k_ ≠ (.slice e1 U.length f1 : Value).ownBlock) ∧ some k_ ≠ (.slice c7 L0.length d7 : Value).ownBlock) ∧ some k_ ≠ (.slice X3 o0.length a4 : Value).ownBlock)) n0 j0 1 N0 w.heap.size _ ?side1 ?side2).mono ?_); (case side1 => exact Kd.S_R (zkS E)); (case side2 => exact E5.out); rintro e c0d ⟨rfl, hb⟩; refine ⟨_, rfl, ?_⟩; have J := zK (Marks.Turned.block hb (zM l) (by decide)); have L := zK (Marks.Turned.R hb (zkR q) (fun k_ e_ o_ => (o_.1.1.1.1.1.2) e_)); have M := zK (Marks.Turned.R hb (zkR u) (fun k_ e_ o_ => (o_.1.1.1.1.2) e_)); have O := zK (Marks.Turned.block hb (zM y) (by decide)); have X := zK (Marks.Turned.R hb (zkR z) (fun k_ e_ o_ => (o_.1.1.1.2) e_)); have b0 := zK (Marks.Turned.R hb (zkR B) (fun k_ e_ o_ => (o_.1.1.2) e_)); have d0 := zK (Marks.Turned.R hb (zkR a0) (fun k_ e_ o_ => (o_.2) e_)); have e0 := zK (Marks.Turned.below hb zB); revert J L M O X b0 d0 e0; clear l q u y z B a0 HB A E l0; intro l q u y z B a0 HB) | ((with_reducible refine gc 24 rfl ?_); refine zF 53 Try.func24 #[.slice E1 T.length F1, .int .i64 N0] rfl zL ?_; (with_reducible refine (laws_markIntS.calls k (fun k_ => some k_ = (.slice E1 T.length F1 : Value).ownBlock) (.slice E1 T.length F1) T N0 l4 X4 w _ ?side1 ?side2 F5.out).mono ?_); (case side1 => repeat (first | (with_reducible first | exact HB.out | apply zb | apply zw | apply ze | refine zs ?_ U0.out | refine zs ?_ V0.out) | exact HB.out)); (case side2 => exact Kd.R_tight rfl z.out); rintro e c0e ⟨rfl, S0, hb, hkp⟩; refine ⟨_, rfl, ?_⟩; have J := zK (blk_kept (zM l) hkp (fun hs_ => (fun e_ => (Kd.R_ne z.out l.out (by decide)) e_) hs_)); have L := zK (Kd.R_mono (ok' := fun k_ => some k_ ≠ (.slice b2 c0.length c2 : Value).ownBlock ∧ some k_ ≠ (.slice E1 T.length F1 : Value).ownBlock ∧ some k_ ≠ (.slice e1 U.length f1 : Value).ownBlock ∧ some k_ ≠ (.slice X3 o0.length a4 : Value).ownBlock) (Kd.R_keptB (q.out) hkp (fun k_ hk_ hs_ => (hk_.1.1.2) hs_)) (fun k_ hk_ => ⟨hk_.1.1.1.1.2, hk_.1.1.1.2, hk_.1.1.2, hk_.1.2⟩)); have M := zK (Kd.R_mono (ok' := fun k_ => some k_ ≠ (.slice p2 f0.length q2 : Value).ownBlock ∧ some k_ ≠ (.slice E1 T.length F1 : Value).ownBlock ∧ some k_ ≠ (.slice e1 U.length f1 : Value).ownBlock ∧ some k_ ≠ (.slice X3 o0.length a4 : Value).ownBlock) (Kd.R_keptB (u.out) hkp (fun k_ hk_ hs_ => (hk_.1.1.2) hs_)) (fun k_ hk_ => ⟨hk_.1.1.1.1.2, hk_.1.1.1.2, hk_.1.1.2, hk_.1.2⟩)); have O := zK (blk_kept (zM y) hkp (fun hs_ => (fun e_ => (Kd.R_ne z.out y.out (by decide)) e_) hs_)); have X := zK (Kd.R_reok rfl S0 (fun k_ e_ => z.out.1 k_ e_)); have b0 := zK (Kd.R_mono (ok' := fun k_ => some k_ ≠ (.slice p2 f0.length q2 : Value).ownBlock ∧ some k_ ≠ (.slice b2 c0.length c2 : Value).ownBlock ∧ some k_ ≠ (.slice E1 T.length F1 : Value).ownBlock ∧ some k_ ≠ (.slice X3 o0.length a4 : Value).ownBlock) (Kd.R_keptB (B.out) hkp (fun k_ hk_ hs_ => (hk_.1.2) hs_)) (fun k_ hk_ => ⟨hk_.1.1.1.1.2, hk_.1.1.1.2, hk_.1.1.2, hk_.1.2⟩)); have d0 := zK (Kd.R_mono (ok' := fun k_ => some k_ ≠ (.slice p2 f0.length q2 : Value).ownBlock ∧ some k_ ≠ (.slice b2 c0.length c2 : Value).ownBlock ∧ some k_ ≠ (.slice E1 T.length F1 : Value).ownBlock ∧ some k_ ≠ (.slice e1 U.length f1 : Value).ownBlock) (Kd.R_keptB (a0.out) hkp (fun k_ hk_ hs_ => (hk_.1.2) hs_)) (fun k_ hk_ => ⟨hk_.1.1.1.1.2, hk_.1.1.1.2, hk_.1.1.2, hk_.1.2⟩)); have e0 := zK (hb); revert J L M O X b0 d0 e0; clear l q u y z B a0 HB; intro l q u y z B a0 HB; (try clear hkp); (try clear S0)) | (go_at_call 22; (with_reducible refine (laws_eqIntS.calls k _ _ U _ _ c0 true _ ?side1 ?side2 ?side3 ?side4 b6.out).mono ?_); (case side1 => exact zC (Kd.R_reads' B.out).2.2); (case side2 => exact (Kd.R_reads' B.out).2.1); (case side3 => exact zC (Kd.R_reads' u.out).2.2); (case side4 => exact (Kd.R_reads' u.out).2.1); rintro e w' ⟨rfl, ⟨nd, rfl⟩⟩) | ((with_reducible refine gc 24 rfl ?_); refine zF 64 Try.func24 #[.slice e1 U.length f1, .int .i64 1] rfl zL ?_; (with_reducible refine (laws_markIntS.calls k (fun k_ => some k_ = (.slice e1 U.length f1 : Value).ownBlock) (.slice e1 U.length f1) U 1 C3 G0 w _ ?side1 ?side2 g6.out).mono ?_); (case side1 => repeat (first | (with_reducible first | exact HB.out | apply zb | apply zw | apply ze | refine zs ?_ U0.out | refine zs ?_ V0.out) | exact HB.out)); (case side2 => exact Kd.R_tight rfl B.out); rintro e c0f ⟨rfl, S0, hb, hkp⟩; refine ⟨_, rfl, ?_⟩; have J := zK (blk_kept (zM l) hkp (fun hs_ => (fun e_ => (Kd.R_ne B.out l.out (by decide)) e_) hs_)); have L := zK (Kd.R_mono (ok' := fun k_ => some k_ ≠ (.slice b2 c0.length c2 : Value).ownBlock ∧ some k_ ≠ (.slice E1 T.length F1 : Value).ownBlock ∧ some k_ ≠ (.slice e1 U.length f1 : Value).ownBlock ∧ some k_ ≠ (.slice X3 o0.length a4 : Value).ownBlock) (Kd.R_keptB (q.out) hkp (fun k_ hk_ hs_ => (hk_.2.2.1) hs_)) (fun k_ hk_ => ⟨hk_.1.1, hk_.1.2.1, hk_.1.2.2.1, hk_.1.2.2.2⟩)); have M := zK (Kd.R_mono (ok' := fun k_ => some k_ ≠ (.slice p2 f0.length q2 : Value).ownBlock ∧ some k_ ≠ (.slice E1 T.length F1 : Value).ownBlock ∧ some k_ ≠ (.slice e1 U.length f1 : Value).ownBlock ∧ some k_ ≠ (.slice X3 o0.length a4 : Value).ownBlock) (Kd.R_keptB (u.out) hkp (fun k_ hk_ hs_ => (hk_.2.2.1) hs_)) (fun k_ hk_ => ⟨hk_.1.1, hk_.1.2.1, hk_.1.2.2.1, hk_.1.2.2.2⟩)); have O := zK (blk_kept (zM y) hkp (fun hs_ => (fun e_ => (Kd.R_ne B.out y.out (by decide)) e_) hs_)); have X := zK (Kd.R_mono (ok' := fun k_ => some k_ ≠ (.slice p2 f0.length q2 : Value).ownBlock ∧ some k_ ≠ (.slice b2 c0.length c2 : Value).ownBlock ∧ some k_ ≠ (.slice e1 U.length f1 : Value).ownBlock ∧ some k_ ≠ (.slice X3 o0.length a4 : Value).ownBlock) (Kd.R_keptB (z.out) hkp (fun k_ hk_ hs_ => (hk_.1.2) hs_)) (fun k_ hk_ => ⟨hk_.1.1.1.1.2, hk_.1.1.1.2, hk_.1.1.2, hk_.1.2⟩)); have b0 := zK (Kd.R_reok rfl S0 (fun k_ e_ => B.out.1 k_ e_)); have d0 := zK (Kd.R_mono (ok' := fun k_ => some k_ ≠ (.slice p2 f0.length q2 : Value).ownBlock ∧ some k_ ≠ (.slice b2 c0.length c2 : Value).ownBlock ∧ some k_ ≠ (.slice E1 T.length F1 : Value).ownBlock ∧ some k_ ≠ (.slice e1 U.length f1 : Value).ownBlock) (Kd.R_keptB (a0.out) hkp (fun k_ hk_ hs_ => (hk_.2.2.2) hs_)) (fun k_ hk_ => ⟨hk_.1.1, hk_.1.2.1, hk_.1.2.2.1, hk_.1.2.2.2⟩)); have e0 := zK (hb); revert J L M O X b0 d0 e0; clear l q u y z B a0 HB; intro l q u y z B a0 HB; (try clear hkp); (try clear S0)) | ((with_reducible refine gc 25 rfl ?_); refine zF 67 Try.func25 #[.slice e1 G0.length f1, .int .i64 1] rfl (by (try simp only [List.map_toArray, List.map_cons, List.map_nil]); first | done | (rw [show G0.length = U.length from (Kd.R_reads' B.out).1.symm] <;> rfl) | rfl | (simp only [List.length_drop, List.length_take]; rfl)) ?_; (with_reducible refine (laws_heldIntS.calls k _ _ G0 1 X0 _ ?side1 ?side2 i6.out).mono ?_); (case side1 => exact zC (Kd.R_reads' B.out).2.2); (case side2 => rw [show G0.length = U.length from (Kd.R_reads' B.out).1.symm]; exact (Kd.R_reads' B.out).2.1); rintro e w' ⟨rfl, ⟨nd, rfl⟩⟩; refine ⟨_, rfl, ?_⟩; obtain ⟨a9o, a9p, a9q, a9s⟩ := zc2 l) | ((with_reducible refine gc 9 rfl ?_); refine zF 74 Try.func9 #[.agg #[.int .i64 i0, .slice p0 g0.length q0]] rfl zL ?_; refine (laws_toLm.calls k i0 _ _ g0 f3 g3 _ (zS A0) B0.out R6.out).mono ?_; rintro e c0g ⟨v304, rfl, I, hb⟩; refine ⟨_, rfl, ?_⟩; have J := zK (Kd.R_below (zkR q) hb); have L := zK (Kd.R_below (zkR u) hb); have M := zK (Kd.R_below (zkR z) hb); have O := zK (Kd.R_below (zkR B) hb); have X := zK (Kd.R_below (zkR a0) hb); have b0 := zK (Kd.S_lower (Kd.S_new' (Kd.S_new' (Kd.S_new' (Kd.S_new' (Kd.S_new' I (Kd.R_lt (zkR q))) (Kd.R_lt (zkR u))) (Kd.R_lt (zkR z))) (Kd.R_lt (zkR B))) (Kd.R_lt (zkR a0))) (zz zB)); have d0 := z7 l hb; have e0 := z7 y hb; have m0 := z8 hb; revert J L M O X b0 d0 e0 m0; clear q u z B a0 l y HB; intro q u z B a0 D0 l y HB) | ((with_reducible refine gc 20 rfl ?_); refine zF 76 Try.func20 #[.slice A1 l1.length c1] rfl zL ?_; refine (laws_toIntS.calls k _ _ l1 a1 _ (zS n1) o1.out S6.out).mono ?_; rintro e c0j ⟨v307, rfl, I, hb⟩; refine ⟨_, rfl, ?_⟩; have J := zK (Kd.R_elder' (zkR q) (Kd.R_base I) hb); have L := zK (Kd.R_elder' (zkR u) (Kd.R_base I) hb); have M := zK (Kd.R_elder' (zkR z) (Kd.R_base I) hb); have O := zK (Kd.R_elder' (zkR B) (Kd.R_base I) hb); have X := zK (Kd.R_elder' (zkR a0) (Kd.R_base I) hb); have b0 := zK (Kd.S_elder' (zkS D0) (Kd.R_base I) hb); have d0 := zK (Kd.R_lower (Kd.R_new' (Kd.R_new' (Kd.R_new' (Kd.R_new' (Kd.R_new' I (Kd.R_lt (zkR q))) (Kd.R_lt (zkR u))) (Kd.R_lt (zkR z))) (Kd.R_lt (zkR B))) (Kd.R_lt (zkR a0))) (zz zB)); have e0 := z7 l hb; have m0 := z7 y hb; have t0 := z8 hb; revert J L M O X b0 d0 e0 m0 t0; clear q u z B a0 D0 l y HB; intro q u z B a0 D0 M0 l y HB; obtain ⟨L9, M9, N9⟩ := Kd.S_slice D0.out; subst N9; obtain ⟨O9, R9, S9⟩ := Kd.R_slice M0.out; subst S9) | ((with_reducible refine gc 21 rfl ?_); refine zF 77 Try.func21 #[.agg #[.int .i64 f3, .slice L9 g3.length M9], .slice O9 a1.length R9] rfl zL ?_; refine (impl_Weights.calls k f3 _ _ g3 _ _ a1 b1 _ (zC (Kd.S_reads' D0.out).2.2) ((Kd.S_reads' D0.out).2.1) (zC (Kd.R_reads' M0.out).2.2) ((Kd.R_reads' M0.out).2.1) T6.out).mono ?_; rintro e c0l ⟨v310, rfl, I, hb⟩; refine ⟨_, rfl, ?_⟩; have J := zK (Kd.R_elder' (zkR q) (Kd.R_base I) hb); have L := zK (Kd.R_elder' (zkR u) (Kd.R_base I) hb); have M := zK (Kd.R_elder' (zkR z) (Kd.R_base I) hb); have O := zK (Kd.R_elder' (zkR B) (Kd.R_base I) hb); have X := zK (Kd.R_elder' (zkR a0) (Kd.R_base I) hb); have b0 := zK (Kd.S_elder' (zkS D0) (Kd.R_base I) hb); have d0 := zK (Kd.R_elder' (zkR M0) (Kd.R_base I) hb); have e0 := zK (Kd.R_lower (Kd.R_new' (Kd.R_new' (Kd.R_new' (Kd.R_new' (Kd.R_new' (Kd.R_new' I (Kd.R_lt (zkR q))) (Kd.R_lt (zkR u))) (Kd.R_lt (zkR z))) (Kd.R_lt (zkR B))) (Kd.R_lt (zkR a0))) (Kd.R_lt (zkR M0))) (zz zB)); have m0 := z7 l hb; have t0 := z7 y hb; have F0 := z8 hb; revert J L M O X b0 d0 e0 m0 t0 F0; clear q u z B a0 D0 M0 l y HB; intro q u z B a0 D0 M0 a2 l y HB; obtain ⟨T9, U9, V9⟩ := Kd.R_slice a2.out; subst V9) | ((with_reducible refine gc 22 rfl ?_); refine zF 80 Try.func22 #[.slice T9 b1.length U9, .slice b2 c0.length c2] rfl zL ?_; refine (laws_eqIntS.calls k _ _ b1 _ _ c0 true _ (zC (Kd.R_reads' a2.out).2.2) ((Kd.R_reads' a2.out).2.1) (zC (Kd.R_reads' u.out).2.2) ((Kd.R_reads' u.out).2.1) U6.out).mono ?_; rintro e w' ⟨rfl, ⟨nd, rfl⟩⟩; refine ⟨_, rfl, ?_⟩) | ((with_reducible refine gc 25 rfl ?_); refine zF 84 Try.func25 #[.slice e1 G0.length f1, .int .i64 1] rfl (by (try simp only [List.map_toArray, List.map_cons, List.map_nil]); first | done | (rw [show G0.length = U.length from (Kd.R_reads' B.out).1.symm] <;> rfl) | rfl | (simp only [List.length_drop, List.length_take]; rfl)) ?_; (with_reducible refine (laws_heldIntS.calls k _ _ G0 1 d1 _ ?side1 ?side2 c8.out).mono ?_); (case side1 => exact zC (Kd.R_reads' B.out).2.2); (case side2 => rw [show G0.length = U.length from (Kd.R_reads' B.out).1.symm]; exact (Kd.R_reads' B.out).2.1); rintro e w' ⟨rfl, ⟨nd, rfl⟩⟩; refine ⟨_, rfl, ?_⟩))
   go_ret
   exact ⟨zE, zB⟩
 rw [if_neg D5] at H
 have d8 := z2 D5
 clear D5
 by_cases t5 : d1 = C3
 rotate_left
 · as_aux_lemma =>
   rw [if_neg t5] at H
   have e8 := beq_eq_false_iff_ne.mpr t5
   have f8 := bne_iff_ne.mpr t5
   obtain rfl := z5 H
   go_enter Try.func6, Try.ntmps6
   try go_wp2_with (first | ((with_reducible refine gd 2 rfl ?_); refine zJ 2 #[.int .i64 i0, .slice p0 g0.length q0] 24 ?_; intro C0 hg c0m hbox hb; have J := z8 hb; have L := zK (hbox); have M := z9 hg; have O := z9 hg; revert J L M O; clear HB; intro HB l n3 U0; clear hb hbox hg; obtain ⟨a9t, a9u, a9x, a9y⟩ := zc2 l) | ((with_reducible refine gc 7 rfl ?_); refine zF 19 Try.func7 #[.agg #[.int .i64 i0, .slice p0 g0.length q0], .int .i64 1048576] rfl zL ?_; refine (laws_szLm.calls k i0 _ _ g0 1048576 X2 _ (zS A0) B0.out A5.out).mono ?_; rintro e c0n ⟨rfl, hb⟩; refine ⟨_, rfl, ?_⟩; have J := z7 l hb; have L := z8 hb; revert J L; clear l HB; intro l HB; obtain ⟨a9z, b0a, b0b, b0c⟩ := zc2 l) | ((with_reducible refine gc 9 rfl ?_); refine zF 23 Try.func9 #[.agg #[.int .i64 i0, .slice p0 g0.length q0]] rfl zL ?_; refine (laws_toLm.calls k i0 _ _ g0 O0 x0 _ (zS A0) B0.out g5.out).mono ?_; rintro e c0o ⟨v266, rfl, I, hb⟩; refine ⟨_, rfl, ?_⟩; have J := zK (Kd.S_lower I (zz zB)); have L := z7 l hb; have M := z8 hb; revert J L M; clear l HB; intro A l HB) | ((with_reducible refine gc 20 rfl ?_); refine zF 25 Try.func20 #[.slice A1 l1.length c1] rfl zL ?_; refine (laws_toIntS.calls k _ _ l1 f0 _ (zS n1) o1.out i5.out).mono ?_; rintro e c0p ⟨v269, rfl, I, hb⟩; refine ⟨_, rfl, ?_⟩; have J := zK (Kd.S_elder' (zkS A) (Kd.R_base I) hb); have L := zK (Kd.R_lower I (zz zB)); have M := z7 l hb; have O := z8 hb; revert J L M O; clear A l HB; intro A q l HB; obtain ⟨S5, T5, X9⟩ := Kd.S_slice A.out; subst X9; obtain ⟨t2, x2, a0a⟩ := Kd.R_slice q.out; subst a0a) | ((with_reducible refine gc 19 rfl ?_); refine zF 26 Try.func19 #[.agg #[.int .i64 O0, .slice S5 x0.length T5], .slice t2 f0.length x2] rfl zL ?_; refine (spec_Weights.calls k O0 _ _ x0 _ _ f0 c0 _ (zC (Kd.S_reads' A.out).2.2) ((Kd.S_reads' A.out).2.1) (zC (Kd.R_reads' q.out).2.2) ((Kd.R_reads' q.out).2.1) j5.out).mono ?_; rintro e c0q ⟨v272, rfl, I, hb⟩; refine ⟨_, rfl, ?_⟩; have J := zK (Kd.S_elder' (zkS A) (Kd.R_base I) hb); have L := zK (Kd.R_elder' (zkR q) (Kd.R_base I) hb); have M := zK (Kd.R_lower (Kd.R_new' I (Kd.R_lt (zkR q))) (zz zB)); have O := z7 l hb; have X := z8 hb; revert J L M O X; clear A q l HB; intro A q u l HB; obtain ⟨b0d, b0e, b0f, b0g⟩ := zc2 l) | ((with_reducible refine gc 9 rfl ?_); refine zF 28 Try.func9 #[.agg #[.int .i64 i0, .slice p0 g0.length q0]] rfl zL ?_; refine (laws_toLm.calls k i0 _ _ g0 n0 j0 _ (zS A0) B0.out l5.out).mono ?_; rintro e c0s ⟨v276, rfl, I, hb⟩; refine ⟨_, rfl, ?_⟩; have J := zK (Kd.S_elder' (zkS A) (Kd.S_base I) hb); have L := zK (Kd.R_below (zkR q) hb); have M := zK (Kd.R_below (zkR u) hb); have O := zK (Kd.S_lower (Kd.S_new' (Kd.S_new' (Kd.S_new' I (Kd.S_lt (zkS A))) (Kd.R_lt (zkR q))) (Kd.R_lt (zkR u))) (zz zB)); have X := z7 l hb; have b0 := z8 hb; revert J L M O X b0; clear A q u l HB; intro A q u E l HB) | ((with_reducible refine gd 7 rfl ?_); refine zJ 7 #[.int .i64 0, .slice none 0 0] 29 ?_; intro y0 hg c0t hbox hb; have J := zK (Kd.S_below (zkS A) hb); have L := zK (Kd.R_below (zkR q) hb); have M := zK (Kd.R_below (zkR u) hb); have O := zK (Kd.S_below (zkS E) hb); have X := z7 l hb; have b0 := z8 hb; have d0 := zK (hbox); have e0 := z9 hg; have m0 := z9 hg; have t0 := zHH hg l; have F0 := zGG hg l; revert J L M O X b0 d0 e0 m0 t0 F0; clear A q u E l HB; intro A q u E l HB y o3 V0 I0 J0; clear hb hbox hg; have b5o := J0.out; have b5p := I0.out; obtain ⟨b0j, b0l, b0m, b0n⟩ := zc2 y; obtain ⟨b4, c4, a0b⟩ := Kd.S_slice E.out; subst a0b) | ((with_reducible refine gc 20 rfl ?_); refine zF 30 Try.func20 #[.slice A1 l1.length c1] rfl zL ?_; refine (laws_toIntS.calls k _ _ l1 T _ (z4 n1.out zB) o1.out m5.out).mono ?_; rintro e c0u ⟨v280, rfl, I, hb⟩; refine ⟨_, rfl, ?_⟩; have J := zK (Kd.S_elder' (Kd.S_mono (zlS (Kd.S_types A.out y.out (by decide))) (fun _ h_ => h_.1)) (Kd.R_base I) hb); have L := zK (Kd.R_elder' (Kd.R_mono (zlR (Kd.R_types q.out y.out (by decide))) (fun _ h_ => h_.1)) (Kd.R_base I) hb); have M := zK (Kd.R_elder' (Kd.R_mono (zlR (Kd.R_types u.out y.out (by decide))) (fun _ h_ => h_.1)) (Kd.R_base I) hb); have O := zK (Kd.S_elder' (Kd.S_mono (zlS (Kd.S_types E.out y.out (by decide))) (fun _ h_ => h_.1)) (Kd.R_base I) hb); have X := zK (Kd.R_lower (Kd.R_new' (Kd.R_new' I (Kd.R_lt (Kd.R_mono (zlR (Kd.R_types q.out y.out (by decide))) (fun _ h_ => h_.1)))) (Kd.R_lt (Kd.R_mono (zlR (Kd.R_types u.out y.out (by decide))) (fun _ h_ => h_.1)))) (zz zB)); have b0 := zK (zg (zV l) hb); have d0 := zK (zg (g := y0) (o := .cells #[.int .i64 n0, .slice b4 j0.length c4] 29 (0, 0)) (zW y) hb); have e0 := z8 hb; revert J L M O X b0 d0 e0; clear A q u E l y HB; intro A q u E z l y HB; obtain ⟨b0o, b0p, b0q, b0s⟩ := zc2 y; obtain ⟨G1, I1, a0c⟩ := Kd.R_slice z.out; subst a0c) | ((with_reducible refine gc 21 rfl ?_); refine zF 33 Try.func21 #[.agg #[.int .i64 n0, .slice b4 j0.length c4], .slice G1 T.length I1] rfl zL ?_; refine (impl_Weights.calls k n0 _ _ j0 _ _ T U _ (zC (Kd.S_reads' E.out).2.2) ((Kd.S_reads' E.out).2.1) (zC (Kd.R_reads' z.out).2.2) ((Kd.R_reads' z.out).2.1) n5.out).mono ?_; rintro e l3 ⟨v283, rfl, I, hb⟩; refine ⟨_, rfl, ?_⟩; have J := zK (Kd.S_elder' (zkS A) (Kd.R_base I) hb); have L := zK (Kd.R_elder' (zkR q) (Kd.R_base I) hb); have M := zK (Kd.R_elder' (zkR u) (Kd.R_base I) hb); have O := zK (Kd.S_elder' (zkS E) (Kd.R_base I) hb); have X := zK (Kd.R_elder' (zkR z) (Kd.R_base I) hb); have b0 := zK (Kd.R_lower (Kd.R_new' (Kd.R_new' (Kd.R_new' I (Kd.R_lt (zkR q))) (Kd.R_lt (zkR u))) (Kd.R_lt (zkR z))) (zz zB)); have d0 := z7 l hb; have e0 := z7 y hb; have m0 := z8 hb; revert J L M O X b0 d0 e0 m0; clear A q u E z l y HB; intro A q u E z B l y HB; obtain ⟨g1, i1, a0d⟩ := Kd.R_slice B.out; subst a0d; obtain ⟨d2, e2, a0e⟩ := Kd.R_slice u.out; subst a0e) | ((with_reducible refine gc 22 rfl ?_); refine zF 36 Try.func22 #[.slice g1 U.length i1, .slice d2 c0.length e2] rfl zL ?_; refine (laws_eqIntS.calls k _ _ U _ _ c0 true _ (zC (Kd.R_reads' B.out).2.2) ((Kd.R_reads' B.out).2.1) (zC (Kd.R_reads' u.out).2.2) ((Kd.R_reads' u.out).2.1) o5.out).mono ?_; rintro e w' ⟨rfl, ⟨nd, rfl⟩⟩; refine ⟨_, rfl, ?_⟩))
   (try (rw [drewN_self l3]; generalize hq_ : World.drewN l3 _ = l3; have J : Aside0 (Kd.S k57 57 l3 w.heap.size (fun k_ => (((((True ∧ some k_ ≠ (.slice t2 f0.length x2 : Value).ownBlock) ∧ some k_ ≠ (.slice d2 c0.length e2 : Value).ownBlock) ∧ some k_ ≠ (.slice b4 j0.length c4 : Value).ownBlock) ∧ some k_ ≠ (.slice G1 T.length I1 : Value).ownBlock) ∧ some k_ ≠ (.slice g1 U.length i1 : Value).ownBlock)) (.slice S5 x0.length T5) x0) := ⟨by rw [← hq_]; exact zkS A⟩; have L : Aside0 (Kd.R (Kd.int .i64) 3 l3 w.heap.size (fun k_ => (((True ∧ some k_ ≠ (.slice d2 c0.length e2 : Value).ownBlock) ∧ some k_ ≠ (.slice G1 T.length I1 : Value).ownBlock) ∧ some k_ ≠ (.slice g1 U.length i1 : Value).ownBlock)) (.slice t2 f0.length x2) f0) := ⟨by rw [← hq_]; exact zkR q⟩; have M : Aside0 (Kd.R (Kd.int .i64) 3 l3 w.heap.size (fun k_ => (((True ∧ some k_ ≠ (.slice t2 f0.length x2 : Value).ownBlock) ∧ some k_ ≠ (.slice G1 T.length I1 : Value).ownBlock) ∧ some k_ ≠ (.slice g1 U.length i1 : Value).ownBlock)) (.slice d2 c0.length e2) c0) := ⟨by rw [← hq_]; exact zkR u⟩; have O : Aside0 (Kd.S k57 57 l3 w.heap.size (fun k_ => (((((True ∧ some k_ ≠ (.slice S5 x0.length T5 : Value).ownBlock) ∧ some k_ ≠ (.slice t2 f0.length x2 : Value).ownBlock) ∧ some k_ ≠ (.slice d2 c0.length e2 : Value).ownBlock) ∧ some k_ ≠ (.slice G1 T.length I1 : Value).ownBlock) ∧ some k_ ≠ (.slice g1 U.length i1 : Value).ownBlock)) (.slice b4 j0.length c4) j0) := ⟨by rw [← hq_]; exact zkS E⟩; have X : Aside0 (Kd.R (Kd.int .i64) 3 l3 w.heap.size (fun k_ => (((True ∧ some k_ ≠ (.slice t2 f0.length x2 : Value).ownBlock) ∧ some k_ ≠ (.slice d2 c0.length e2 : Value).ownBlock) ∧ some k_ ≠ (.slice g1 U.length i1 : Value).ownBlock)) (.slice G1 T.length I1) T) := ⟨by rw [← hq_]; exact zkR z⟩; have b0 : Aside0 (Kd.R (Kd.int .i64) 3 l3 w.heap.size (fun k_ => (((True ∧ some k_ ≠ (.slice t2 f0.length x2 : Value).ownBlock) ∧ some k_ ≠ (.slice d2 c0.length e2 : Value).ownBlock) ∧ some k_ ≠ (.slice G1 T.length I1 : Value).ownBlock)) (.slice g1 U.length i1) U) := ⟨by rw [← hq_]; exact zkR B⟩; have d0 : Aside0 (l3.heap[C0]? = some (.cells #[.int .i64 i0, .slice p0 g0.length q0] 24 (0, 0))) := ⟨by rw [← hq_]; exact (zM l)⟩; have e0 : Aside0 (l3.heap[y0]? = some (.cells #[.int .i64 n0, .slice b4 j0.length c4] 29 (0, 0))) := ⟨by rw [← hq_]; exact (zM y)⟩; have m0 : Aside0 (Below w.heap.size w l3) := ⟨by rw [← hq_]; exact zB⟩; clear A q u E z B l y HB hq_; revert J L M O X b0 d0 e0 m0; intro A q u E z B l y HB))
   have J := zK (Kd.S_drew A.out)
   have L := zK (Kd.R_drew q.out)
   have M := zK (Kd.R_drew u.out)
   have O := zK (Kd.S_drew E.out)
   have X := zK (Kd.R_drew z.out)
   have b0 := zK (Kd.R_drew B.out)
   have d0 := zK (zd l.out)
   have e0 := zK (zd y.out)
   have m0 := zK (ze HB.out)
   revert J L M O X b0 d0 e0 m0
   clear A q u E z B l y HB
   intro A q u E z B l y HB
   refine start_ (n := 5) (S := fun w' => w'.cell? ⟨y0, 0, none⟩ = some (.int .i64 n0) ∧ w'.cell? ⟨y0, 1, none⟩ = some (.slice b4 j0.length c4) ∧ w'.cell? ⟨C0, 0, none⟩ = some (.int .i64 i0) ∧ w'.cell? ⟨C0, 1, none⟩ = some (.slice p0 g0.length q0)) (ds := []) (bl 5 0) (by kernel_rfl) rfl (by kernel_rfl) ⟨zy y 0, zy y 1, zy l 0, zy l 1⟩ (fun hHeld => ?_)
   generalize l3.drew = c0x at A q u E z B l y HB hHeld ⊢
   refine take_ (i := 0) (N := some 38) (v := ?_) (a' := ?_) (bl 5 1) rfl rfl (by kernel_rfl) (fun _ _ _ h => h) (Or.inl ⟨by rfl, ?_⟩) hHeld ?_ ?_
   rotate_left
   · rintro w' ⟨s0, s1, s2, s3⟩
     go_simp
     with_reducible rfl
   rotate_left
   · simp only [Act.put, zq1, zq2, zq3, i64_w, i32_w]
     rfl
   refine take_ (i := 1) (N := some 39) (v := ?_) (a' := ?_) (bl 5 3) rfl rfl (by kernel_rfl) (fun _ _ _ h => h) (Or.inl ⟨by rfl, ?_⟩) hHeld ?_ ?_
   rotate_left
   · rintro w' ⟨s0, s1, s2, s3⟩
     go_simp
     with_reducible rfl
   rotate_left
   · simp only [Act.put, zq1, zq2, zq3, i64_w, i32_w]
     rfl
   refine one_ (i := 2) (N := some 40) (bl 5 7) rfl rfl (by kernel_rfl) (by decide) (fun K hK => ?_)
   refine goes_ Try.func9 (by kernel_rfl) rfl #[.agg #[.int .i64 i0, .slice p0 g0.length q0]] (by rfl) rfl rfl zL ?_
   refine (laws_toLm.calls k i0 _ _ g0 R0 L0 _ (zS A0) B0.out p5.out).mono ?_
   rintro e c0y ⟨v288, rfl, I, hb⟩
   refine ⟨_, rfl, ?_⟩
   have J := zK (Kd.S_elder' (zkS A) (Kd.S_base I) hb)
   have L := zK (Kd.R_below (zkR q) hb)
   have M := zK (Kd.R_below (zkR u) hb)
   have O := zK (Kd.S_elder' (zkS E) (Kd.S_base I) hb)
   have X := zK (Kd.R_below (zkR z) hb)
   have b0 := zK (Kd.R_below (zkR B) hb)
   have d0 := zK (Kd.S_lower (Kd.S_new' (Kd.S_new' (Kd.S_new' (Kd.S_new' (Kd.S_new' (Kd.S_new' I (Kd.S_lt (zkS A))) (Kd.R_lt (zkR q))) (Kd.R_lt (zkR u))) (Kd.S_lt (zkS E))) (Kd.R_lt (zkR z))) (Kd.R_lt (zkR B))) (zz zB))
   have e0 := z7 l hb
   have m0 := z7 y hb
   have t0 := z8 hb
   revert J L M O X b0 d0 e0 m0 t0
   clear A q u E z B l y HB
   intro A q u E z B l0 l y HB
   (try clear hb)
   (try clear hb2)
   (try clear hk)
   (try clear hi)
   (try clear I)
   obtain ⟨f7, g7, i7⟩ := Kd.S_slice l0.out
   (first | subst i7 | (injection i7 with f1_ f2_ f3_; have f4_ := f1_.symm; have f5_ := f3_.symm; clear f1_ f2_ f3_; subst f4_; subst f5_))
   refine hK.out _ _ ⟨zy y 0, zy y 1, zy l 0, zy l 1⟩ (fun hHeld => ?_)
   clear hK K
   refine zU 40 ?_
   refine one_ (i := 3) (N := some 41) (bl 5 15) rfl rfl (by kernel_rfl) (by decide) (fun K hK => ?_)
   refine goes_ Try.func11 (by kernel_rfl) rfl #[.agg #[.int .i64 n0, .slice b4 j0.length c4], .agg #[.int .i64 R0, .slice f7 L0.length g7]] (by rfl) rfl rfl zL ?_
   refine (laws_eqLm.calls k n0 _ _ j0 R0 _ _ L0 true _ (zC (Kd.S_reads' E.out).2.2) ((Kd.S_reads' E.out).2.1) (zC (Kd.S_reads' l0.out).2.2) ((Kd.S_reads' l0.out).2.1) q5.out).mono ?_
   rintro e c0z ⟨rfl, hb⟩
   refine ⟨_, rfl, ?_⟩
   have J := zK (Kd.S_below (zkS A) hb)
   have L := zK (Kd.R_below (zkR q) hb)
   have M := zK (Kd.R_below (zkR u) hb)
   have O := zK (Kd.S_below (zkS E) hb)
   have X := zK (Kd.R_below (zkR z) hb)
   have b0 := zK (Kd.R_below (zkR B) hb)
   have d0 := zK (Kd.S_below (zkS l0) hb)
   have e0 := z7 l hb
   have m0 := z7 y hb
   have t0 := z8 hb
   revert J L M O X b0 d0 e0 m0 t0
   clear A q u E z B l0 l y HB
   intro A q u E z B l0 l y HB
   (try clear hb)
   (try clear hb2)
   (try clear hk)
   (try clear hi)
   refine hK.out _ _ ⟨zy y 0, zy y 1, zy l 0, zy l 1⟩ (fun hHeld => ?_)
   clear hK K
   refine zU 41 ?_
   refine pure_ (i := 4) (N := some 42) (v := ?_) (a' := ?_) (bl 5 31) rfl rfl (by kernel_rfl) (fun _ _ _ h => h) (Or.inl ⟨by rfl, ?_⟩) ?_ ?_
   rotate_left
   · intro w'
     go_simp
     with_reducible rfl
   rotate_left
   · simp only [Act.put, zq1, zq2, zq3, i64_w, i32_w]
     rfl
   refine done_ (by kernel_rfl) ?_
   try go_wp2_with (first | ((with_reducible refine gc 20 rfl ?_); refine zF 45 Try.func20 #[.slice A1 l1.length c1] rfl zL ?_; refine (laws_toIntS.calls k _ _ l1 o0 _ (zS n1) o1.out x5.out).mono ?_; rintro e c1a ⟨v292, rfl, I, hb⟩; refine ⟨_, rfl, ?_⟩; have J := zK (Kd.S_elder' (zkS A) (Kd.R_base I) hb); have L := zK (Kd.R_elder' (zkR q) (Kd.R_base I) hb); have M := zK (Kd.R_elder' (zkR u) (Kd.R_base I) hb); have O := zK (Kd.S_elder' (zkS E) (Kd.R_base I) hb); have X := zK (Kd.R_elder' (zkR z) (Kd.R_base I) hb); have b0 := zK (Kd.R_elder' (zkR B) (Kd.R_base I) hb); have d0 := zK (Kd.S_elder' (zkS l0) (Kd.R_base I) hb); have e0 := zK (Kd.R_lower (Kd.R_new' (Kd.R_new' (Kd.R_new' (Kd.R_new' I (Kd.R_lt (zkR q))) (Kd.R_lt (zkR u))) (Kd.R_lt (zkR z))) (Kd.R_lt (zkR B))) (zz zB)); have m0 := z7 l hb; have t0 := z7 y hb; have F0 := z8 hb; revert J L M O X b0 d0 e0 m0 t0 F0; clear A q u E z B l0 l y HB; intro A q u E z B l0 a0 l y HB; obtain ⟨d4, e4, a0f⟩ := Kd.R_slice a0.out; subst a0f) | ((with_reducible refine gc 22 rfl ?_); refine zF 46 Try.func22 #[.slice G1 T.length I1, .slice d4 o0.length e4] rfl zL ?_; refine (laws_eqIntS.calls k _ _ T _ _ o0 true _ (zC (Kd.R_reads' z.out).2.2) ((Kd.R_reads' z.out).2.1) (zC (Kd.R_reads' a0.out).2.2) ((Kd.R_reads' a0.out).2.1) y5.out).mono ?_; rintro e w' ⟨rfl, ⟨nd, rfl⟩⟩; refine ⟨_, rfl, ?_⟩; obtain ⟨b0t, b0u, b0x, b0y⟩ := zc2 y) | ((with_reducible refine gc 23 rfl ?_); refine zF 50 Try.func23 #[.agg #[.int .i64 n0, .slice b4 j0.length c4], .int .i64 1] rfl zL ?_; (with_reducible refine (Marks.markLm_E (fun k_ => (((((((True ∧ some k_ ≠ (.slice S5 x0.length T5 : Value).ownBlock) ∧ some k_ ≠ (.slice t2 f0.length x2 : Value).ownBlock) ∧ some k_ ≠ (.slice d2 c0.length e2 : Value).ownBlock) ∧ some k_ ≠ (.slice G1 T.length I1 : Value).ownBlock) ∧ some k_ ≠ (.slice g1 U.length i1 : Value).ownBlock) ∧ some k_ ≠ (.slice f7 L0.length g7 : Value).ownBlock) ∧ some k_ ≠ (.slice d4 o0.length e4 : Value).ownBlock)) n0 j0 1 N0 w.heap.size _ ?side1 ?side2).mono ?_); (case side1 => exact Kd.S_R (zkS E)); (case side2 => exact E5.out); rintro e c1b ⟨rfl, hb⟩; refine ⟨_, rfl, ?_⟩; have J := zK (Marks.Turned.block hb (zM l) (by decide)); have L := zK (Marks.Turned.R hb (zkR q) (fun k_ e_ o_ => (o_.1.1.1.1.1.2) e_)); have M := zK (Marks.Turned.R hb (zkR u) (fun k_ e_ o_ => (o_.1.1.1.1.2) e_)); have O := zK (Marks.Turned.block hb (zM y) (by decide)); have X := zK (Marks.Turned.R hb (zkR z) (fun k_ e_ o_ => (o_.1.1.1.2) e_)); have b0 := zK (Marks.Turned.R hb (zkR B) (fun k_ e_ o_ => (o_.1.1.2) e_)); have d0 := zK (Marks.Turned.R hb (zkR a0) (fun k_ e_ o_ => (o_.2) e_)); have e0 := zK (Marks.Turned.below hb zB); revert J L M O X b0 d0 e0; clear l q u y z B a0 HB A E l0; intro l q u y z B a0 HB) | ((with_reducible refine gc 24 rfl ?_); refine zF 53 Try.func24 #[.slice G1 T.length I1, .int .i64 N0] rfl zL ?_; (with_reducible refine (laws_markIntS.calls k (fun k_ => some k_ = (.slice G1 T.length I1 : Value).ownBlock) (.slice G1 T.length I1) T N0 l4 X4 w _ ?side1 ?side2 F5.out).mono ?_); (case side1 => repeat (first | (with_reducible first | exact HB.out | apply zb | apply zw | apply ze | refine zs ?_ U0.out | refine zs ?_ V0.out) | exact HB.out)); (case side2 => exact Kd.R_tight rfl z.out); rintro e c1c ⟨rfl, S0, hb, hkp⟩; refine ⟨_, rfl, ?_⟩; have J := zK (blk_kept (zM l) hkp (fun hs_ => (fun e_ => (Kd.R_ne z.out l.out (by decide)) e_) hs_)); have L := zK (Kd.R_mono (ok' := fun k_ => some k_ ≠ (.slice d2 c0.length e2 : Value).ownBlock ∧ some k_ ≠ (.slice G1 T.length I1 : Value).ownBlock ∧ some k_ ≠ (.slice g1 U.length i1 : Value).ownBlock ∧ some k_ ≠ (.slice d4 o0.length e4 : Value).ownBlock) (Kd.R_keptB (q.out) hkp (fun k_ hk_ hs_ => (hk_.1.1.2) hs_)) (fun k_ hk_ => ⟨hk_.1.1.1.1.2, hk_.1.1.1.2, hk_.1.1.2, hk_.1.2⟩)); have M := zK (Kd.R_mono (ok' := fun k_ => some k_ ≠ (.slice t2 f0.length x2 : Value).ownBlock ∧ some k_ ≠ (.slice G1 T.length I1 : Value).ownBlock ∧ some k_ ≠ (.slice g1 U.length i1 : Value).ownBlock ∧ some k_ ≠ (.slice d4 o0.length e4 : Value).ownBlock) (Kd.R_keptB (u.out) hkp (fun k_ hk_ hs_ => (hk_.1.1.2) hs_)) (fun k_ hk_ => ⟨hk_.1.1.1.1.2, hk_.1.1.1.2, hk_.1.1.2, hk_.1.2⟩)); have O := zK (blk_kept (zM y) hkp (fun hs_ => (fun e_ => (Kd.R_ne z.out y.out (by decide)) e_) hs_)); have X := zK (Kd.R_reok rfl S0 (fun k_ e_ => z.out.1 k_ e_)); have b0 := zK (Kd.R_mono (ok' := fun k_ => some k_ ≠ (.slice t2 f0.length x2 : Value).ownBlock ∧ some k_ ≠ (.slice d2 c0.length e2 : Value).ownBlock ∧ some k_ ≠ (.slice G1 T.length I1 : Value).ownBlock ∧ some k_ ≠ (.slice d4 o0.length e4 : Value).ownBlock) (Kd.R_keptB (B.out) hkp (fun k_ hk_ hs_ => (hk_.1.2) hs_)) (fun k_ hk_ => ⟨hk_.1.1.1.1.2, hk_.1.1.1.2, hk_.1.1.2, hk_.1.2⟩)); have d0 := zK (Kd.R_mono (ok' := fun k_ => some k_ ≠ (.slice t2 f0.length x2 : Value).ownBlock ∧ some k_ ≠ (.slice d2 c0.length e2 : Value).ownBlock ∧ some k_ ≠ (.slice G1 T.length I1 : Value).ownBlock ∧ some k_ ≠ (.slice g1 U.length i1 : Value).ownBlock) (Kd.R_keptB (a0.out) hkp (fun k_ hk_ hs_ => (hk_.1.2) hs_)) (fun k_ hk_ => ⟨hk_.1.1.1.1.2, hk_.1.1.1.2, hk_.1.1.2, hk_.1.2⟩)); have e0 := zK (hb); revert J L M O X b0 d0 e0; clear l q u y z B a0 HB; intro l q u y z B a0 HB; (try clear hkp); (try clear S0)) | (go_at_call 22; (with_reducible refine (laws_eqIntS.calls k _ _ U _ _ c0 true _ ?side1 ?side2 ?side3 ?side4 b6.out).mono ?_); (case side1 => exact zC (Kd.R_reads' B.out).2.2); (case side2 => exact (Kd.R_reads' B.out).2.1); (case side3 => exact zC (Kd.R_reads' u.out).2.2); (case side4 => exact (Kd.R_reads' u.out).2.1); rintro e w' ⟨rfl, ⟨nd, rfl⟩⟩) | ((with_reducible refine gc 24 rfl ?_); refine zF 64 Try.func24 #[.slice g1 U.length i1, .int .i64 1] rfl zL ?_; (with_reducible refine (laws_markIntS.calls k (fun k_ => some k_ = (.slice g1 U.length i1 : Value).ownBlock) (.slice g1 U.length i1) U 1 C3 G0 w _ ?side1 ?side2 g6.out).mono ?_); (case side1 => repeat (first | (with_reducible first | exact HB.out | apply zb | apply zw | apply ze | refine zs ?_ U0.out | refine zs ?_ V0.out) | exact HB.out)); (case side2 => exact Kd.R_tight rfl B.out); rintro e c1d ⟨rfl, S0, hb, hkp⟩; refine ⟨_, rfl, ?_⟩; have J := zK (blk_kept (zM l) hkp (fun hs_ => (fun e_ => (Kd.R_ne B.out l.out (by decide)) e_) hs_)); have L := zK (Kd.R_mono (ok' := fun k_ => some k_ ≠ (.slice d2 c0.length e2 : Value).ownBlock ∧ some k_ ≠ (.slice G1 T.length I1 : Value).ownBlock ∧ some k_ ≠ (.slice g1 U.length i1 : Value).ownBlock ∧ some k_ ≠ (.slice d4 o0.length e4 : Value).ownBlock) (Kd.R_keptB (q.out) hkp (fun k_ hk_ hs_ => (hk_.2.2.1) hs_)) (fun k_ hk_ => ⟨hk_.1.1, hk_.1.2.1, hk_.1.2.2.1, hk_.1.2.2.2⟩)); have M := zK (Kd.R_mono (ok' := fun k_ => some k_ ≠ (.slice t2 f0.length x2 : Value).ownBlock ∧ some k_ ≠ (.slice G1 T.length I1 : Value).ownBlock ∧ some k_ ≠ (.slice g1 U.length i1 : Value).ownBlock ∧ some k_ ≠ (.slice d4 o0.length e4 : Value).ownBlock) (Kd.R_keptB (u.out) hkp (fun k_ hk_ hs_ => (hk_.2.2.1) hs_)) (fun k_ hk_ => ⟨hk_.1.1, hk_.1.2.1, hk_.1.2.2.1, hk_.1.2.2.2⟩)); have O := zK (blk_kept (zM y) hkp (fun hs_ => (fun e_ => (Kd.R_ne B.out y.out (by decide)) e_) hs_)); have X := zK (Kd.R_mono (ok' := fun k_ => some k_ ≠ (.slice t2 f0.length x2 : Value).ownBlock ∧ some k_ ≠ (.slice d2 c0.length e2 : Value).ownBlock ∧ some k_ ≠ (.slice g1 U.length i1 : Value).ownBlock ∧ some k_ ≠ (.slice d4 o0.length e4 : Value).ownBlock) (Kd.R_keptB (z.out) hkp (fun k_ hk_ hs_ => (hk_.1.2) hs_)) (fun k_ hk_ => ⟨hk_.1.1.1.1.2, hk_.1.1.1.2, hk_.1.1.2, hk_.1.2⟩)); have b0 := zK (Kd.R_reok rfl S0 (fun k_ e_ => B.out.1 k_ e_)); have d0 := zK (Kd.R_mono (ok' := fun k_ => some k_ ≠ (.slice t2 f0.length x2 : Value).ownBlock ∧ some k_ ≠ (.slice d2 c0.length e2 : Value).ownBlock ∧ some k_ ≠ (.slice G1 T.length I1 : Value).ownBlock ∧ some k_ ≠ (.slice g1 U.length i1 : Value).ownBlock) (Kd.R_keptB (a0.out) hkp (fun k_ hk_ hs_ => (hk_.2.2.2) hs_)) (fun k_ hk_ => ⟨hk_.1.1, hk_.1.2.1, hk_.1.2.2.1, hk_.1.2.2.2⟩)); have e0 := zK (hb); revert J L M O X b0 d0 e0; clear l q u y z B a0 HB; intro l q u y z B a0 HB; (try clear hkp); (try clear S0)) | ((with_reducible refine gc 25 rfl ?_); refine zF 67 Try.func25 #[.slice g1 G0.length i1, .int .i64 1] rfl (by (try simp only [List.map_toArray, List.map_cons, List.map_nil]); first | done | (rw [show G0.length = U.length from (Kd.R_reads' B.out).1.symm] <;> rfl) | rfl | (simp only [List.length_drop, List.length_take]; rfl)) ?_; (with_reducible refine (laws_heldIntS.calls k _ _ G0 1 X0 _ ?side1 ?side2 i6.out).mono ?_); (case side1 => exact zC (Kd.R_reads' B.out).2.2); (case side2 => rw [show G0.length = U.length from (Kd.R_reads' B.out).1.symm]; exact (Kd.R_reads' B.out).2.1); rintro e w' ⟨rfl, ⟨nd, rfl⟩⟩; refine ⟨_, rfl, ?_⟩; obtain ⟨b0z, b1a, b1b, b1c⟩ := zc2 l) | ((with_reducible refine gc 9 rfl ?_); refine zF 74 Try.func9 #[.agg #[.int .i64 i0, .slice p0 g0.length q0]] rfl zL ?_; refine (laws_toLm.calls k i0 _ _ g0 f3 g3 _ (zS A0) B0.out R6.out).mono ?_; rintro e c1e ⟨v304, rfl, I, hb⟩; refine ⟨_, rfl, ?_⟩; have J := zK (Kd.R_below (zkR q) hb); have L := zK (Kd.R_below (zkR u) hb); have M := zK (Kd.R_below (zkR z) hb); have O := zK (Kd.R_below (zkR B) hb); have X := zK (Kd.R_below (zkR a0) hb); have b0 := zK (Kd.S_lower (Kd.S_new' (Kd.S_new' (Kd.S_new' (Kd.S_new' (Kd.S_new' I (Kd.R_lt (zkR q))) (Kd.R_lt (zkR u))) (Kd.R_lt (zkR z))) (Kd.R_lt (zkR B))) (Kd.R_lt (zkR a0))) (zz zB)); have d0 := z7 l hb; have e0 := z7 y hb; have m0 := z8 hb; revert J L M O X b0 d0 e0 m0; clear q u z B a0 l y HB; intro q u z B a0 D0 l y HB) | ((with_reducible refine gc 20 rfl ?_); refine zF 76 Try.func20 #[.slice A1 l1.length c1] rfl zL ?_; refine (laws_toIntS.calls k _ _ l1 a1 _ (zS n1) o1.out S6.out).mono ?_; rintro e c1f ⟨v307, rfl, I, hb⟩; refine ⟨_, rfl, ?_⟩; have J := zK (Kd.R_elder' (zkR q) (Kd.R_base I) hb); have L := zK (Kd.R_elder' (zkR u) (Kd.R_base I) hb); have M := zK (Kd.R_elder' (zkR z) (Kd.R_base I) hb); have O := zK (Kd.R_elder' (zkR B) (Kd.R_base I) hb); have X := zK (Kd.R_elder' (zkR a0) (Kd.R_base I) hb); have b0 := zK (Kd.S_elder' (zkS D0) (Kd.R_base I) hb); have d0 := zK (Kd.R_lower (Kd.R_new' (Kd.R_new' (Kd.R_new' (Kd.R_new' (Kd.R_new' I (Kd.R_lt (zkR q))) (Kd.R_lt (zkR u))) (Kd.R_lt (zkR z))) (Kd.R_lt (zkR B))) (Kd.R_lt (zkR a0))) (zz zB)); have e0 := z7 l hb; have m0 := z7 y hb; have t0 := z8 hb; revert J L M O X b0 d0 e0 m0 t0; clear q u z B a0 D0 l y HB; intro q u z B a0 D0 M0 l y HB; obtain ⟨a0g, a0j, a0l⟩ := Kd.S_slice D0.out; subst a0l; obtain ⟨a0m, a0n, a0o⟩ := Kd.R_slice M0.out; subst a0o) | ((with_reducible refine gc 21 rfl ?_); refine zF 77 Try.func21 #[.agg #[.int .i64 f3, .slice a0g g3.length a0j], .slice a0m a1.length a0n] rfl zL ?_; refine (impl_Weights.calls k f3 _ _ g3 _ _ a1 b1 _ (zC (Kd.S_reads' D0.out).2.2) ((Kd.S_reads' D0.out).2.1) (zC (Kd.R_reads' M0.out).2.2) ((Kd.R_reads' M0.out).2.1) T6.out).mono ?_; rintro e c1g ⟨v310, rfl, I, hb⟩; refine ⟨_, rfl, ?_⟩; have J := zK (Kd.R_elder' (zkR q) (Kd.R_base I) hb); have L := zK (Kd.R_elder' (zkR u) (Kd.R_base I) hb); have M := zK (Kd.R_elder' (zkR z) (Kd.R_base I) hb); have O := zK (Kd.R_elder' (zkR B) (Kd.R_base I) hb); have X := zK (Kd.R_elder' (zkR a0) (Kd.R_base I) hb); have b0 := zK (Kd.S_elder' (zkS D0) (Kd.R_base I) hb); have d0 := zK (Kd.R_elder' (zkR M0) (Kd.R_base I) hb); have e0 := zK (Kd.R_lower (Kd.R_new' (Kd.R_new' (Kd.R_new' (Kd.R_new' (Kd.R_new' (Kd.R_new' I (Kd.R_lt (zkR q))) (Kd.R_lt (zkR u))) (Kd.R_lt (zkR z))) (Kd.R_lt (zkR B))) (Kd.R_lt (zkR a0))) (Kd.R_lt (zkR M0))) (zz zB)); have m0 := z7 l hb; have t0 := z7 y hb; have F0 := z8 hb; revert J L M O X b0 d0 e0 m0 t0 F0; clear q u z B a0 D0 M0 l y HB; intro q u z B a0 D0 M0 a2 l y HB; obtain ⟨a0p, a0q, a0s⟩ := Kd.R_slice a2.out; subst a0s) | ((with_reducible refine gc 22 rfl ?_); refine zF 80 Try.func22 #[.slice a0p b1.length a0q, .slice d2 c0.length e2] rfl zL ?_; refine (laws_eqIntS.calls k _ _ b1 _ _ c0 true _ (zC (Kd.R_reads' a2.out).2.2) ((Kd.R_reads' a2.out).2.1) (zC (Kd.R_reads' u.out).2.2) ((Kd.R_reads' u.out).2.1) U6.out).mono ?_; rintro e w' ⟨rfl, ⟨nd, rfl⟩⟩; refine ⟨_, rfl, ?_⟩) | ((with_reducible refine gc 25 rfl ?_); refine zF 84 Try.func25 #[.slice g1 G0.length i1, .int .i64 1] rfl (by (try simp only [List.map_toArray, List.map_cons, List.map_nil]); first | done | (rw [show G0.length = U.length from (Kd.R_reads' B.out).1.symm] <;> rfl) | rfl | (simp only [List.length_drop, List.length_take]; rfl)) ?_; (with_reducible refine (laws_heldIntS.calls k _ _ G0 1 d1 _ ?side1 ?side2 c8.out).mono ?_); (case side1 => exact zC (Kd.R_reads' B.out).2.2); (case side2 => rw [show G0.length = U.length from (Kd.R_reads' B.out).1.symm]; exact (Kd.R_reads' B.out).2.1); rintro e w' ⟨rfl, ⟨nd, rfl⟩⟩; refine ⟨_, rfl, ?_⟩))
   go_ret
   exact ⟨zE, zB⟩
 rotate_right
 rw [if_pos t5] at H
 have e8 := beq_iff_eq.mpr t5
 have f8 := bne_eq_false_iff_eq.mpr t5
 clear t5
 obtain rfl := z5 H
 all_goals go_enter Try.func6, Try.ntmps6
 all_goals try go_wp2_with (first | ((with_reducible refine gd 2 rfl ?_); refine zJ 2 #[.int .i64 i0, .slice p0 g0.length q0] 24 ?_; intro C0 hg c1j hbox hb; have J := z8 hb; have L := zK (hbox); have M := z9 hg; have O := z9 hg; revert J L M O; clear HB; intro HB l n3 U0; clear hb hbox hg; obtain ⟨b1d, b1e, b1f, b1g⟩ := zc2 l) | ((with_reducible refine gc 7 rfl ?_); refine zF 19 Try.func7 #[.agg #[.int .i64 i0, .slice p0 g0.length q0], .int .i64 1048576] rfl zL ?_; refine (laws_szLm.calls k i0 _ _ g0 1048576 X2 _ (zS A0) B0.out A5.out).mono ?_; rintro e c1l ⟨rfl, hb⟩; refine ⟨_, rfl, ?_⟩; have J := z7 l hb; have L := z8 hb; revert J L; clear l HB; intro l HB; obtain ⟨b1j, b1l, b1m, b1n⟩ := zc2 l) | ((with_reducible refine gc 9 rfl ?_); refine zF 23 Try.func9 #[.agg #[.int .i64 i0, .slice p0 g0.length q0]] rfl zL ?_; refine (laws_toLm.calls k i0 _ _ g0 O0 x0 _ (zS A0) B0.out g5.out).mono ?_; rintro e c1m ⟨v266, rfl, I, hb⟩; refine ⟨_, rfl, ?_⟩; have J := zK (Kd.S_lower I (zz zB)); have L := z7 l hb; have M := z8 hb; revert J L M; clear l HB; intro A l HB) | ((with_reducible refine gc 20 rfl ?_); refine zF 25 Try.func20 #[.slice A1 l1.length c1] rfl zL ?_; refine (laws_toIntS.calls k _ _ l1 f0 _ (zS n1) o1.out i5.out).mono ?_; rintro e c1n ⟨v269, rfl, I, hb⟩; refine ⟨_, rfl, ?_⟩; have J := zK (Kd.S_elder' (zkS A) (Kd.R_base I) hb); have L := zK (Kd.R_lower I (zz zB)); have M := z7 l hb; have O := z8 hb; revert J L M O; clear A l HB; intro A q l HB; obtain ⟨U5, V5, a0t⟩ := Kd.S_slice A.out; subst a0t; obtain ⟨y2, A2, a0u⟩ := Kd.R_slice q.out; subst a0u) | ((with_reducible refine gc 19 rfl ?_); refine zF 26 Try.func19 #[.agg #[.int .i64 O0, .slice U5 x0.length V5], .slice y2 f0.length A2] rfl zL ?_; refine (spec_Weights.calls k O0 _ _ x0 _ _ f0 c0 _ (zC (Kd.S_reads' A.out).2.2) ((Kd.S_reads' A.out).2.1) (zC (Kd.R_reads' q.out).2.2) ((Kd.R_reads' q.out).2.1) j5.out).mono ?_; rintro e c1o ⟨v272, rfl, I, hb⟩; refine ⟨_, rfl, ?_⟩; have J := zK (Kd.S_elder' (zkS A) (Kd.R_base I) hb); have L := zK (Kd.R_elder' (zkR q) (Kd.R_base I) hb); have M := zK (Kd.R_lower (Kd.R_new' I (Kd.R_lt (zkR q))) (zz zB)); have O := z7 l hb; have X := z8 hb; revert J L M O X; clear A q l HB; intro A q u l HB; obtain ⟨b1o, b1p, b1q, b1s⟩ := zc2 l) | ((with_reducible refine gc 9 rfl ?_); refine zF 28 Try.func9 #[.agg #[.int .i64 i0, .slice p0 g0.length q0]] rfl zL ?_; refine (laws_toLm.calls k i0 _ _ g0 n0 j0 _ (zS A0) B0.out l5.out).mono ?_; rintro e c1p ⟨v276, rfl, I, hb⟩; refine ⟨_, rfl, ?_⟩; have J := zK (Kd.S_elder' (zkS A) (Kd.S_base I) hb); have L := zK (Kd.R_below (zkR q) hb); have M := zK (Kd.R_below (zkR u) hb); have O := zK (Kd.S_lower (Kd.S_new' (Kd.S_new' (Kd.S_new' I (Kd.S_lt (zkS A))) (Kd.R_lt (zkR q))) (Kd.R_lt (zkR u))) (zz zB)); have X := z7 l hb; have b0 := z8 hb; revert J L M O X b0; clear A q u l HB; intro A q u E l HB) | ((with_reducible refine gd 7 rfl ?_); refine zJ 7 #[.int .i64 0, .slice none 0 0] 29 ?_; intro y0 hg c1q hbox hb; have J := zK (Kd.S_below (zkS A) hb); have L := zK (Kd.R_below (zkR q) hb); have M := zK (Kd.R_below (zkR u) hb); have O := zK (Kd.S_below (zkS E) hb); have X := z7 l hb; have b0 := z8 hb; have d0 := zK (hbox); have e0 := z9 hg; have m0 := z9 hg; have t0 := zHH hg l; have F0 := zGG hg l; revert J L M O X b0 d0 e0 m0 t0 F0; clear A q u E l HB; intro A q u E l HB y o3 V0 I0 J0; clear hb hbox hg; have b5q := J0.out; have b5s := I0.out; obtain ⟨b1t, b1u, b1x, b1y⟩ := zc2 y; obtain ⟨f4, g4, a0x⟩ := Kd.S_slice E.out; subst a0x) | ((with_reducible refine gc 20 rfl ?_); refine zF 30 Try.func20 #[.slice A1 l1.length c1] rfl zL ?_; refine (laws_toIntS.calls k _ _ l1 T _ (z4 n1.out zB) o1.out m5.out).mono ?_; rintro e c1s ⟨v280, rfl, I, hb⟩; refine ⟨_, rfl, ?_⟩; have J := zK (Kd.S_elder' (Kd.S_mono (zlS (Kd.S_types A.out y.out (by decide))) (fun _ h_ => h_.1)) (Kd.R_base I) hb); have L := zK (Kd.R_elder' (Kd.R_mono (zlR (Kd.R_types q.out y.out (by decide))) (fun _ h_ => h_.1)) (Kd.R_base I) hb); have M := zK (Kd.R_elder' (Kd.R_mono (zlR (Kd.R_types u.out y.out (by decide))) (fun _ h_ => h_.1)) (Kd.R_base I) hb); have O := zK (Kd.S_elder' (Kd.S_mono (zlS (Kd.S_types E.out y.out (by decide))) (fun _ h_ => h_.1)) (Kd.R_base I) hb); have X := zK (Kd.R_lower (Kd.R_new' (Kd.R_new' I (Kd.R_lt (Kd.R_mono (zlR (Kd.R_types q.out y.out (by decide))) (fun _ h_ => h_.1)))) (Kd.R_lt (Kd.R_mono (zlR (Kd.R_types u.out y.out (by decide))) (fun _ h_ => h_.1)))) (zz zB)); have b0 := zK (zg (zV l) hb); have d0 := zK (zg (g := y0) (o := .cells #[.int .i64 n0, .slice f4 j0.length g4] 29 (0, 0)) (zW y) hb); have e0 := z8 hb; revert J L M O X b0 d0 e0; clear A q u E l y HB; intro A q u E z l y HB; obtain ⟨b1z, b2a, b2b, b2c⟩ := zc2 y; obtain ⟨J1, L1, a0y⟩ := Kd.R_slice z.out; subst a0y) | ((with_reducible refine gc 21 rfl ?_); refine zF 33 Try.func21 #[.agg #[.int .i64 n0, .slice f4 j0.length g4], .slice J1 T.length L1] rfl zL ?_; refine (impl_Weights.calls k n0 _ _ j0 _ _ T U _ (zC (Kd.S_reads' E.out).2.2) ((Kd.S_reads' E.out).2.1) (zC (Kd.R_reads' z.out).2.2) ((Kd.R_reads' z.out).2.1) n5.out).mono ?_; rintro e m3 ⟨v283, rfl, I, hb⟩; refine ⟨_, rfl, ?_⟩; have J := zK (Kd.S_elder' (zkS A) (Kd.R_base I) hb); have L := zK (Kd.R_elder' (zkR q) (Kd.R_base I) hb); have M := zK (Kd.R_elder' (zkR u) (Kd.R_base I) hb); have O := zK (Kd.S_elder' (zkS E) (Kd.R_base I) hb); have X := zK (Kd.R_elder' (zkR z) (Kd.R_base I) hb); have b0 := zK (Kd.R_lower (Kd.R_new' (Kd.R_new' (Kd.R_new' I (Kd.R_lt (zkR q))) (Kd.R_lt (zkR u))) (Kd.R_lt (zkR z))) (zz zB)); have d0 := z7 l hb; have e0 := z7 y hb; have m0 := z8 hb; revert J L M O X b0 d0 e0 m0; clear A q u E z l y HB; intro A q u E z B l y HB; obtain ⟨j1, m1, a0z⟩ := Kd.R_slice B.out; subst a0z; obtain ⟨f2, g2, a1a⟩ := Kd.R_slice u.out; subst a1a) | ((with_reducible refine gc 22 rfl ?_); refine zF 36 Try.func22 #[.slice j1 U.length m1, .slice f2 c0.length g2] rfl zL ?_; refine (laws_eqIntS.calls k _ _ U _ _ c0 _ _ (zC (Kd.R_reads' B.out).2.2) ((Kd.R_reads' B.out).2.1) (zC (Kd.R_reads' u.out).2.2) ((Kd.R_reads' u.out).2.1) o5.out).mono ?_; rintro e w' ⟨rfl, ⟨nd, rfl⟩⟩; refine ⟨_, rfl, ?_⟩))
 · (try (rw [drewN_self m3]; generalize hq_ : World.drewN m3 _ = m3; have J : Aside0 (Kd.S k57 57 m3 w.heap.size (fun k_ => (((((True ∧ some k_ ≠ (.slice y2 f0.length A2 : Value).ownBlock) ∧ some k_ ≠ (.slice f2 c0.length g2 : Value).ownBlock) ∧ some k_ ≠ (.slice f4 j0.length g4 : Value).ownBlock) ∧ some k_ ≠ (.slice J1 T.length L1 : Value).ownBlock) ∧ some k_ ≠ (.slice j1 U.length m1 : Value).ownBlock)) (.slice U5 x0.length V5) x0) := ⟨by rw [← hq_]; exact zkS A⟩; have L : Aside0 (Kd.R (Kd.int .i64) 3 m3 w.heap.size (fun k_ => (((True ∧ some k_ ≠ (.slice f2 c0.length g2 : Value).ownBlock) ∧ some k_ ≠ (.slice J1 T.length L1 : Value).ownBlock) ∧ some k_ ≠ (.slice j1 U.length m1 : Value).ownBlock)) (.slice y2 f0.length A2) f0) := ⟨by rw [← hq_]; exact zkR q⟩; have M : Aside0 (Kd.R (Kd.int .i64) 3 m3 w.heap.size (fun k_ => (((True ∧ some k_ ≠ (.slice y2 f0.length A2 : Value).ownBlock) ∧ some k_ ≠ (.slice J1 T.length L1 : Value).ownBlock) ∧ some k_ ≠ (.slice j1 U.length m1 : Value).ownBlock)) (.slice f2 c0.length g2) c0) := ⟨by rw [← hq_]; exact zkR u⟩; have O : Aside0 (Kd.S k57 57 m3 w.heap.size (fun k_ => (((((True ∧ some k_ ≠ (.slice U5 x0.length V5 : Value).ownBlock) ∧ some k_ ≠ (.slice y2 f0.length A2 : Value).ownBlock) ∧ some k_ ≠ (.slice f2 c0.length g2 : Value).ownBlock) ∧ some k_ ≠ (.slice J1 T.length L1 : Value).ownBlock) ∧ some k_ ≠ (.slice j1 U.length m1 : Value).ownBlock)) (.slice f4 j0.length g4) j0) := ⟨by rw [← hq_]; exact zkS E⟩; have X : Aside0 (Kd.R (Kd.int .i64) 3 m3 w.heap.size (fun k_ => (((True ∧ some k_ ≠ (.slice y2 f0.length A2 : Value).ownBlock) ∧ some k_ ≠ (.slice f2 c0.length g2 : Value).ownBlock) ∧ some k_ ≠ (.slice j1 U.length m1 : Value).ownBlock)) (.slice J1 T.length L1) T) := ⟨by rw [← hq_]; exact zkR z⟩; have b0 : Aside0 (Kd.R (Kd.int .i64) 3 m3 w.heap.size (fun k_ => (((True ∧ some k_ ≠ (.slice y2 f0.length A2 : Value).ownBlock) ∧ some k_ ≠ (.slice f2 c0.length g2 : Value).ownBlock) ∧ some k_ ≠ (.slice J1 T.length L1 : Value).ownBlock)) (.slice j1 U.length m1) U) := ⟨by rw [← hq_]; exact zkR B⟩; have d0 : Aside0 (m3.heap[C0]? = some (.cells #[.int .i64 i0, .slice p0 g0.length q0] 24 (0, 0))) := ⟨by rw [← hq_]; exact (zM l)⟩; have e0 : Aside0 (m3.heap[y0]? = some (.cells #[.int .i64 n0, .slice f4 j0.length g4] 29 (0, 0))) := ⟨by rw [← hq_]; exact (zM y)⟩; have m0 : Aside0 (Below w.heap.size w m3) := ⟨by rw [← hq_]; exact zB⟩; clear A q u E z B l y HB hq_; revert J L M O X b0 d0 e0 m0; intro A q u E z B l y HB))
   have J := zK (Kd.S_drew A.out)
   have L := zK (Kd.R_drew q.out)
   have M := zK (Kd.R_drew u.out)
   have O := zK (Kd.S_drew E.out)
   have X := zK (Kd.R_drew z.out)
   have b0 := zK (Kd.R_drew B.out)
   have d0 := zK (zd l.out)
   have e0 := zK (zd y.out)
   have m0 := zK (ze HB.out)
   revert J L M O X b0 d0 e0 m0
   clear A q u E z B l y HB
   intro A q u E z B l y HB
   refine start_ (n := 5) (S := fun w' => w'.cell? ⟨y0, 0, none⟩ = some (.int .i64 n0) ∧ w'.cell? ⟨y0, 1, none⟩ = some (.slice f4 j0.length g4) ∧ w'.cell? ⟨C0, 0, none⟩ = some (.int .i64 i0) ∧ w'.cell? ⟨C0, 1, none⟩ = some (.slice p0 g0.length q0)) (ds := []) (bl 5 0) (by kernel_rfl) rfl (by kernel_rfl) ⟨zy y 0, zy y 1, zy l 0, zy l 1⟩ (fun hHeld => ?_)
   generalize m3.drew = c1t at A q u E z B l y HB hHeld ⊢
   refine take_ (i := 0) (N := some 38) (v := ?_) (a' := ?_) (bl 5 1) rfl rfl (by kernel_rfl) (fun _ _ _ h => h) (Or.inl ⟨by rfl, ?_⟩) hHeld ?_ ?_
   rotate_left
   · rintro w' ⟨s0, s1, s2, s3⟩
     go_simp
     with_reducible rfl
   rotate_left
   · simp only [Act.put, zq1, zq2, zq3, i64_w, i32_w]
     rfl
   refine take_ (i := 1) (N := some 39) (v := ?_) (a' := ?_) (bl 5 3) rfl rfl (by kernel_rfl) (fun _ _ _ h => h) (Or.inl ⟨by rfl, ?_⟩) hHeld ?_ ?_
   rotate_left
   · rintro w' ⟨s0, s1, s2, s3⟩
     go_simp
     with_reducible rfl
   rotate_left
   · simp only [Act.put, zq1, zq2, zq3, i64_w, i32_w]
     rfl
   refine one_ (i := 2) (N := some 40) (bl 5 7) rfl rfl (by kernel_rfl) (by decide) (fun K hK => ?_)
   refine goes_ Try.func9 (by kernel_rfl) rfl #[.agg #[.int .i64 i0, .slice p0 g0.length q0]] (by rfl) rfl rfl zL ?_
   refine (laws_toLm.calls k i0 _ _ g0 R0 L0 _ (zS A0) B0.out p5.out).mono ?_
   rintro e c1u ⟨v288, rfl, I, hb⟩
   refine ⟨_, rfl, ?_⟩
   have J := zK (Kd.S_elder' (zkS A) (Kd.S_base I) hb)
   have L := zK (Kd.R_below (zkR q) hb)
   have M := zK (Kd.R_below (zkR u) hb)
   have O := zK (Kd.S_elder' (zkS E) (Kd.S_base I) hb)
   have X := zK (Kd.R_below (zkR z) hb)
   have b0 := zK (Kd.R_below (zkR B) hb)
   have d0 := zK (Kd.S_lower (Kd.S_new' (Kd.S_new' (Kd.S_new' (Kd.S_new' (Kd.S_new' (Kd.S_new' I (Kd.S_lt (zkS A))) (Kd.R_lt (zkR q))) (Kd.R_lt (zkR u))) (Kd.S_lt (zkS E))) (Kd.R_lt (zkR z))) (Kd.R_lt (zkR B))) (zz zB))
   have e0 := z7 l hb
   have m0 := z7 y hb
   have t0 := z8 hb
   revert J L M O X b0 d0 e0 m0 t0
   clear A q u E z B l y HB
   intro A q u E z B l0 l y HB
   (try clear hb)
   (try clear hb2)
   (try clear hk)
   (try clear hi)
   (try clear I)
   obtain ⟨j7, l7, m7⟩ := Kd.S_slice l0.out
   (first | subst m7 | (injection m7 with f1_ f2_ f3_; have f4_ := f1_.symm; have f5_ := f3_.symm; clear f1_ f2_ f3_; subst f4_; subst f5_))
   refine hK.out _ _ ⟨zy y 0, zy y 1, zy l 0, zy l 1⟩ (fun hHeld => ?_)
   clear hK K
   refine zU 40 ?_
   refine one_ (i := 3) (N := some 41) (bl 5 15) rfl rfl (by kernel_rfl) (by decide) (fun K hK => ?_)
   refine goes_ Try.func11 (by kernel_rfl) rfl #[.agg #[.int .i64 n0, .slice f4 j0.length g4], .agg #[.int .i64 R0, .slice j7 L0.length l7]] (by rfl) rfl rfl zL ?_
   refine (laws_eqLm.calls k n0 _ _ j0 R0 _ _ L0 true _ (zC (Kd.S_reads' E.out).2.2) ((Kd.S_reads' E.out).2.1) (zC (Kd.S_reads' l0.out).2.2) ((Kd.S_reads' l0.out).2.1) q5.out).mono ?_
   rintro e c1x ⟨rfl, hb⟩
   refine ⟨_, rfl, ?_⟩
   have J := zK (Kd.S_below (zkS A) hb)
   have L := zK (Kd.R_below (zkR q) hb)
   have M := zK (Kd.R_below (zkR u) hb)
   have O := zK (Kd.S_below (zkS E) hb)
   have X := zK (Kd.R_below (zkR z) hb)
   have b0 := zK (Kd.R_below (zkR B) hb)
   have d0 := zK (Kd.S_below (zkS l0) hb)
   have e0 := z7 l hb
   have m0 := z7 y hb
   have t0 := z8 hb
   revert J L M O X b0 d0 e0 m0 t0
   clear A q u E z B l0 l y HB
   intro A q u E z B l0 l y HB
   (try clear hb)
   (try clear hb2)
   (try clear hk)
   (try clear hi)
   refine hK.out _ _ ⟨zy y 0, zy y 1, zy l 0, zy l 1⟩ (fun hHeld => ?_)
   clear hK K
   refine zU 41 ?_
   refine pure_ (i := 4) (N := some 42) (v := ?_) (a' := ?_) (bl 5 31) rfl rfl (by kernel_rfl) (fun _ _ _ h => h) (Or.inl ⟨by rfl, ?_⟩) ?_ ?_
   rotate_left
   · intro w'
     go_simp
     with_reducible rfl
   rotate_left
   · simp only [Act.put, zq1, zq2, zq3, i64_w, i32_w]
     rfl
   refine done_ (by kernel_rfl) ?_
   try go_wp2_with (first | ((with_reducible refine gc 20 rfl ?_); refine zF 45 Try.func20 #[.slice A1 l1.length c1] rfl zL ?_; refine (laws_toIntS.calls k _ _ l1 o0 _ (zS n1) o1.out x5.out).mono ?_; rintro e c1y ⟨v292, rfl, I, hb⟩; refine ⟨_, rfl, ?_⟩; have J := zK (Kd.S_elder' (zkS A) (Kd.R_base I) hb); have L := zK (Kd.R_elder' (zkR q) (Kd.R_base I) hb); have M := zK (Kd.R_elder' (zkR u) (Kd.R_base I) hb); have O := zK (Kd.S_elder' (zkS E) (Kd.R_base I) hb); have X := zK (Kd.R_elder' (zkR z) (Kd.R_base I) hb); have b0 := zK (Kd.R_elder' (zkR B) (Kd.R_base I) hb); have d0 := zK (Kd.S_elder' (zkS l0) (Kd.R_base I) hb); have e0 := zK (Kd.R_lower (Kd.R_new' (Kd.R_new' (Kd.R_new' (Kd.R_new' I (Kd.R_lt (zkR q))) (Kd.R_lt (zkR u))) (Kd.R_lt (zkR z))) (Kd.R_lt (zkR B))) (zz zB)); have m0 := z7 l hb; have t0 := z7 y hb; have F0 := z8 hb; revert J L M O X b0 d0 e0 m0 t0 F0; clear A q u E z B l0 l y HB; intro A q u E z B l0 a0 l y HB; obtain ⟨i4, j4, a1b⟩ := Kd.R_slice a0.out; subst a1b) | ((with_reducible refine gc 22 rfl ?_); refine zF 46 Try.func22 #[.slice J1 T.length L1, .slice i4 o0.length j4] rfl zL ?_; refine (laws_eqIntS.calls k _ _ T _ _ o0 true _ (zC (Kd.R_reads' z.out).2.2) ((Kd.R_reads' z.out).2.1) (zC (Kd.R_reads' a0.out).2.2) ((Kd.R_reads' a0.out).2.1) y5.out).mono ?_; rintro e w' ⟨rfl, ⟨nd, rfl⟩⟩; refine ⟨_, rfl, ?_⟩; obtain ⟨b2d, b2e, b2f, b2g⟩ := zc2 y) | ((with_reducible refine gc 23 rfl ?_); refine zF 50 Try.func23 #[.agg #[.int .i64 n0, .slice f4 j0.length g4], .int .i64 1] rfl zL ?_; (with_reducible refine (Marks.markLm_E (fun k_ => (((((((True ∧ some k_ ≠ (.slice U5 x0.length V5 : Value).ownBlock) ∧ some k_ ≠ (.slice y2 f0.length A2 : Value).ownBlock) ∧ some k_ ≠ (.slice f2 c0.length g2 : Value).ownBlock) ∧ some k_ ≠ (.slice J1 T.length L1 : Value).ownBlock) ∧ some k_ ≠ (.slice j1 U.length m1 : Value).ownBlock) ∧ some k_ ≠ (.slice j7 L0.length l7 : Value).ownBlock) ∧ some k_ ≠ (.slice i4 o0.length j4 : Value).ownBlock)) n0 j0 1 N0 w.heap.size _ ?side1 ?side2).mono ?_); (case side1 => exact Kd.S_R (zkS E)); (case side2 => exact E5.out); rintro e c1z ⟨rfl, hb⟩; refine ⟨_, rfl, ?_⟩; have J := zK (Marks.Turned.block hb (zM l) (by decide)); have L := zK (Marks.Turned.R hb (zkR q) (fun k_ e_ o_ => (o_.1.1.1.1.1.2) e_)); have M := zK (Marks.Turned.R hb (zkR u) (fun k_ e_ o_ => (o_.1.1.1.1.2) e_)); have O := zK (Marks.Turned.block hb (zM y) (by decide)); have X := zK (Marks.Turned.R hb (zkR z) (fun k_ e_ o_ => (o_.1.1.1.2) e_)); have b0 := zK (Marks.Turned.R hb (zkR B) (fun k_ e_ o_ => (o_.1.1.2) e_)); have d0 := zK (Marks.Turned.R hb (zkR a0) (fun k_ e_ o_ => (o_.2) e_)); have e0 := zK (Marks.Turned.below hb zB); revert J L M O X b0 d0 e0; clear l q u y z B a0 HB A E l0; intro l q u y z B a0 HB) | ((with_reducible refine gc 24 rfl ?_); refine zF 53 Try.func24 #[.slice J1 T.length L1, .int .i64 N0] rfl zL ?_; (with_reducible refine (laws_markIntS.calls k (fun k_ => some k_ = (.slice J1 T.length L1 : Value).ownBlock) (.slice J1 T.length L1) T N0 l4 X4 w _ ?side1 ?side2 F5.out).mono ?_); (case side1 => repeat (first | (with_reducible first | exact HB.out | apply zb | apply zw | apply ze | refine zs ?_ U0.out | refine zs ?_ V0.out) | exact HB.out)); (case side2 => exact Kd.R_tight rfl z.out); rintro e c2a ⟨rfl, S0, hb, hkp⟩; refine ⟨_, rfl, ?_⟩; have J := zK (blk_kept (zM l) hkp (fun hs_ => (fun e_ => (Kd.R_ne z.out l.out (by decide)) e_) hs_)); have L := zK (Kd.R_mono (ok' := fun k_ => some k_ ≠ (.slice f2 c0.length g2 : Value).ownBlock ∧ some k_ ≠ (.slice J1 T.length L1 : Value).ownBlock ∧ some k_ ≠ (.slice j1 U.length m1 : Value).ownBlock ∧ some k_ ≠ (.slice i4 o0.length j4 : Value).ownBlock) (Kd.R_keptB (q.out) hkp (fun k_ hk_ hs_ => (hk_.1.1.2) hs_)) (fun k_ hk_ => ⟨hk_.1.1.1.1.2, hk_.1.1.1.2, hk_.1.1.2, hk_.1.2⟩)); have M := zK (Kd.R_mono (ok' := fun k_ => some k_ ≠ (.slice y2 f0.length A2 : Value).ownBlock ∧ some k_ ≠ (.slice J1 T.length L1 : Value).ownBlock ∧ some k_ ≠ (.slice j1 U.length m1 : Value).ownBlock ∧ some k_ ≠ (.slice i4 o0.length j4 : Value).ownBlock) (Kd.R_keptB (u.out) hkp (fun k_ hk_ hs_ => (hk_.1.1.2) hs_)) (fun k_ hk_ => ⟨hk_.1.1.1.1.2, hk_.1.1.1.2, hk_.1.1.2, hk_.1.2⟩)); have O := zK (blk_kept (zM y) hkp (fun hs_ => (fun e_ => (Kd.R_ne z.out y.out (by decide)) e_) hs_)); have X := zK (Kd.R_reok rfl S0 (fun k_ e_ => z.out.1 k_ e_)); have b0 := zK (Kd.R_mono (ok' := fun k_ => some k_ ≠ (.slice y2 f0.length A2 : Value).ownBlock ∧ some k_ ≠ (.slice f2 c0.length g2 : Value).ownBlock ∧ some k_ ≠ (.slice J1 T.length L1 : Value).ownBlock ∧ some k_ ≠ (.slice i4 o0.length j4 : Value).ownBlock) (Kd.R_keptB (B.out) hkp (fun k_ hk_ hs_ => (hk_.1.2) hs_)) (fun k_ hk_ => ⟨hk_.1.1.1.1.2, hk_.1.1.1.2, hk_.1.1.2, hk_.1.2⟩)); have d0 := zK (Kd.R_mono (ok' := fun k_ => some k_ ≠ (.slice y2 f0.length A2 : Value).ownBlock ∧ some k_ ≠ (.slice f2 c0.length g2 : Value).ownBlock ∧ some k_ ≠ (.slice J1 T.length L1 : Value).ownBlock ∧ some k_ ≠ (.slice j1 U.length m1 : Value).ownBlock) (Kd.R_keptB (a0.out) hkp (fun k_ hk_ hs_ => (hk_.1.2) hs_)) (fun k_ hk_ => ⟨hk_.1.1.1.1.2, hk_.1.1.1.2, hk_.1.1.2, hk_.1.2⟩)); have e0 := zK (hb); revert J L M O X b0 d0 e0; clear l q u y z B a0 HB; intro l q u y z B a0 HB; (try clear hkp); (try clear S0)) | (go_at_call 22; (with_reducible refine (laws_eqIntS.calls k _ _ U _ _ c0 true _ ?side1 ?side2 ?side3 ?side4 b6.out).mono ?_); (case side1 => exact zC (Kd.R_reads' B.out).2.2); (case side2 => exact (Kd.R_reads' B.out).2.1); (case side3 => exact zC (Kd.R_reads' u.out).2.2); (case side4 => exact (Kd.R_reads' u.out).2.1); rintro e w' ⟨rfl, ⟨nd, rfl⟩⟩) | ((with_reducible refine gc 24 rfl ?_); refine zF 64 Try.func24 #[.slice j1 U.length m1, .int .i64 1] rfl zL ?_; (with_reducible refine (laws_markIntS.calls k (fun k_ => some k_ = (.slice j1 U.length m1 : Value).ownBlock) (.slice j1 U.length m1) U 1 C3 G0 w _ ?side1 ?side2 g6.out).mono ?_); (case side1 => repeat (first | (with_reducible first | exact HB.out | apply zb | apply zw | apply ze | refine zs ?_ U0.out | refine zs ?_ V0.out) | exact HB.out)); (case side2 => exact Kd.R_tight rfl B.out); rintro e c2b ⟨rfl, S0, hb, hkp⟩; refine ⟨_, rfl, ?_⟩; have J := zK (blk_kept (zM l) hkp (fun hs_ => (fun e_ => (Kd.R_ne B.out l.out (by decide)) e_) hs_)); have L := zK (Kd.R_mono (ok' := fun k_ => some k_ ≠ (.slice f2 c0.length g2 : Value).ownBlock ∧ some k_ ≠ (.slice J1 T.length L1 : Value).ownBlock ∧ some k_ ≠ (.slice j1 U.length m1 : Value).ownBlock ∧ some k_ ≠ (.slice i4 o0.length j4 : Value).ownBlock) (Kd.R_keptB (q.out) hkp (fun k_ hk_ hs_ => (hk_.2.2.1) hs_)) (fun k_ hk_ => ⟨hk_.1.1, hk_.1.2.1, hk_.1.2.2.1, hk_.1.2.2.2⟩)); have M := zK (Kd.R_mono (ok' := fun k_ => some k_ ≠ (.slice y2 f0.length A2 : Value).ownBlock ∧ some k_ ≠ (.slice J1 T.length L1 : Value).ownBlock ∧ some k_ ≠ (.slice j1 U.length m1 : Value).ownBlock ∧ some k_ ≠ (.slice i4 o0.length j4 : Value).ownBlock) (Kd.R_keptB (u.out) hkp (fun k_ hk_ hs_ => (hk_.2.2.1) hs_)) (fun k_ hk_ => ⟨hk_.1.1, hk_.1.2.1, hk_.1.2.2.1, hk_.1.2.2.2⟩)); have O := zK (blk_kept (zM y) hkp (fun hs_ => (fun e_ => (Kd.R_ne B.out y.out (by decide)) e_) hs_)); have X := zK (Kd.R_mono (ok' := fun k_ => some k_ ≠ (.slice y2 f0.length A2 : Value).ownBlock ∧ some k_ ≠ (.slice f2 c0.length g2 : Value).ownBlock ∧ some k_ ≠ (.slice j1 U.length m1 : Value).ownBlock ∧ some k_ ≠ (.slice i4 o0.length j4 : Value).ownBlock) (Kd.R_keptB (z.out) hkp (fun k_ hk_ hs_ => (hk_.1.2) hs_)) (fun k_ hk_ => ⟨hk_.1.1.1.1.2, hk_.1.1.1.2, hk_.1.1.2, hk_.1.2⟩)); have b0 := zK (Kd.R_reok rfl S0 (fun k_ e_ => B.out.1 k_ e_)); have d0 := zK (Kd.R_mono (ok' := fun k_ => some k_ ≠ (.slice y2 f0.length A2 : Value).ownBlock ∧ some k_ ≠ (.slice f2 c0.length g2 : Value).ownBlock ∧ some k_ ≠ (.slice J1 T.length L1 : Value).ownBlock ∧ some k_ ≠ (.slice j1 U.length m1 : Value).ownBlock) (Kd.R_keptB (a0.out) hkp (fun k_ hk_ hs_ => (hk_.2.2.2) hs_)) (fun k_ hk_ => ⟨hk_.1.1, hk_.1.2.1, hk_.1.2.2.1, hk_.1.2.2.2⟩)); have e0 := zK (hb); revert J L M O X b0 d0 e0; clear l q u y z B a0 HB; intro l q u y z B a0 HB; (try clear hkp); (try clear S0)) | ((with_reducible refine gc 25 rfl ?_); refine zF 67 Try.func25 #[.slice j1 G0.length m1, .int .i64 1] rfl (by (try simp only [List.map_toArray, List.map_cons, List.map_nil]); first | done | (rw [show G0.length = U.length from (Kd.R_reads' B.out).1.symm] <;> rfl) | rfl | (simp only [List.length_drop, List.length_take]; rfl)) ?_; (with_reducible refine (laws_heldIntS.calls k _ _ G0 1 X0 _ ?side1 ?side2 i6.out).mono ?_); (case side1 => exact zC (Kd.R_reads' B.out).2.2); (case side2 => rw [show G0.length = U.length from (Kd.R_reads' B.out).1.symm]; exact (Kd.R_reads' B.out).2.1); rintro e w' ⟨rfl, ⟨nd, rfl⟩⟩; refine ⟨_, rfl, ?_⟩; obtain ⟨b2j, b2l, b2m, b2n⟩ := zc2 l) | ((with_reducible refine gc 9 rfl ?_); refine zF 74 Try.func9 #[.agg #[.int .i64 i0, .slice p0 g0.length q0]] rfl zL ?_; refine (laws_toLm.calls k i0 _ _ g0 f3 g3 _ (zS A0) B0.out R6.out).mono ?_; rintro e c2c ⟨v304, rfl, I, hb⟩; refine ⟨_, rfl, ?_⟩; have J := zK (Kd.R_below (zkR q) hb); have L := zK (Kd.R_below (zkR u) hb); have M := zK (Kd.R_below (zkR z) hb); have O := zK (Kd.R_below (zkR B) hb); have X := zK (Kd.R_below (zkR a0) hb); have b0 := zK (Kd.S_lower (Kd.S_new' (Kd.S_new' (Kd.S_new' (Kd.S_new' (Kd.S_new' I (Kd.R_lt (zkR q))) (Kd.R_lt (zkR u))) (Kd.R_lt (zkR z))) (Kd.R_lt (zkR B))) (Kd.R_lt (zkR a0))) (zz zB)); have d0 := z7 l hb; have e0 := z7 y hb; have m0 := z8 hb; revert J L M O X b0 d0 e0 m0; clear q u z B a0 l y HB; intro q u z B a0 D0 l y HB) | ((with_reducible refine gc 20 rfl ?_); refine zF 76 Try.func20 #[.slice A1 l1.length c1] rfl zL ?_; refine (laws_toIntS.calls k _ _ l1 a1 _ (zS n1) o1.out S6.out).mono ?_; rintro e c2d ⟨v307, rfl, I, hb⟩; refine ⟨_, rfl, ?_⟩; have J := zK (Kd.R_elder' (zkR q) (Kd.R_base I) hb); have L := zK (Kd.R_elder' (zkR u) (Kd.R_base I) hb); have M := zK (Kd.R_elder' (zkR z) (Kd.R_base I) hb); have O := zK (Kd.R_elder' (zkR B) (Kd.R_base I) hb); have X := zK (Kd.R_elder' (zkR a0) (Kd.R_base I) hb); have b0 := zK (Kd.S_elder' (zkS D0) (Kd.R_base I) hb); have d0 := zK (Kd.R_lower (Kd.R_new' (Kd.R_new' (Kd.R_new' (Kd.R_new' (Kd.R_new' I (Kd.R_lt (zkR q))) (Kd.R_lt (zkR u))) (Kd.R_lt (zkR z))) (Kd.R_lt (zkR B))) (Kd.R_lt (zkR a0))) (zz zB)); have e0 := z7 l hb; have m0 := z7 y hb; have t0 := z8 hb; revert J L M O X b0 d0 e0 m0 t0; clear q u z B a0 D0 l y HB; intro q u z B a0 D0 M0 l y HB; obtain ⟨a1c, a1d, a1e⟩ := Kd.S_slice D0.out; subst a1e; obtain ⟨a1f, a1g, a1j⟩ := Kd.R_slice M0.out; subst a1j) | ((with_reducible refine gc 21 rfl ?_); refine zF 77 Try.func21 #[.agg #[.int .i64 f3, .slice a1c g3.length a1d], .slice a1f a1.length a1g] rfl zL ?_; refine (impl_Weights.calls k f3 _ _ g3 _ _ a1 b1 _ (zC (Kd.S_reads' D0.out).2.2) ((Kd.S_reads' D0.out).2.1) (zC (Kd.R_reads' M0.out).2.2) ((Kd.R_reads' M0.out).2.1) T6.out).mono ?_; rintro e c2e ⟨v310, rfl, I, hb⟩; refine ⟨_, rfl, ?_⟩; have J := zK (Kd.R_elder' (zkR q) (Kd.R_base I) hb); have L := zK (Kd.R_elder' (zkR u) (Kd.R_base I) hb); have M := zK (Kd.R_elder' (zkR z) (Kd.R_base I) hb); have O := zK (Kd.R_elder' (zkR B) (Kd.R_base I) hb); have X := zK (Kd.R_elder' (zkR a0) (Kd.R_base I) hb); have b0 := zK (Kd.S_elder' (zkS D0) (Kd.R_base I) hb); have d0 := zK (Kd.R_elder' (zkR M0) (Kd.R_base I) hb); have e0 := zK (Kd.R_lower (Kd.R_new' (Kd.R_new' (Kd.R_new' (Kd.R_new' (Kd.R_new' (Kd.R_new' I (Kd.R_lt (zkR q))) (Kd.R_lt (zkR u))) (Kd.R_lt (zkR z))) (Kd.R_lt (zkR B))) (Kd.R_lt (zkR a0))) (Kd.R_lt (zkR M0))) (zz zB)); have m0 := z7 l hb; have t0 := z7 y hb; have F0 := z8 hb; revert J L M O X b0 d0 e0 m0 t0 F0; clear q u z B a0 D0 M0 l y HB; intro q u z B a0 D0 M0 a2 l y HB; obtain ⟨a1l, a1m, a1n⟩ := Kd.R_slice a2.out; subst a1n) | ((with_reducible refine gc 22 rfl ?_); refine zF 80 Try.func22 #[.slice a1l b1.length a1m, .slice f2 c0.length g2] rfl zL ?_; refine (laws_eqIntS.calls k _ _ b1 _ _ c0 true _ (zC (Kd.R_reads' a2.out).2.2) ((Kd.R_reads' a2.out).2.1) (zC (Kd.R_reads' u.out).2.2) ((Kd.R_reads' u.out).2.1) U6.out).mono ?_; rintro e w' ⟨rfl, ⟨nd, rfl⟩⟩; refine ⟨_, rfl, ?_⟩) | ((with_reducible refine gc 25 rfl ?_); refine zF 84 Try.func25 #[.slice j1 G0.length m1, .int .i64 1] rfl (by (try simp only [List.map_toArray, List.map_cons, List.map_nil]); first | done | (rw [show G0.length = U.length from (Kd.R_reads' B.out).1.symm] <;> rfl) | rfl | (simp only [List.length_drop, List.length_take]; rfl)) ?_; (with_reducible refine (laws_heldIntS.calls k _ _ G0 1 d1 _ ?side1 ?side2 c8.out).mono ?_); (case side1 => exact zC (Kd.R_reads' B.out).2.2); (case side2 => rw [show G0.length = U.length from (Kd.R_reads' B.out).1.symm]; exact (Kd.R_reads' B.out).2.1); rintro e w' ⟨rfl, ⟨nd, rfl⟩⟩; refine ⟨_, rfl, ?_⟩))
   go_ret
   exact ⟨zE, zB⟩
 all_goals go_ret
 all_goals exact ⟨zE, zB⟩
def WT71 (x : S71) : Prop := (x.f0.length ≤ maxLen ∧ ∀ l ∈ x.f0, (Lit.int .i64 l).wf = true) ∧ (x.f1.length ≤ maxLen ∧ ∀ l ∈ x.f1, (Lit.int .i64 l).wf = true)
def WT24 (x : S24) : Prop := (Lit.int .i64 x.f0).wf = true ∧ (x.f1.length ≤ maxLen ∧ ∀ l ∈ x.f1, WT71 l)
/-- THE ONE PURE STATEMENT of laws_FnExactWeights: yours. -/
def laws_FnExactWeights.Pure : Prop := ∀ (l : S24) (q : List Int), WT24 l → (q.length ≤ maxLen ∧ ∀ u ∈ q, (Lit.int .i64 u).wf = true) → ∃ k, laws_FnExactWeights.f k l.f0 l.f1 q = some true
theorem laws_FnExactWeights.walk (P : laws_FnExactWeights.Pure) (q : S24) (cs0 : Array Value) (l : List Int) (A : Option Addr) (B : Nat) (w : World) (J : k24.K w q cs0.toList) (h1 : Kd.C (Kd.int .i64) w A l.length l) (E : l.length ≤ B) (w0 : WT24 q) (w1 : (l.length ≤ maxLen ∧ ∀ I ∈ l, (Lit.int .i64 I).wf = true)) :
 Calls Try.prog 6 #[.agg cs0, .slice A l.length B] w fun e w' => e = .returned (.bool true) ∧ Below w.heap.size w w' := by
 obtain ⟨k, h⟩ := P q l w0 w1
 obtain ⟨u, y, hcs0, z, g0_1⟩ := k24_open J
 obtain rfl : cs0 = #[.int .i64 q.f0, .slice u (q.f1).length y] := by cases cs0; simp_all
 refine (laws_FnExactWeights.calls k q.f0 _ _ q.f1 _ _ l true w g0_1 z h1 E h).mono ?_
 rintro e w' ⟨rfl, hd⟩
 exact ⟨rfl, hd⟩
end Go.Proofs.Ytdlhmhgpafegpaa.PFnExactWeights
