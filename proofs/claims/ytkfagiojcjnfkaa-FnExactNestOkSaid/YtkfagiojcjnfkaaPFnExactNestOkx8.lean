-- Printed out of the translation by this session's own turned copy of a printer; Lean checks it.
import Derived.Test.YtkfagiojcjnfkaaPFnExactNestOkx0
import Derived.Test.YtkfagiojcjnfkaaPFnExactNestOkx7
namespace Go.Proofs.Ytkfagiojcjnfkaa.PFnExactNestOk
open Go.RowKit Go.Proofs.YtkfagiojcjnfkaaW.PrintWords Go.Proofs.YtkfagiojcjnfkaaW.PrintLast Go.Proofs.YtkfagiojcjnfkaaW.PrintMore
attribute [local go_sem] max2_int min2_int max_two min_two max_three min_three max_four min_four   -- for this text's walks alone
set_option linter.unusedVariables false
set_option linter.unusedSimpArgs false

/-! ### laws_toNest: function 33 -/
def laws_toNest.f (k : Nat) (l0_0 : List Int) (l0_1 : List Int) (l0_2 : List (S166)) (l0_3 : List (S172)) (l0_4 : List Int) : Option (List Int × List Int × (List (S125)) × (List (S132)) × List Int) := (laws_toIntS.f k l0_0).bind fun t265 => ((laws_toIntS.f k l0_1).bind fun t268 => ((laws_toFixS.f k l0_2).bind fun t271 => ((laws_toKernelS.f k l0_3).bind fun t274 => ((laws_toIntS.f k l0_4).bind fun t277 => (some (t265, t268, t271, t274, t277))))))
theorem laws_toNest.mono : ∀ a0 a1 a2 a3 a4 k, LeO (laws_toNest.f k a0 a1 a2 a3 a4) (laws_toNest.f (k + 1) a0 a1 a2 a3 a4) := by
  intro a0 a1 a2 a3 a4 k
  unfold laws_toNest.f
  repeat' first
      | (with_reducible exact laws_toFixS.mono _ _)
      | (with_reducible exact laws_toIntS.mono _ _)
      | (with_reducible exact laws_toKernelS.mono _ _)
      | (with_reducible exact LeO.refl _)
      | (with_reducible exact LeO.none _)
      | (with_reducible refine LeO.ite ?_ ?_)
      | (with_reducible refine LeO.bind ?_ (fun _ => ?_))
      | exact laws_toFixS.mono _ _
      | exact laws_toIntS.mono _ _
      | exact laws_toKernelS.mono _ _
      | exact LeO.none _
      | refine LeO.ite ?_ ?_
      | refine LeO.bind ?_ (fun _ => ?_)
set_option maxHeartbeats 8000000 in
set_option maxRecDepth 100000 in
theorem laws_toNest.calls (k : Nat) (A0_0 : Option Addr) (c0_0 : Nat) (l0_0 : List Int) (A0_1 : Option Addr) (c0_1 : Nat) (l0_1 : List Int) (A0_2 : Option Addr) (c0_2 : Nat) (l0_2 : List (S166)) (A0_3 : Option Addr) (c0_3 : Nat) (l0_3 : List (S172)) (A0_4 : Option Addr) (c0_4 : Nat) (l0_4 : List Int) (r1 : List Int) (r2 : List Int) (r3 : List (S125)) (r4 : List (S132)) (r5 : List Int) (w : World) (hr0_0 : Kd.C (Kd.int .i64) w A0_0 l0_0.length l0_0) (hc0_0 : l0_0.length ≤ c0_0) (hr0_1 : Kd.C (Kd.int .i64) w A0_1 l0_1.length l0_1) (hc0_1 : l0_1.length ≤ c0_1) (hr0_2 : Kd.C k166 w A0_2 l0_2.length l0_2) (hc0_2 : l0_2.length ≤ c0_2) (hr0_3 : Kd.C k172 w A0_3 l0_3.length l0_3) (hc0_3 : l0_3.length ≤ c0_3) (hr0_4 : Kd.C (Kd.int .i64) w A0_4 l0_4.length l0_4) (hc0_4 : l0_4.length ≤ c0_4) (h : laws_toNest.f k l0_0 l0_1 l0_2 l0_3 l0_4 = some (r1, r2, r3, r4, r5)) :
    Calls Try.prog 33 #[.agg #[.slice A0_0 l0_0.length c0_0, .slice A0_1 l0_1.length c0_1, .slice A0_2 l0_2.length c0_2, .slice A0_3 l0_3.length c0_3, .slice A0_4 l0_4.length c0_4]] w fun e w' => ∃ v0_ v1_ v2_ v3_ v4_ : Value, e = .returned (.agg #[v0_, v1_, v2_, v3_, v4_]) ∧ Kd.R (Kd.int .i64) 3 w' w.heap.size (fun k_ => some k_ ≠ (v1_ : Value).ownBlock ∧ some k_ ≠ (v4_ : Value).ownBlock) v0_ r1 ∧ Kd.R (Kd.int .i64) 3 w' w.heap.size (fun k_ => some k_ ≠ (v0_ : Value).ownBlock ∧ some k_ ≠ (v4_ : Value).ownBlock) v1_ r2 ∧ Kd.S k125 125 w' w.heap.size (fun k_ => some k_ ≠ (v0_ : Value).ownBlock ∧ some k_ ≠ (v1_ : Value).ownBlock ∧ some k_ ≠ (v4_ : Value).ownBlock) v2_ r3 ∧ Kd.R k132 132 w' w.heap.size (fun k_ => some k_ ≠ (v0_ : Value).ownBlock ∧ some k_ ≠ (v1_ : Value).ownBlock ∧ some k_ ≠ (v4_ : Value).ownBlock) v3_ r4 ∧ Kd.R (Kd.int .i64) 3 w' w.heap.size (fun k_ => some k_ ≠ (v0_ : Value).ownBlock ∧ some k_ ≠ (v1_ : Value).ownBlock) v4_ r5 ∧ Below w.heap.size w w' := by
  have hu64 := Try.underlying64
  have hu70 := Try.underlying70
  have HR0_0 := zK hr0_0
  have HC0_0 := zK hc0_0
  clear hr0_0 hc0_0
  have HR0_1 := zK hr0_1
  have HC0_1 := zK hc0_1
  clear hr0_1 hc0_1
  have HR0_2 := zK hr0_2
  have HC0_2 := zK hc0_2
  clear hr0_2 hc0_2
  have HR0_3 := zK hr0_3
  have HC0_3 := zK hc0_3
  clear hr0_3 hc0_3
  have HR0_4 := zK hr0_4
  have HC0_4 := zK hc0_4
  clear hr0_4 hc0_4
  have HB := zK (Below.refl w.heap.size w)
  have H : ((laws_toIntS.f k l0_0).bind fun t265 => ((laws_toIntS.f k l0_1).bind fun t268 => ((laws_toFixS.f k l0_2).bind fun t271 => ((laws_toKernelS.f k l0_3).bind fun t274 => ((laws_toIntS.f k l0_4).bind fun t277 => (some (t265, t268, t271, t274, t277))))))) = some (r1, r2, r3, r4, r5) := h
  clear h
  replace H := Option.bind_eq_some_iff.mp H
  obtain ⟨t265, A20, H⟩ := H
  replace H : ((laws_toIntS.f k l0_1).bind fun t268 => ((laws_toFixS.f k l0_2).bind fun t271 => ((laws_toKernelS.f k l0_3).bind fun t274 => ((laws_toIntS.f k l0_4).bind fun t277 => (some (t265, t268, t271, t274, t277)))))) = some (r1, r2, r3, r4, r5) := H
  have A2 := zK A20
  clear A20
  replace H := Option.bind_eq_some_iff.mp H
  obtain ⟨t268, A30, H⟩ := H
  replace H : ((laws_toFixS.f k l0_2).bind fun t271 => ((laws_toKernelS.f k l0_3).bind fun t274 => ((laws_toIntS.f k l0_4).bind fun t277 => (some (t265, t268, t271, t274, t277))))) = some (r1, r2, r3, r4, r5) := H
  have A3 := zK A30
  clear A30
  replace H := Option.bind_eq_some_iff.mp H
  obtain ⟨t271, A40, H⟩ := H
  replace H : ((laws_toKernelS.f k l0_3).bind fun t274 => ((laws_toIntS.f k l0_4).bind fun t277 => (some (t265, t268, t271, t274, t277)))) = some (r1, r2, r3, r4, r5) := H
  have A4 := zK A40
  clear A40
  replace H := Option.bind_eq_some_iff.mp H
  obtain ⟨t274, A50, H⟩ := H
  replace H : ((laws_toIntS.f k l0_4).bind fun t277 => (some (t265, t268, t271, t274, t277))) = some (r1, r2, r3, r4, r5) := H
  have A5 := zK A50
  clear A50
  replace H := Option.bind_eq_some_iff.mp H
  obtain ⟨t277, A60, H⟩ := H
  replace H : (some (t265, t268, t271, t274, t277)) = some (r1, r2, r3, r4, r5) := H
  have A6 := zK A60
  clear A60
  simp only [Option.some.injEq, Prod.mk.injEq] at H
  obtain ⟨rfl, rfl, rfl, rfl, rfl⟩ := H
  go_enter Try.func33, Try.ntmps33
  go_wp2_with (first | ((with_reducible refine gate_dst (N := 1) rfl ?_); refine zJ 1 #[.slice A0_0 l0_0.length c0_0, .slice A0_1 l0_1.length c0_1, .slice A0_2 l0_2.length c0_2, .slice A0_3 l0_3.length c0_3, .slice A0_4 l0_4.length c0_4] 64 ?_; intro gb262 hg w7 hbox hb; have n0_ := zK (zp zB hb); have n1_ := zK (hbox); have n2_ := zK (zI hg zB); have n3_ := zK (zI hg zB); clear HB; have HB := n0_; have BK262 := n1_; have GW262 := n2_; have GE262 := n3_; clear n0_ n1_ n2_ n3_; clear hb hbox hg) | ((with_reducible refine gate_dst (N := 2) rfl ?_); refine zJ 2 #[.slice none 0 0, .slice none 0 0, .slice none 0 0, .slice none 0 0, .slice none 0 0] 70 ?_; intro gb263 hg w8 hbox hb; have n0_ := zK (zg (zM BK262) hb); have n1_ := zK (zp zB hb); have n2_ := zK (hbox); have n3_ := zK (zI hg zB); have n4_ := zK (zI hg zB); have n5_ := zK (zH hg (zM BK262)); have n6_ := zK (zG hg (zM BK262)); clear BK262; clear HB; have BK262 := n0_; have HB := n1_; have BK263 := n2_; have GW263 := n3_; have GE263 := n4_; have NB262_263 := n5_; have NB263_262 := n6_; clear n0_ n1_ n2_ n3_ n4_ n5_ n6_; clear hb hbox hg) | ((with_reducible refine gate_dst (N := 3) rfl ?_); refine zJ 3 #[.slice none 0 0, .slice none 0 0, .slice none 0 0, .slice none 0 0, .slice none 0 0] 70 ?_; intro gb264 hg w9 hbox hb; have n0_ := zK (zg (zM BK262) hb); have n1_ := zK (zg (zM BK263) hb); have n2_ := zK (zp zB hb); have n3_ := zK (hbox); have n4_ := zK (zI hg zB); have n5_ := zK (zI hg zB); have n6_ := zK (zH hg (zM BK262)); have n7_ := zK (zG hg (zM BK262)); have n8_ := zK (zH hg (zM BK263)); have n9_ := zK (zG hg (zM BK263)); clear BK262; clear BK263; clear HB; have BK262 := n0_; have BK263 := n1_; have HB := n2_; have BK264 := n3_; have GW264 := n4_; have GE264 := n5_; have NB262_264 := n6_; have NB264_262 := n7_; have NB263_264 := n8_; have NB264_263 := n9_; clear n0_ n1_ n2_ n3_ n4_ n5_ n6_ n7_ n8_ n9_; clear hb hbox hg; have hnb10 := NB262_263.out; have hnc10 := NB263_262.out; have hnb11 := NB262_264.out; have hnc11 := NB264_262.out; obtain ⟨hcz12_0, hcz12_1, hcz12_2, hcz12_3, hcz12_4, hfz12_0, hfz12_1, hfz12_2, hfz12_3, hfz12_4⟩ := zc5 BK262) | ((with_reducible refine gate_callee (f := 40) rfl ?_); refine zF 6 Try.func40 #[.slice A0_0 l0_0.length c0_0] rfl zL ?_; (with_reducible refine (laws_toIntS.calls k _ _ l0_0 t265 _ ?side1 ?side2 A2.out).mono ?_); (case side1 => exact zC (Kd.C_below HR0_0.out HB.out)); (case side2 => exact HC0_0.out); rintro e w13 ⟨v266, rfl, ho0, hb⟩; refine ⟨_, rfl, ?_⟩; have n0_ := zK (Kd.R_lower ho0 (zz zB)); have n1_ := zK (zg (zM BK262) hb); have n2_ := zK (zg (zM BK263) hb); have n3_ := zK (zg (zM BK264) hb); have n4_ := zK (zp zB hb); clear BK262; clear BK263; clear BK264; clear HB; have HO267 := n0_; have BK262 := n1_; have BK263 := n2_; have BK264 := n3_; have HB := n4_; clear n0_ n1_ n2_ n3_ n4_; (try clear hb); (try clear hb2); (try clear hk); (try clear hi); (try clear ho0); obtain ⟨Ao14, co14, eo14⟩ := Kd.R_slice HO267.out; subst eo14; have hnb15 := NB264_263.out; have hnc15 := NB263_264.out; obtain ⟨hcz16_0, hcz16_1, hcz16_2, hcz16_3, hcz16_4, hfz16_0, hfz16_1, hfz16_2, hfz16_3, hfz16_4⟩ := zc5 BK264; obtain ⟨hcz17_0, hcz17_1, hcz17_2, hcz17_3, hcz17_4, hfz17_0, hfz17_1, hfz17_2, hfz17_3, hfz17_4⟩ := zc5 BK262) | ((with_reducible refine gate_callee (f := 40) rfl ?_); refine zF 10 Try.func40 #[.slice A0_1 l0_1.length c0_1] rfl zL ?_; (with_reducible refine (laws_toIntS.calls k _ _ l0_1 t268 _ ?side1 ?side2 A3.out).mono ?_); (case side1 => exact Kd.C_below HR0_1.out zB); (case side2 => exact HC0_1.out); rintro e w18 ⟨v269, rfl, ho0, hb⟩; refine ⟨_, rfl, ?_⟩; have n0_ := zK (Kd.R_elder' (by (with_reducible repeat (first | apply Kd.R_alloc | apply Kd.R_drewN | apply Kd.R_drew)); exact (Kd.R_mono (Kd.R_far (p := ⟨gb264, 0, none⟩) (Kd.R_types HO267.out BK264.out (by decide)) (fun _ hk => hk.2) (.slice Ao14 t265.length co14)) (fun _ h_ => h_.1))) (Kd.R_base ho0) hb); have n1_ := zK (Kd.R_lower (Kd.R_new' ho0 (Kd.R_lt (by (with_reducible repeat (first | apply Kd.R_alloc | apply Kd.R_drewN | apply Kd.R_drew)); exact (Kd.R_mono (Kd.R_far (p := ⟨gb264, 0, none⟩) (Kd.R_types HO267.out BK264.out (by decide)) (fun _ hk => hk.2) (.slice Ao14 t265.length co14)) (fun _ h_ => h_.1))))) (zz zB)); have n2_ := zK (zg (g := gb262) (o := .cells #[.slice A0_0 l0_0.length c0_0, .slice A0_1 l0_1.length c0_1, .slice A0_2 l0_2.length c0_2, .slice A0_3 l0_3.length c0_3, .slice A0_4 l0_4.length c0_4] 64 (0, 0)) (by (with_reducible repeat (first | refine zn ?_ _ | refine zd ?_ | refine za ?_ _)); refine blk_far ?_ NB262_264.out _; (with_reducible repeat (first | refine zn ?_ _ | refine zd ?_ | refine za ?_ _)); exact BK262.out) hb); have n3_ := zK (zg (g := gb263) (o := .cells #[.slice none 0 0, .slice none 0 0, .slice none 0 0, .slice none 0 0, .slice none 0 0] 70 (0, 0)) (by (with_reducible repeat (first | refine zn ?_ _ | refine zd ?_ | refine za ?_ _)); refine blk_far ?_ NB263_264.out _; (with_reducible repeat (first | refine zn ?_ _ | refine zd ?_ | refine za ?_ _)); exact BK263.out) hb); have n4_ := zK (zg (g := gb264) (o := .cells #[.slice Ao14 t265.length co14, .slice none 0 0, .slice none 0 0, .slice none 0 0, .slice none 0 0] 70 (0, 0)) (by (with_reducible repeat (first | refine zn ?_ _ | refine zd ?_ | refine za ?_ _)); refine blk_put (cs := #[.slice none 0 0, .slice none 0 0, .slice none 0 0, .slice none 0 0, .slice none 0 0]) ?_ 0 _ rfl; (with_reducible repeat (first | refine zn ?_ _ | refine zd ?_ | refine za ?_ _)); exact BK264.out) hb); have n5_ := zK (zp zB hb); clear HO267; clear BK262; clear BK263; clear BK264; clear HB; have HO267 := n0_; have HO270 := n1_; have BK262 := n2_; have BK263 := n3_; have BK264 := n4_; have HB := n5_; clear n0_ n1_ n2_ n3_ n4_ n5_; (try clear hb); (try clear hb2); (try clear hk); (try clear hi); (try clear ho0); obtain ⟨Ao19, co19, eo19⟩ := Kd.R_slice HO270.out; subst eo19; obtain ⟨hcz20_0, hcz20_1, hcz20_2, hcz20_3, hcz20_4, hfz20_0, hfz20_1, hfz20_2, hfz20_3, hfz20_4⟩ := zc5 BK264; obtain ⟨hcz21_0, hcz21_1, hcz21_2, hcz21_3, hcz21_4, hfz21_0, hfz21_1, hfz21_2, hfz21_3, hfz21_4⟩ := zc5 BK262) | ((with_reducible refine gate_callee (f := 90) rfl ?_); refine zF 14 Try.func90 #[.slice A0_2 l0_2.length c0_2] rfl zL ?_; (with_reducible refine (laws_toFixS.calls k _ _ l0_2 t271 _ ?side1 ?side2 A4.out).mono ?_); (case side1 => exact Kd.C_below HR0_2.out zB); (case side2 => exact HC0_2.out); rintro e w22 ⟨v272, rfl, ho0, hb⟩; refine ⟨_, rfl, ?_⟩; have n0_ := zK (Kd.R_below (by (with_reducible repeat (first | apply Kd.R_alloc | apply Kd.R_drewN | apply Kd.R_drew)); exact (Kd.R_mono (Kd.R_far (p := ⟨gb264, 1, none⟩) (Kd.R_types HO267.out BK264.out (by decide)) (fun _ hk => hk.2) (.slice Ao19 t268.length co19)) (fun _ h_ => h_.1))) hb); have n1_ := zK (Kd.R_below (by (with_reducible repeat (first | apply Kd.R_alloc | apply Kd.R_drewN | apply Kd.R_drew)); exact (Kd.R_mono (Kd.R_far (p := ⟨gb264, 1, none⟩) (Kd.R_types HO270.out BK264.out (by decide)) (fun _ hk => hk.2) (.slice Ao19 t268.length co19)) (fun _ h_ => h_.1))) hb); have n2_ := zK (Kd.S_lower (Kd.S_new' (Kd.S_new' ho0 (Kd.R_lt (by (with_reducible repeat (first | apply Kd.R_alloc | apply Kd.R_drewN | apply Kd.R_drew)); exact (Kd.R_mono (Kd.R_far (p := ⟨gb264, 1, none⟩) (Kd.R_types HO267.out BK264.out (by decide)) (fun _ hk => hk.2) (.slice Ao19 t268.length co19)) (fun _ h_ => h_.1))))) (Kd.R_lt (by (with_reducible repeat (first | apply Kd.R_alloc | apply Kd.R_drewN | apply Kd.R_drew)); exact (Kd.R_mono (Kd.R_far (p := ⟨gb264, 1, none⟩) (Kd.R_types HO270.out BK264.out (by decide)) (fun _ hk => hk.2) (.slice Ao19 t268.length co19)) (fun _ h_ => h_.1))))) (zz zB)); have n3_ := zK (zg (g := gb262) (o := .cells #[.slice A0_0 l0_0.length c0_0, .slice A0_1 l0_1.length c0_1, .slice A0_2 l0_2.length c0_2, .slice A0_3 l0_3.length c0_3, .slice A0_4 l0_4.length c0_4] 64 (0, 0)) (by (with_reducible repeat (first | refine zn ?_ _ | refine zd ?_ | refine za ?_ _)); refine blk_far ?_ NB262_264.out _; (with_reducible repeat (first | refine zn ?_ _ | refine zd ?_ | refine za ?_ _)); exact BK262.out) hb); have n4_ := zK (zg (g := gb263) (o := .cells #[.slice none 0 0, .slice none 0 0, .slice none 0 0, .slice none 0 0, .slice none 0 0] 70 (0, 0)) (by (with_reducible repeat (first | refine zn ?_ _ | refine zd ?_ | refine za ?_ _)); refine blk_far ?_ NB263_264.out _; (with_reducible repeat (first | refine zn ?_ _ | refine zd ?_ | refine za ?_ _)); exact BK263.out) hb); have n5_ := zK (zg (g := gb264) (o := .cells #[.slice Ao14 t265.length co14, .slice Ao19 t268.length co19, .slice none 0 0, .slice none 0 0, .slice none 0 0] 70 (0, 0)) (by (with_reducible repeat (first | refine zn ?_ _ | refine zd ?_ | refine za ?_ _)); refine blk_put (cs := #[.slice Ao14 t265.length co14, .slice none 0 0, .slice none 0 0, .slice none 0 0, .slice none 0 0]) ?_ 1 _ rfl; (with_reducible repeat (first | refine zn ?_ _ | refine zd ?_ | refine za ?_ _)); exact BK264.out) hb); have n6_ := zK (zp zB hb); clear HO267; clear HO270; clear BK262; clear BK263; clear BK264; clear HB; have HO267 := n0_; have HO270 := n1_; have HO273 := n2_; have BK262 := n3_; have BK263 := n4_; have BK264 := n5_; have HB := n6_; clear n0_ n1_ n2_ n3_ n4_ n5_ n6_; (try clear hb); (try clear hb2); (try clear hk); (try clear hi); (try clear ho0); obtain ⟨Ao23, co23, eo23⟩ := Kd.S_slice HO273.out; subst eo23; obtain ⟨hcz24_0, hcz24_1, hcz24_2, hcz24_3, hcz24_4, hfz24_0, hfz24_1, hfz24_2, hfz24_3, hfz24_4⟩ := zc5 BK264; obtain ⟨hcz25_0, hcz25_1, hcz25_2, hcz25_3, hcz25_4, hfz25_0, hfz25_1, hfz25_2, hfz25_3, hfz25_4⟩ := zc5 BK262) | ((with_reducible refine gate_callee (f := 91) rfl ?_); refine zF 18 Try.func91 #[.slice A0_3 l0_3.length c0_3] rfl zL ?_; (with_reducible refine (laws_toKernelS.calls k _ _ l0_3 t274 _ ?side1 ?side2 A5.out).mono ?_); (case side1 => exact Kd.C_below HR0_3.out zB); (case side2 => exact HC0_3.out); rintro e w26 ⟨v275, rfl, ho0, hb⟩; refine ⟨_, rfl, ?_⟩; have n0_ := zK (Kd.R_below (by (with_reducible repeat (first | apply Kd.R_alloc | apply Kd.R_drewN | apply Kd.R_drew)); exact (Kd.R_mono (Kd.R_far (p := ⟨gb264, 2, none⟩) (Kd.R_types HO267.out BK264.out (by decide)) (fun _ hk => hk.2) (.slice Ao23 t271.length co23)) (fun _ h_ => h_.1))) hb); have n1_ := zK (Kd.R_below (by (with_reducible repeat (first | apply Kd.R_alloc | apply Kd.R_drewN | apply Kd.R_drew)); exact (Kd.R_mono (Kd.R_far (p := ⟨gb264, 2, none⟩) (Kd.R_types HO270.out BK264.out (by decide)) (fun _ hk => hk.2) (.slice Ao23 t271.length co23)) (fun _ h_ => h_.1))) hb); have n2_ := zK (Kd.S_below (by (with_reducible repeat (first | apply Kd.S_alloc | apply Kd.S_drewN | apply Kd.S_drew)); exact (Kd.S_mono (Kd.S_far (p := ⟨gb264, 2, none⟩) (Kd.S_types HO273.out BK264.out (by decide)) (fun _ hk => hk.2) (.slice Ao23 t271.length co23)) (fun _ h_ => h_.1))) hb); have n3_ := zK (Kd.R_lower (Kd.R_new' (Kd.R_new' ho0 (Kd.R_lt (by (with_reducible repeat (first | apply Kd.R_alloc | apply Kd.R_drewN | apply Kd.R_drew)); exact (Kd.R_mono (Kd.R_far (p := ⟨gb264, 2, none⟩) (Kd.R_types HO267.out BK264.out (by decide)) (fun _ hk => hk.2) (.slice Ao23 t271.length co23)) (fun _ h_ => h_.1))))) (Kd.R_lt (by (with_reducible repeat (first | apply Kd.R_alloc | apply Kd.R_drewN | apply Kd.R_drew)); exact (Kd.R_mono (Kd.R_far (p := ⟨gb264, 2, none⟩) (Kd.R_types HO270.out BK264.out (by decide)) (fun _ hk => hk.2) (.slice Ao23 t271.length co23)) (fun _ h_ => h_.1))))) (zz zB)); have n4_ := zK (zg (g := gb262) (o := .cells #[.slice A0_0 l0_0.length c0_0, .slice A0_1 l0_1.length c0_1, .slice A0_2 l0_2.length c0_2, .slice A0_3 l0_3.length c0_3, .slice A0_4 l0_4.length c0_4] 64 (0, 0)) (by (with_reducible repeat (first | refine zn ?_ _ | refine zd ?_ | refine za ?_ _)); refine blk_far ?_ NB262_264.out _; (with_reducible repeat (first | refine zn ?_ _ | refine zd ?_ | refine za ?_ _)); exact BK262.out) hb); have n5_ := zK (zg (g := gb263) (o := .cells #[.slice none 0 0, .slice none 0 0, .slice none 0 0, .slice none 0 0, .slice none 0 0] 70 (0, 0)) (by (with_reducible repeat (first | refine zn ?_ _ | refine zd ?_ | refine za ?_ _)); refine blk_far ?_ NB263_264.out _; (with_reducible repeat (first | refine zn ?_ _ | refine zd ?_ | refine za ?_ _)); exact BK263.out) hb); have n6_ := zK (zg (g := gb264) (o := .cells #[.slice Ao14 t265.length co14, .slice Ao19 t268.length co19, .slice Ao23 t271.length co23, .slice none 0 0, .slice none 0 0] 70 (0, 0)) (by (with_reducible repeat (first | refine zn ?_ _ | refine zd ?_ | refine za ?_ _)); refine blk_put (cs := #[.slice Ao14 t265.length co14, .slice Ao19 t268.length co19, .slice none 0 0, .slice none 0 0, .slice none 0 0]) ?_ 2 _ rfl; (with_reducible repeat (first | refine zn ?_ _ | refine zd ?_ | refine za ?_ _)); exact BK264.out) hb); have n7_ := zK (zp zB hb); clear HO267; clear HO270; clear HO273; clear BK262; clear BK263; clear BK264; clear HB; have HO267 := n0_; have HO270 := n1_; have HO273 := n2_; have HO276 := n3_; have BK262 := n4_; have BK263 := n5_; have BK264 := n6_; have HB := n7_; clear n0_ n1_ n2_ n3_ n4_ n5_ n6_ n7_; (try clear hb); (try clear hb2); (try clear hk); (try clear hi); (try clear ho0); obtain ⟨Ao27, co27, eo27⟩ := Kd.R_slice HO276.out; subst eo27; obtain ⟨hcz28_0, hcz28_1, hcz28_2, hcz28_3, hcz28_4, hfz28_0, hfz28_1, hfz28_2, hfz28_3, hfz28_4⟩ := zc5 BK264; obtain ⟨hcz29_0, hcz29_1, hcz29_2, hcz29_3, hcz29_4, hfz29_0, hfz29_1, hfz29_2, hfz29_3, hfz29_4⟩ := zc5 BK262) | ((with_reducible refine gate_callee (f := 40) rfl ?_); refine zF 22 Try.func40 #[.slice A0_4 l0_4.length c0_4] rfl zL ?_; (with_reducible refine (laws_toIntS.calls k _ _ l0_4 t277 _ ?side1 ?side2 A6.out).mono ?_); (case side1 => exact Kd.C_below HR0_4.out zB); (case side2 => exact HC0_4.out); rintro e w30 ⟨v278, rfl, ho0, hb⟩; refine ⟨_, rfl, ?_⟩; have n0_ := zK (Kd.R_elder' (by (with_reducible repeat (first | apply Kd.R_alloc | apply Kd.R_drewN | apply Kd.R_drew)); exact (Kd.R_mono (Kd.R_far (p := ⟨gb264, 3, none⟩) (Kd.R_types HO267.out BK264.out (by decide)) (fun _ hk => hk.2) (.slice Ao27 t274.length co27)) (fun _ h_ => h_.1))) (Kd.R_base ho0) hb); have n1_ := zK (Kd.R_elder' (by (with_reducible repeat (first | apply Kd.R_alloc | apply Kd.R_drewN | apply Kd.R_drew)); exact (Kd.R_mono (Kd.R_far (p := ⟨gb264, 3, none⟩) (Kd.R_types HO270.out BK264.out (by decide)) (fun _ hk => hk.2) (.slice Ao27 t274.length co27)) (fun _ h_ => h_.1))) (Kd.R_base ho0) hb); have n2_ := zK (Kd.S_elder' (by (with_reducible repeat (first | apply Kd.S_alloc | apply Kd.S_drewN | apply Kd.S_drew)); exact (Kd.S_mono (Kd.S_far (p := ⟨gb264, 3, none⟩) (Kd.S_types HO273.out BK264.out (by decide)) (fun _ hk => hk.2) (.slice Ao27 t274.length co27)) (fun _ h_ => h_.1))) (Kd.R_base ho0) hb); have n3_ := zK (Kd.R_elder' (by (with_reducible repeat (first | apply Kd.R_alloc | apply Kd.R_drewN | apply Kd.R_drew)); exact (Kd.R_mono (Kd.R_far (p := ⟨gb264, 3, none⟩) (Kd.R_types HO276.out BK264.out (by decide)) (fun _ hk => hk.2) (.slice Ao27 t274.length co27)) (fun _ h_ => h_.1))) (Kd.R_base ho0) hb); have n4_ := zK (Kd.R_lower (Kd.R_new' (Kd.R_new' ho0 (Kd.R_lt (by (with_reducible repeat (first | apply Kd.R_alloc | apply Kd.R_drewN | apply Kd.R_drew)); exact (Kd.R_mono (Kd.R_far (p := ⟨gb264, 3, none⟩) (Kd.R_types HO267.out BK264.out (by decide)) (fun _ hk => hk.2) (.slice Ao27 t274.length co27)) (fun _ h_ => h_.1))))) (Kd.R_lt (by (with_reducible repeat (first | apply Kd.R_alloc | apply Kd.R_drewN | apply Kd.R_drew)); exact (Kd.R_mono (Kd.R_far (p := ⟨gb264, 3, none⟩) (Kd.R_types HO270.out BK264.out (by decide)) (fun _ hk => hk.2) (.slice Ao27 t274.length co27)) (fun _ h_ => h_.1))))) (zz zB)); have n5_ := zK (zg (g := gb262) (o := .cells #[.slice A0_0 l0_0.length c0_0, .slice A0_1 l0_1.length c0_1, .slice A0_2 l0_2.length c0_2, .slice A0_3 l0_3.length c0_3, .slice A0_4 l0_4.length c0_4] 64 (0, 0)) (by (with_reducible repeat (first | refine zn ?_ _ | refine zd ?_ | refine za ?_ _)); refine blk_far ?_ NB262_264.out _; (with_reducible repeat (first | refine zn ?_ _ | refine zd ?_ | refine za ?_ _)); exact BK262.out) hb); have n6_ := zK (zg (g := gb263) (o := .cells #[.slice none 0 0, .slice none 0 0, .slice none 0 0, .slice none 0 0, .slice none 0 0] 70 (0, 0)) (by (with_reducible repeat (first | refine zn ?_ _ | refine zd ?_ | refine za ?_ _)); refine blk_far ?_ NB263_264.out _; (with_reducible repeat (first | refine zn ?_ _ | refine zd ?_ | refine za ?_ _)); exact BK263.out) hb); have n7_ := zK (zg (g := gb264) (o := .cells #[.slice Ao14 t265.length co14, .slice Ao19 t268.length co19, .slice Ao23 t271.length co23, .slice Ao27 t274.length co27, .slice none 0 0] 70 (0, 0)) (by (with_reducible repeat (first | refine zn ?_ _ | refine zd ?_ | refine za ?_ _)); refine blk_put (cs := #[.slice Ao14 t265.length co14, .slice Ao19 t268.length co19, .slice Ao23 t271.length co23, .slice none 0 0, .slice none 0 0]) ?_ 3 _ rfl; (with_reducible repeat (first | refine zn ?_ _ | refine zd ?_ | refine za ?_ _)); exact BK264.out) hb); have n8_ := zK (zp zB hb); clear HO267; clear HO270; clear HO273; clear HO276; clear BK262; clear BK263; clear BK264; clear HB; have HO267 := n0_; have HO270 := n1_; have HO273 := n2_; have HO276 := n3_; have HO279 := n4_; have BK262 := n5_; have BK263 := n6_; have BK264 := n7_; have HB := n8_; clear n0_ n1_ n2_ n3_ n4_ n5_ n6_ n7_ n8_; (try clear hb); (try clear hb2); (try clear hk); (try clear hi); (try clear ho0); obtain ⟨Ao31, co31, eo31⟩ := Kd.R_slice HO279.out; subst eo31; obtain ⟨hcz32_0, hcz32_1, hcz32_2, hcz32_3, hcz32_4, hfz32_0, hfz32_1, hfz32_2, hfz32_3, hfz32_4⟩ := zc5 BK264; obtain ⟨hcz33_0, hcz33_1, hcz33_2, hcz33_3, hcz33_4, hfz33_0, hfz33_1, hfz33_2, hfz33_3, hfz33_4⟩ := zc5 BK263))
  refine bodyPost_ret (results_cell_row rfl _ _ gb263 70 #[.slice Ao14 t265.length co14, .slice Ao19 t268.length co19, .slice Ao23 t271.length co23, .slice Ao27 t274.length co27, .slice Ao31 t277.length co31] (0, 0) _ rfl (by (with_reducible repeat (first | refine zn ?_ _ | refine zd ?_ | refine za ?_ _)); refine blk_put (cs := #[.slice Ao14 t265.length co14, .slice Ao19 t268.length co19, .slice Ao23 t271.length co23, .slice Ao27 t274.length co27, .slice none 0 0]) ?_ 4 _ rfl; (with_reducible repeat (first | refine zn ?_ _ | refine zd ?_ | refine za ?_ _)); refine blk_put (cs := #[.slice Ao14 t265.length co14, .slice Ao19 t268.length co19, .slice Ao23 t271.length co23, .slice none 0 0, .slice none 0 0]) ?_ 3 _ rfl; (with_reducible repeat (first | refine zn ?_ _ | refine zd ?_ | refine za ?_ _)); refine blk_put (cs := #[.slice Ao14 t265.length co14, .slice Ao19 t268.length co19, .slice none 0 0, .slice none 0 0, .slice none 0 0]) ?_ 2 _ rfl; (with_reducible repeat (first | refine zn ?_ _ | refine zd ?_ | refine za ?_ _)); refine blk_put (cs := #[.slice Ao14 t265.length co14, .slice none 0 0, .slice none 0 0, .slice none 0 0, .slice none 0 0]) ?_ 1 _ rfl; (with_reducible repeat (first | refine zn ?_ _ | refine zd ?_ | refine za ?_ _)); refine blk_put (cs := #[.slice none 0 0, .slice none 0 0, .slice none 0 0, .slice none 0 0, .slice none 0 0]) ?_ 0 _ rfl; (with_reducible repeat (first | refine zn ?_ _ | refine zd ?_ | refine za ?_ _)); refine blk_far ?_ NB263_264.out _; (with_reducible repeat (first | refine zn ?_ _ | refine zd ?_ | refine za ?_ _)); exact BK263.out) Try.underlying70 rfl (by kernel_rfl)) rfl ?_
  exact ⟨_, _, _, _, _, zE, by (with_reducible repeat (first | apply Kd.R_alloc | apply Kd.R_drewN | apply Kd.R_drew)); exact Kd.R_mono (Kd.R_far (p := ⟨gb263, 4, none⟩) (Kd.R_far (p := ⟨gb263, 3, none⟩) (Kd.R_far (p := ⟨gb263, 2, none⟩) (Kd.R_far (p := ⟨gb263, 1, none⟩) (Kd.R_far (p := ⟨gb263, 0, none⟩) (Kd.R_far (p := ⟨gb264, 4, none⟩) (Kd.R_types (Kd.R_types HO267.out BK264.out (by decide)) BK263.out (by decide)) (fun _ hk => hk.1.2) (.slice Ao31 t277.length co31)) (fun _ hk => hk.2) (.slice Ao14 t265.length co14)) (fun _ hk => hk.2) (.slice Ao19 t268.length co19)) (fun _ hk => hk.2) (.slice Ao23 t271.length co23)) (fun _ hk => hk.2) (.slice Ao27 t274.length co27)) (fun _ hk => hk.2) (.slice Ao31 t277.length co31)) (fun _ hk => ⟨hk.1.1.1.2, hk.1.1.2⟩), by (with_reducible repeat (first | apply Kd.R_alloc | apply Kd.R_drewN | apply Kd.R_drew)); exact Kd.R_mono (Kd.R_far (p := ⟨gb263, 4, none⟩) (Kd.R_far (p := ⟨gb263, 3, none⟩) (Kd.R_far (p := ⟨gb263, 2, none⟩) (Kd.R_far (p := ⟨gb263, 1, none⟩) (Kd.R_far (p := ⟨gb263, 0, none⟩) (Kd.R_far (p := ⟨gb264, 4, none⟩) (Kd.R_types (Kd.R_types HO270.out BK264.out (by decide)) BK263.out (by decide)) (fun _ hk => hk.1.2) (.slice Ao31 t277.length co31)) (fun _ hk => hk.2) (.slice Ao14 t265.length co14)) (fun _ hk => hk.2) (.slice Ao19 t268.length co19)) (fun _ hk => hk.2) (.slice Ao23 t271.length co23)) (fun _ hk => hk.2) (.slice Ao27 t274.length co27)) (fun _ hk => hk.2) (.slice Ao31 t277.length co31)) (fun _ hk => ⟨hk.1.1.1.2, hk.1.1.2⟩), by (with_reducible repeat (first | apply Kd.S_alloc | apply Kd.S_drewN | apply Kd.S_drew)); exact Kd.S_mono (Kd.S_far (p := ⟨gb263, 4, none⟩) (Kd.S_far (p := ⟨gb263, 3, none⟩) (Kd.S_far (p := ⟨gb263, 2, none⟩) (Kd.S_far (p := ⟨gb263, 1, none⟩) (Kd.S_far (p := ⟨gb263, 0, none⟩) (Kd.S_far (p := ⟨gb264, 4, none⟩) (Kd.S_types (Kd.S_types HO273.out BK264.out (by decide)) BK263.out (by decide)) (fun _ hk => hk.1.2) (.slice Ao31 t277.length co31)) (fun _ hk => hk.2) (.slice Ao14 t265.length co14)) (fun _ hk => hk.2) (.slice Ao19 t268.length co19)) (fun _ hk => hk.2) (.slice Ao23 t271.length co23)) (fun _ hk => hk.2) (.slice Ao27 t274.length co27)) (fun _ hk => hk.2) (.slice Ao31 t277.length co31)) (fun _ hk => ⟨hk.1.1.1.1.2, ⟨hk.1.1.1.2, hk.1.1.2⟩⟩), by (with_reducible repeat (first | apply Kd.R_alloc | apply Kd.R_drewN | apply Kd.R_drew)); exact Kd.R_mono (Kd.R_far (p := ⟨gb263, 4, none⟩) (Kd.R_far (p := ⟨gb263, 3, none⟩) (Kd.R_far (p := ⟨gb263, 2, none⟩) (Kd.R_far (p := ⟨gb263, 1, none⟩) (Kd.R_far (p := ⟨gb263, 0, none⟩) (Kd.R_far (p := ⟨gb264, 4, none⟩) (Kd.R_types (Kd.R_types HO276.out BK264.out (by decide)) BK263.out (by decide)) (fun _ hk => hk.1.2) (.slice Ao31 t277.length co31)) (fun _ hk => hk.2) (.slice Ao14 t265.length co14)) (fun _ hk => hk.2) (.slice Ao19 t268.length co19)) (fun _ hk => hk.2) (.slice Ao23 t271.length co23)) (fun _ hk => hk.2) (.slice Ao27 t274.length co27)) (fun _ hk => hk.2) (.slice Ao31 t277.length co31)) (fun _ hk => ⟨hk.1.1.1.1.2, ⟨hk.1.1.1.2, hk.1.1.2⟩⟩), by (with_reducible repeat (first | apply Kd.R_alloc | apply Kd.R_drewN | apply Kd.R_drew)); exact Kd.R_mono (Kd.R_far (p := ⟨gb263, 4, none⟩) (Kd.R_far (p := ⟨gb263, 3, none⟩) (Kd.R_far (p := ⟨gb263, 2, none⟩) (Kd.R_far (p := ⟨gb263, 1, none⟩) (Kd.R_far (p := ⟨gb263, 0, none⟩) (Kd.R_far (p := ⟨gb264, 4, none⟩) (Kd.R_types (Kd.R_types HO279.out BK264.out (by decide)) BK263.out (by decide)) (fun _ hk => hk.1.2) (.slice Ao31 t277.length co31)) (fun _ hk => hk.2) (.slice Ao14 t265.length co14)) (fun _ hk => hk.2) (.slice Ao19 t268.length co19)) (fun _ hk => hk.2) (.slice Ao23 t271.length co23)) (fun _ hk => hk.2) (.slice Ao27 t274.length co27)) (fun _ hk => hk.2) (.slice Ao31 t277.length co31)) (fun _ hk => ⟨hk.1.1.1.2, hk.1.1.2⟩), zB⟩

/-! ### impl_isNum: function 187 -/
def impl_isNum.f (a0 : Int) : Option (Bool) := if a0 ≥ 0 then (some (decide (a0 < 2147483647))) else (some false)
set_option maxHeartbeats 8000000 in
set_option maxRecDepth 100000 in
theorem impl_isNum.calls (a0 : Int) (r : Bool) (w : World) (h : impl_isNum.f a0 = some r) :
    Calls Try.prog 187 #[.int .i64 a0] w fun e w' => e = .returned (.bool r) ∧ Drawn0 w w' := by
  have H : (if a0 ≥ 0 then (some (decide (a0 < 2147483647))) else (some false)) = some r := h
  clear h
  by_cases c2 : a0 ≥ 0
  · rw [if_pos c2] at H
    have c2b0 : decide (0 ≤ a0) = true := decide_eq_true c2
    clear c2
    obtain rfl := Option.some.inj H
    go_enter Try.func187, Try.ntmps187
    go_wp2
    go_ret
    exact ⟨zR, zD⟩
  rw [if_neg c2] at H
  have c2b0 : decide (0 ≤ a0) = false := decide_eq_false c2
  clear c2
  obtain rfl := Option.some.inj H
  go_enter Try.func187, Try.ntmps187
  go_wp2
  go_ret
  exact ⟨zR, zD⟩

/-! ### impl_allNums: function 143 -/
def impl_allNums.l0 : Nat → List Int → Int → Int → Option (Bool)
  | 0, _, _, _ => none
  | k + 1, x5, x6, x7 => if x7 < x6 then (if 0 ≤ x7 then (if x7 < (x5.length : Int) then ((impl_isNum.f (rd x5 x7)).bind fun t281 => (if t281 = true then (impl_allNums.l0 k x5 x6 (wrap64 (x7 + 1))) else (some false))) else (none)) else (none)) else (some true)
def impl_allNums.f (k : Nat) (l0 : List Int) : Option (Bool) := impl_allNums.l0 k l0 (l0.length : Int) 0
theorem impl_allNums.mono_l : ∀ k, (∀ y0 y1 y2, LeO (impl_allNums.l0 k y0 y1 y2) (impl_allNums.l0 (k + 1) y0 y1 y2))
  | 0 => fun _ _ _ r h => by simp [impl_allNums.l0] at h
  | k + 1 => by
    have ih0 := impl_allNums.mono_l k
    · intro y0 y1 y2
      unfold impl_allNums.l0
      repeat' first
      | (with_reducible exact ih0 _ _ _)
      | (with_reducible exact LeO.refl _)
      | (with_reducible exact LeO.none _)
      | (with_reducible refine LeO.ite ?_ ?_)
      | (with_reducible refine LeO.bind ?_ (fun _ => ?_))
      | exact ih0 _ _ _
      | exact LeO.none _
      | refine LeO.ite ?_ ?_
      | refine LeO.bind ?_ (fun _ => ?_)
theorem impl_allNums.mono : ∀ a0 k, LeO (impl_allNums.f k a0) (impl_allNums.f (k + 1) a0) := by
  intro a0 k
  have ih0 := impl_allNums.mono_l k
  unfold impl_allNums.f
  repeat' first
      | (with_reducible exact ih0 _ _ _)
      | (with_reducible exact LeO.refl _)
      | (with_reducible exact LeO.none _)
      | (with_reducible refine LeO.ite ?_ ?_)
      | (with_reducible refine LeO.bind ?_ (fun _ => ?_))
      | exact ih0 _ _ _
      | exact LeO.none _
      | refine LeO.ite ?_ ?_
      | refine LeO.bind ?_ (fun _ => ?_)
set_option maxHeartbeats 8000000 in
set_option maxRecDepth 100000 in
theorem impl_allNums.calls (k : Nat) (A0 : Option Addr) (c0 : Nat) (l0 : List Int) (r : Bool) (w : World) (hr0 : Kd.C (Kd.int .i64) w A0 l0.length l0) (hc0 : l0.length ≤ c0) (h : impl_allNums.f k l0 = some r) :
    Calls Try.prog 143 #[.slice A0 l0.length c0] w fun e w' => e = .returned (.bool r) ∧ Drawn0 w w' := by
  have HR0 := zK hr0
  have HC0 := zK hc0
  clear hr0 hc0
  have H : (impl_allNums.l0 k l0 (l0.length : Int) 0) = some r := h
  clear h
  have H' := zK H
  clear H
  go_enter Try.func143, Try.ntmps143
  go_wp2
  go_loopg [7] k (fun kq v7 w' => ∃ (x7_1 : Int), v7 = .int .i64 x7_1 ∧ Aside0 (impl_allNums.l0 kq l0 (l0.length : Int) x7_1 = some r) ∧ Aside0 (kq ≤ k) ∧ Drawn0 w w')
  case atStart => exact ⟨(0), zR, H', ⟨Nat.le_refl _⟩, zD⟩
  clear H'
  try clear c1
  obtain ⟨x7_1, rfl, HA, HK1, ⟨m1, rfl⟩⟩ := hrel
  rcases gk with _ | k1
  · exact absurd HA.out (by simp [impl_allNums.l0])
  have H := HA.out
  clear HA
  simp only [impl_allNums.l0] at H
  by_cases c2 : x7_1 < (l0.length : Int)
  rotate_left
  · rw [if_neg c2] at H
    have c2b0 : decide (x7_1 < (l0.length : Int)) = false := decide_eq_false c2
    clear c2
    obtain rfl := Option.some.inj H
    go_wp2
    go_ret
    exact ⟨zR, zD⟩
  rw [if_pos c2] at H
  have c2b0 : decide (x7_1 < (l0.length : Int)) = true := decide_eq_true c2
  clear c2
  by_cases c3 : 0 ≤ x7_1
  rotate_left
  · rw [if_neg c3] at H
    exact absurd H (by simp)
  rw [if_pos c3] at H
  have c3b0 : decide (0 ≤ x7_1) = true := decide_eq_true c3
  clear c3
  by_cases c4 : x7_1 < (l0.length : Int)
  rotate_left
  · rw [if_neg c4] at H
    exact absurd H (by simp)
  rw [if_pos c4] at H
  have c4b0 : decide (x7_1 < (l0.length : Int)) = true := decide_eq_true c4
  clear c4
  replace H := Option.bind_eq_some_iff.mp H
  obtain ⟨t281, A50, H⟩ := H
  replace H : (if t281 = true then (impl_allNums.l0 k1 l0 (l0.length : Int) (wrap64 (x7_1 + 1))) else (some false)) = some r := H
  have A5 := zK A50
  clear A50
  by_cases c6 : t281 = true
  rotate_left
  · replace c6 := Bool.eq_false_iff.mpr c6
    subst c6
    have H1 : (some false) = some r := by rw [if_neg (show ¬ (false = true) by decide)] at H; exact H
    clear H
    have H := H1
    clear H1
    obtain rfl := Option.some.inj H
    have p280 : 0 ≤ (x7_1 : Int) := of_decide_eq_true zA
    have q280 : x7_1 < (l0.length : Int) := of_decide_eq_true zA
    obtain ⟨ad280, e280, hx280_0⟩ := Kd.at_int HR0.out x7_1 p280 q280
    cases e280
    replace p280 := eq_true p280
    replace q280 := eq_true q280
    go_wp2_with (first | ((with_reducible refine gate_callee (f := 187) rfl ?_); refine zF 12 Try.func187 #[.int .i64 (rd l0 x7_1)] rfl zL ?_; (with_reducible refine (impl_isNum.calls (rd l0 x7_1) false _ A5.out).mono ?_); rintro e w' ⟨rfl, ⟨nd, rfl⟩⟩; refine ⟨_, rfl, ?_⟩))
    go_ret
    exact ⟨zR, zD⟩
  subst c6
  have H1 : (impl_allNums.l0 k1 l0 (l0.length : Int) (wrap64 (x7_1 + 1))) = some r := by rw [if_pos rfl] at H; exact H
  clear H
  have H := H1
  clear H1
  have H' := zK H
  clear H
  have p280 : 0 ≤ (x7_1 : Int) := of_decide_eq_true zA
  have q280 : x7_1 < (l0.length : Int) := of_decide_eq_true zA
  obtain ⟨ad280, e280, hx280_0⟩ := Kd.at_int HR0.out x7_1 p280 q280
  cases e280
  replace p280 := eq_true p280
  replace q280 := eq_true q280
  go_wp2_with (first | ((with_reducible refine gate_callee (f := 187) rfl ?_); refine zF 12 Try.func187 #[.int .i64 (rd l0 x7_1)] rfl zL ?_; (with_reducible refine (impl_isNum.calls (rd l0 x7_1) true _ A5.out).mono ?_); rintro e w' ⟨rfl, ⟨nd, rfl⟩⟩; refine ⟨_, rfl, ?_⟩))
  go_roundg k1
  case measure => have := HK1.out; omega
  case rel => exact ⟨(wrap64 (x7_1 + 1)), zR, H', ⟨by have := HK1.out; omega⟩, zD⟩

end Go.Proofs.Ytkfagiojcjnfkaa.PFnExactNestOk
