/- slices.SortFunc over slots, under bySlot: the row of the call's own comes back in the order 'sortL', and nothing else that was there has turned. -/
import Derived.Shelf.SlSortCmp.WholeK
import Derived.Shelf.SlSortCmp.NoneTotal
import Derived.Ground.SlsfProg
import Derived.Test.YtiabkadcgmamaaaPFnExactFillSlotsx4
namespace Go.Proofs.Ytiabkadcgmamaaa
open Go.Shelf Go.Proofs
def Try.sortSlots_ren : Go.Shelf.Ren := ⟨fun | 6 => 12 | 15 => 18 | 14 => 17 | 28 => 29 | 29 => 30 | 20 => 21 | 21 => 22 | 22 => 23 | 23 => 24 | 24 => 25 | 25 => 26 | 26 => 27 | 27 => 28 | 46 => 32 | 47 => 33 | 48 => 34 | 49 => 35 | 50 => 36 | 57 => 37 | n => n, fun | 22 => 22 | 24 => 29 | 25 => 32 | 3 => 3 | 39 => 37 | 0 => 0 | 53 => 49 | 55 => 51 | 4 => 4 | 46 => 42 | 45 => 41 | 50 => 46 | 5 => 5 | 9 => 9 | 66 => 53 | 70 => 57 | 76 => 59 | 77 => 60 | n => n, fun | n => n⟩
theorem Try.sortSlots : Go.Proofs.SlLaysF0.n6 Try.prog Try.sortSlots_ren := {
  mixed := by kernel_rfl
  f6 := ⟨Try.f12.name, by decide, Try.func12.trans (congrArg some (by kernel_rfl))⟩
  f14 := ⟨Try.f17.name, by decide, Try.func17.trans (congrArg some (by kernel_rfl))⟩
  f15 := Try.func18.trans (congrArg some (by kernel_rfl))
  f20 := ⟨Try.f21.name, by decide, Try.func21.trans (congrArg some (by kernel_rfl))⟩
  f21 := ⟨Try.f22.name, by decide, Try.func22.trans (congrArg some (by kernel_rfl))⟩
  f22 := ⟨Try.f23.name, by decide, Try.func23.trans (congrArg some (by kernel_rfl))⟩
  f23 := ⟨Try.f24.name, by decide, Try.func24.trans (congrArg some (by kernel_rfl))⟩
  f24 := ⟨Try.f25.name, by decide, Try.func25.trans (congrArg some (by kernel_rfl))⟩
  f25 := ⟨Try.f26.name, by decide, Try.func26.trans (congrArg some (by kernel_rfl))⟩
  f26 := ⟨Try.f27.name, by decide, Try.func27.trans (congrArg some (by kernel_rfl))⟩
  f27 := ⟨Try.f28.name, by decide, Try.func28.trans (congrArg some (by kernel_rfl))⟩
  f28 := Try.func29.trans (congrArg some (by kernel_rfl))
  f29 := Try.func30.trans (congrArg some (by kernel_rfl))
  f46 := ⟨Try.f32.name, by decide, Try.func32.trans (congrArg some (by kernel_rfl))⟩
  f47 := Try.func33.trans (congrArg some (by kernel_rfl))
  f48 := Try.func34.trans (congrArg some (by kernel_rfl))
  f49 := ⟨Try.f35.name, by decide, Try.func35.trans (congrArg some (by kernel_rfl))⟩
  f50 := ⟨Try.f36.name, by decide, Try.func36.trans (congrArg some (by kernel_rfl))⟩
  f57 := ⟨Try.f37.name, by decide, Try.func37.trans (congrArg some (by kernel_rfl))⟩
  t0 := Try.underlying0
  a0 := Try.isAgg0
  z0 := Try.sizeOf0
  v0 := Try.zeroValue0
  t3 := Try.underlying3
  a3 := Try.isAgg3
  z3 := Try.sizeOf3
  v3 := Try.zeroValue3
  t4 := Try.underlying4
  a4 := Try.isAgg4
  z4 := Try.sizeOf4
  v4 := Try.zeroValue4
  t5 := Try.underlying5
  a5 := Try.isAgg5
  z5 := Try.sizeOf5
  v5 := Try.zeroValue5
  t9 := Try.underlying9
  a9 := Try.isAgg9
  z9 := Try.sizeOf9
  v9 := Try.zeroValue9
  t22 := Try.underlying22
  a22 := Try.isAgg22
  z22 := Try.sizeOf22
  v22 := Try.zeroValue22
  t25 := Try.underlying32
  a25 := Try.isAgg32
  z25 := Try.sizeOf32
  v25 := Try.zeroValue32
  t39 := Try.underlying37
  a39 := Try.isAgg37
  z39 := Try.sizeOf37
  v39 := Try.zeroValue37
  t45 := Try.underlying41
  a45 := Try.isAgg41
  z45 := Try.sizeOf41
  v45 := Try.zeroValue41
  t46 := Try.underlying42
  a46 := Try.isAgg42
  z46 := Try.sizeOf42
  v46 := Try.zeroValue42
  t50 := Try.underlying46
  a50 := Try.isAgg46
  z50 := Try.sizeOf46
  v50 := Try.zeroValue46
  t53 := Try.underlying49
  a53 := Try.isAgg49
  z53 := Try.sizeOf49
  v53 := Try.zeroValue49
  t55 := Try.underlying51
  a55 := Try.isAgg51
  z55 := Try.sizeOf51
  v55 := Try.zeroValue51
  t66 := Try.underlying53
  a66 := Try.isAgg53
  z66 := Try.sizeOf53
  v66 := Try.zeroValue53
  t70 := Try.underlying57
  a70 := Try.isAgg57
  z70 := Try.sizeOf57
  v70 := Try.zeroValue57
  t76 := Try.underlying59
  a76 := Try.isAgg59
  z76 := Try.sizeOf59
  v76 := Try.zeroValue59
  t77 := Try.underlying60
  a77 := Try.isAgg60
  z77 := Try.sizeOf60
  v77 := Try.zeroValue60 }
end Go.Proofs.Ytiabkadcgmamaaa
namespace Go.Proofs.Ytiabkadcgmamaaa.SortSlots
open Go.Shelf Go.Proofs Go.RowKit Go.Lib
open Go.Sort hiding rd
open Go.Proofs.Ytiabkadcgmamaaa.PFnExactFillSlots Go.Proofs.YtiabkadcgmamaaaW.PrintWords Go.Proofs.YtiabkadcgmamaaaW.PrintLast Go.Proofs.YtiabkadcgmamaaaW.PrintMore
set_option linter.unusedVariables false
set_option linter.unusedSimpArgs false
/-! ### the order of slots -/
def three (a b : Int) : Int := if a < b then -1 else if b < a then 1 else 0
def slotCmp (a b : S29) : Int := if three a.f0 b.f0 = 0 then three a.f1 b.f1 else three a.f0 b.f0
theorem slotCmp_neg (a b : S29) : slotCmp a b < 0 ↔ a.f0 < b.f0 ∨ a.f0 = b.f0 ∧ a.f1 < b.f1 := by
  unfold slotCmp three
  (repeat' split) <;> omega
def encS (x : S29) : List Value := [.int .i64 x.f0, .int .i64 x.f1, .int .i64 x.f2, .bool x.f3]
def cl (n i : Nat) : Nat := if i < n then i else 0
theorem cl_lt {n i : Nat} (h : 0 < n) : cl n i < n := by unfold cl; split <;> omega
theorem cl_id {n i : Nat} (h : i < n) : cl n i = i := if_pos h
def slotAt (l : List S29) (i : Nat) : S29 := l.getD (cl l.length i) z29
def idxCmp (l : List S29) (i j : Nat) : Int := slotCmp (slotAt l i) (slotAt l j)
theorem swo (l : List S29) : SWO (ltOf (idxCmp l)) where
  irrefl i := by unfold ltOf idxCmp; exact decide_eq_false (by rw [slotCmp_neg]; omega)
  trans x y z h1 h2 := by
    unfold ltOf idxCmp at *
    simp only [decide_eq_true_eq, slotCmp_neg] at *
    omega
  ntrans x y z h1 h2 := by
    unfold ltOf idxCmp at *
    simp only [decide_eq_false_iff_not, slotCmp_neg] at *
    omega
def sortI (l : List S29) : Array Nat := pdq (ltOf (idxCmp l)) (Array.range l.length) 0 l.length (Lib.bitLen l.length) true true
def sortL (l : List S29) : List S29 := (sortI l).toList.map (slotAt l)
theorem sortI_perm (l : List S29) : PermIn 0 l.length (Array.range l.length) (sortI l) :=
  (pdq_sorts (ltOf (idxCmp l)) (swo l) (Array.range l.length) 0 l.length (Lib.bitLen l.length) true true (Nat.zero_le _) (by simp) (Or.inl rfl)).1
theorem sortI_sorted (l : List S29) : SortedIn (ltOf (idxCmp l)) 0 l.length (sortI l) :=
  (pdq_sorts (ltOf (idxCmp l)) (swo l) (Array.range l.length) 0 l.length (Lib.bitLen l.length) true true (Nat.zero_le _) (by simp) (Or.inl rfl)).2
theorem sortI_size (l : List S29) : (sortI l).size = l.length := by rw [(sortI_perm l).1]; simp
theorem sortL_length (l : List S29) : (sortL l).length = l.length := by simp [sortL, sortI_size]
/-! ### the comparison -/
theorem cmp_val (a b : Int) : cmp_Compare_int.f a b = some (if a < b then -1 else if b < a then 1 else 0) := by
  unfold cmp_Compare_int.f cmp_isNaN_int.f
  by_cases c1 : a < b
  · simp [c1]
  · by_cases c2 : b < a
    · simp [c1, c2]
    · simp [c1, c2]
theorem or_val (a b : Int) : cmp_Or_int.f 3 [a, b] = some (if a = 0 then b else a) := by
  by_cases c1 : a = 0
  · subst c1
    by_cases c2 : b = 0
    · subst c2; simp [cmp_Or_int.f, cmp_Or_int.l0, rd, wrap64]
    · simp [cmp_Or_int.f, cmp_Or_int.l0, rd, wrap64, c2]
  · simp [cmp_Or_int.f, cmp_Or_int.l0, rd, wrap64, c1]

/-! ### what only draws and makes -/
def Grw (w W : World) : Prop := ∃ q os, W = grow (w.drewN q) os
theorem Grw.refl (w : World) : Grw w w := ⟨0, #[], by simp [grow, World.drewN]⟩
theorem Grw.alloc {w W : World} (h : Grw w W) (o : Obj) : Grw w (W.alloc o) := by
  obtain ⟨q, os, rfl⟩ := h
  exact ⟨q, _, by rw [alloc_eq_grow, grow_grow]⟩
theorem Grw.drewN {w W : World} (h : Grw w W) (n : Nat) : Grw w (W.drewN n) := by
  obtain ⟨q, os, rfl⟩ := h
  exact ⟨q + n, os, by simp [grow, World.drewN, Nat.add_assoc]⟩
theorem Grw.drew {w W : World} (h : Grw w W) : Grw w W.drew := Grw.drewN h 1
section
variable {P : Program} {ops : Array Oper} {rest : List Oper} {o : Oper} {a : Act} {Q : Exit → Act → World → Prop}
theorem zJE {W : World} (N : Nat) (cs : Array Value) (t : TypeId) (h : ∀ g, g = W.heap.size → ∀ w1, w1.heap[g]? = some (.cells cs t (0, 0)) → Below W.heap.size W w1 → (∀ w0, Grw w0 W → Grw w0 w1) → wpList P ops Q rest (a.put o.dst (.pointer (some ⟨g, 0, none⟩))) w1) (hd : o.dst = some N := by exact rfl) (hg : o.guard = none := by exact rfl) (hr : (execOp a.eval o).run P W = .ok (.value (.pointer (some ⟨W.heap.size, 0, none⟩))) (W.alloc (.cells cs t (0, 0))) := by first | (go_simp; done) | (go_simp; rfl)) : wpList P ops Q (o :: rest) a W :=
  Kd.event_run hg hr (h _ rfl _ (blk_new W _) (below_alloc (Below.refl _ _) _) (fun _ hw => Grw.alloc hw _))
theorem R_lit_stepE {α : Type} (d : Kd α) {w0 W : World} {Kc : Act → World → Prop} (base e : Nat) (hw : Region.wanted o (yielded ops a.tmps) = true) {N : Tmp} (_hd : o.dst = some N) {xs : List α} {inner : List Value} {ok okp : Nat → Prop}
    (hrun : (execOp a.eval o).run P W = .ok (.value (.slice (some ⟨W.heap.size, 0, none⟩) xs.length xs.length)) (W.alloc (.cells inner.toArray e)))
    (hrep : Reps (d.M W base okp) d.sz xs inner) (hok : ∀ k, okp k → ok k) (hfresh : ok W.heap.size) (HB : Below base w0 W) (hbase : base ≤ W.heap.size) (hm : xs.length ≤ 9223372036854775807)
    (h : ∀ v1 w1, d.R e w1 base ok v1 xs → Below base w0 w1 → W.grownBy w1 none → (∃ b, v1.ownBlock = some b ∧ W.heap.size ≤ b) → (∀ w2, Grw w2 W → Grw w2 w1) → Kc (a.put o.dst v1) w1) : if Region.wanted o (yielded ops a.tmps) = true then Oper.wp P o a W Kc Q else Kc (a.put o.dst undef) W := by
  rw [if_pos hw]
  unfold Oper.wp
  rw [hrun]
  refine (h _ _ ⟨fun k hk => ?_, inner, ?_, ?_⟩ (HB.alloc hbase _) (World.grownBy_alloc W _ none) ⟨W.heap.size, by simp [Value.ownBlock], Nat.le_refl _⟩ (fun _ hw => Grw.alloc hw _))
  · have : W.heap.size = k := by simpa [Value.ownBlock] using hk
    subst this
    exact hfresh
  · have h2 := World.ownsRow_lit (base := base) (e := e) (size := d.sz) W inner.toArray xs.length hbase (by simpa [maxLen] using hm) (by simpa using hrep.1)
    simpa using h2
  · refine hrep.imp_ (fun p c hp => d.M_mono (fun k hk => ⟨hok k hk.1, fun he => ?_⟩) (Kd.M_below (d.M_bound hp) (below_alloc (Below.refl _ _) _)))
    have h3 : k = W.heap.size := by simpa [Value.ownBlock] using he
    have := hk.2.2.1
    omega
end
attribute [local go_sem] max2_int min2_int max_two min_two max_three min_three max_four min_four
set_option maxHeartbeats 8000000
set_option maxRecDepth 100000
theorem bySlotG (k) (u) (x) (T) (U : Bool) (y) (z) (X) (a0 : Bool) (r) (w) (h : impl_bySlot.f k u x T U y z X a0 = some r) :
 Calls Try.prog 13 #[.agg #[.int .i64 u, .int .i64 x, .int .i64 T, .bool U], .agg #[.int .i64 y, .int .i64 z, .int .i64 X, .bool a0]] w fun e w' => e = .returned (.int .i64 r) ∧ Grw w w' := by
 have M0 := Try.underlying29
 have HB := zK (Below.refl w.heap.size w)
 have GW := zK (Grw.refl w)
 have H : ((cmp_Compare_int.f u y).bind fun o => ((cmp_Compare_int.f x z).bind fun q => ((cmp_Or_int.f k (([o, q] : List Int))).bind fun E => (some E)))) = some r := h
 clear h
 replace H := z6 H
 obtain ⟨o, g0, H⟩ := H
 have A3 := zK g0
 clear g0
 replace H := z6 H
 obtain ⟨q, i0, H⟩ := H
 have A4 := zK i0
 clear i0
 obtain ⟨d0, A⟩ : ∃ y_ : List Int, y_ = (([o, q] : List Int)) := ⟨_, rfl⟩
 replace H : ((cmp_Or_int.f k d0).bind fun E => (some E)) = some r := by first | (rw [A]; with_reducible exact H) | (have e0 := (Option.bind_some _ _).symm.trans H; rw [A]; with_reducible exact e0) | (have e0 := (Option.bind_some _ _).symm.trans H; with_reducible exact e0) | with_reducible exact H | (rw [A]; exact H) | exact H
 have Ny208 := zK A
 clear A
 replace H := z6 H
 obtain ⟨E, j0, H⟩ := H
 have A5 := zK j0
 clear j0
 obtain rfl := z5 H
 go_enter Try.func13, Try.ntmps13
 try go_wp2_with (first | ((with_reducible refine gd 2 rfl ?_); refine zJE 2 #[.int .i64 u, .int .i64 x, .int .i64 T, .bool U] 29 ?_; intro B hg w6 hbox hb hgr; have GW := zK (hgr _ GW.out); clear hgr; have I := z8 hb; have J := zK (hbox); have L := z9 hg; have c0 := z9 hg; revert I J L c0; clear HB; intro HB a G0 I0; clear hb hbox hg) | ((with_reducible refine gd 3 rfl ?_); refine zJE 3 #[.int .i64 y, .int .i64 z, .int .i64 X, .bool a0] 29 ?_; intro D hg w7 hbox hb hgr; have GW := zK (hgr _ GW.out); clear hgr; have I := z7 a hb; have J := z8 hb; have L := zK (hbox); have c0 := z9 hg; have D0 := z9 hg; have E0 := zHH hg a; have F0 := zGG hg a; revert I J L c0 D0 E0 F0; clear a HB; intro a HB l J0 L0 l0 m0; clear hb hbox hg))
 have I := zK (zd a.out)
 have J := zK (zd l.out)
 have L := zK (ze HB.out)
 have GW := zK (Grw.drew GW.out)
 revert I J L
 clear a l HB
 intro a l HB
 refine start_ (n := 13) (S := fun w' => w'.cell? ⟨B, 0, none⟩ = some (.int .i64 u) ∧ w'.cell? ⟨B, 1, none⟩ = some (.int .i64 x) ∧ w'.cell? ⟨B, 2, none⟩ = some (.int .i64 T) ∧ w'.cell? ⟨B, 3, none⟩ = some (.bool U) ∧ w'.cell? ⟨D, 0, none⟩ = some (.int .i64 y) ∧ w'.cell? ⟨D, 1, none⟩ = some (.int .i64 z) ∧ w'.cell? ⟨D, 2, none⟩ = some (.int .i64 X) ∧ w'.cell? ⟨D, 3, none⟩ = some (.bool a0)) (ds := []) (bl 13 0) (by kernel_rfl) rfl (by kernel_rfl) ⟨zy a 0, zy a 1, zy a 2, zy a 3, zy l 0, zy l 1, zy l 2, zy l 3⟩ (fun hHeld => ?_); refine with_tabW impl_bySlot.tab1 impl_bySlot.bits1 (fun HT_ HW_ => ?_)
 generalize w7.drew = w8 at a l HB GW hHeld ⊢
 refine zP 0 5 (bl 13 1) HT_ ?_
 refine zP 2 7 (bl 13 5) HT_ ?_
 refine zP 5 10 (bl 13 37) HT_ ?_
 refine zP 7 12 (bl 13 165) HT_ ?_
 refine zT 1 6 (bl 13 167) rfl rfl HT_ HW_ hHeld (by rintro w' ⟨s0, s1, s2, s3, s4, s5, s6, s7⟩; go_simp; with_reducible rfl) ?_
 refine zT 3 8 (bl 13 175) rfl rfl HT_ HW_ hHeld (by rintro w' ⟨s0, s1, s2, s3, s4, s5, s6, s7⟩; go_simp; with_reducible rfl) ?_
 refine zT 6 11 (bl 13 239) rfl rfl HT_ HW_ hHeld (by rintro w' ⟨s0, s1, s2, s3, s4, s5, s6, s7⟩; go_simp; with_reducible rfl) ?_
 refine zT 8 13 (bl 13 495) rfl rfl HT_ HW_ hHeld (by rintro w' ⟨s0, s1, s2, s3, s4, s5, s6, s7⟩; go_simp; with_reducible rfl) ?_
 refine one_ (i := 4) (N := some 9) (bl 13 511) rfl rfl (one_of HT_.out (by kernel_rfl)) (by decide) (fun K hK => ?_)
 refine goes_ Try.func20 (by kernel_rfl) rfl #[.int .i64 u, .int .i64 y] (by rfl) rfl rfl zL ?_
 with_reducible refine (cmp_Compare_int.calls u y o _ A3.out).mono ?_
 rintro e w' ⟨rfl, ⟨nd, rfl⟩⟩
 have GW := zK (Grw.drewN GW.out nd)
 refine ⟨_, rfl, ?_⟩
 refine hK.out _ _ ⟨zy a 0, zy a 1, zy a 2, zy a 3, zy l 0, zy l 1, zy l 2, zy l 3⟩ (fun hHeld => ?_)
 clear hK K
 refine zU 9 ?_
 refine one_ (i := 9) (N := some 14) (bl 13 1023) rfl rfl (one_of HT_.out (by kernel_rfl)) (by decide) (fun K hK => ?_)
 refine goes_ Try.func20 (by kernel_rfl) rfl #[.int .i64 x, .int .i64 z] (by rfl) rfl rfl zL ?_
 with_reducible refine (cmp_Compare_int.calls x z q _ A4.out).mono ?_
 rintro e w' ⟨rfl, ⟨nd, rfl⟩⟩
 have GW := zK (Grw.drewN GW.out nd)
 refine ⟨_, rfl, ?_⟩
 refine hK.out _ _ ⟨zy a 0, zy a 1, zy a 2, zy a 3, zy l 0, zy l 1, zy l 2, zy l 3⟩ (fun hHeld => ?_)
 clear hK K
 refine zU 14 ?_
 refine one_ (i := 10) (N := some 15) (bl 13 2047) rfl rfl (one_of HT_.out (by kernel_rfl)) (by decide) (fun K hK => ?_)
 refine R_lit_stepE (Kd.int .i64) _ 3 ?hg (N := 15) ?hd (xs := ([o, q] : List Int)) (inner := [.int .i64 o, .int .i64 q]) (ok := fun _ => True) (okp := fun _ => True) ?hr ?hp (fun _ hk => hk) trivial (Below.refl _ _) (Nat.le_refl _) (by simp) ?_; (case hd => rfl); (case hg => rfl); (case hr => first | (go_simp; done) | (go_simp; rfl)); (case hp => exact (Reps.one (show Kd.M (Kd.int .i64) _ _ _ o [.int .i64 o] from rfl) (Reps.one (show Kd.M (Kd.int .i64) _ _ _ q [.int .i64 q] from rfl) (Reps.none _ _))))
 intro v209 w9 O hb hg_ hnew_ hgr
 have GW := zK (hgr _ GW.out)
 clear hgr
 clear hg_ hnew_
 (first | rw [← Ny208.out] at O | (simp only [Int.reduceToNat] at O; rw [← Ny208.out] at O))
 have I := zK (Kd.R_lower O (zz zB))
 have J := z7 a hb
 have L := z7 l hb
 have c0 := z8 hb
 revert I J L c0
 clear a l HB
 intro b0 a l HB
 clear hb O
 obtain ⟨B0, C0, f0⟩ := Kd.R_slice b0.out
 (first | subst f0 | (injection f0 with f1_ f2_ f3_; have f4_ := f1_.symm; have f5_ := f3_.symm; clear f1_ f2_ f3_; subst f4_; subst f5_))
 refine hK.out _ _ ⟨zy a 0, zy a 1, zy a 2, zy a 3, zy l 0, zy l 1, zy l 2, zy l 3⟩ (fun hHeld => ?_)
 clear hK K
 refine zU 15 ?_
 refine one_ (i := 11) (N := some 16) (bl 13 4095) rfl rfl (one_of HT_.out (by kernel_rfl)) (by decide) (fun K hK => ?_)
 refine goes_ Try.func19 (by kernel_rfl) rfl #[.slice B0 d0.length C0] (by rfl) rfl rfl zL ?_
 refine (cmp_Or_int.calls k _ _ d0 E _ (zC (Kd.R_reads' b0.out).2.2) ((Kd.R_reads' b0.out).2.1) A5.out).mono ?_
 rintro e w' ⟨rfl, ⟨nd, rfl⟩⟩
 have GW := zK (Grw.drewN GW.out nd)
 refine ⟨_, rfl, ?_⟩
 refine hK.out _ _ ⟨zy a 0, zy a 1, zy a 2, zy a 3, zy l 0, zy l 1, zy l 2, zy l 3⟩ (fun hHeld => ?_)
 clear hK K
 refine zU 16 ?_
 refine zP 12 4 (bl 13 8191) HT_ ?_
 refine done_ (done_of HT_.out (by kernel_rfl)) ?_
 try go_wp2
 go_ret
 exact ⟨zE, by first | exact GW.out | exact Grw.drewN GW.out _ | exact Grw.drew GW.out⟩
theorem bySlot_walk (a b : S29) (w : World) : Calls Try.prog 13 #[.agg (encS a).toArray, .agg (encS b).toArray] w fun e w' => e = .returned (.int .i64 (slotCmp a b)) ∧ ∃ q os, w' = grow (w.drewN q) os := by
  have h : impl_bySlot.f 3 a.f0 a.f1 a.f2 a.f3 b.f0 b.f1 b.f2 b.f3 = some (slotCmp a b) := by
    unfold impl_bySlot.f
    rw [cmp_val, Option.bind_some, cmp_val, Option.bind_some, or_val]
    rfl
  exact bySlotG 3 a.f0 a.f1 a.f2 a.f3 b.f0 b.f1 b.f2 b.f3 _ w h
/-! ### the row's cells, sorted -/
/-- What the world behind the sort has: the row's block, and all else as it was. -/
theorem sorted_heap (enc : Nat → List Value) (W : World) (g m : Nat) (D : Array Nat) (os : Array Obj) {cur : Array Value} {e : TypeId} (hg : W.heap[g]? = some (.cells cur e (0, 0))) :
    (sortWorldK enc 4 W g 0 m D os).heap[g]? = some (.cells (putCells id 0 (flatK enc 4 D) cur) e (0, 0)) ∧ (∀ k, k < W.heap.size → k ≠ g → (sortWorldK enc 4 W g 0 m D os).heap[k]? = W.heap[k]?) ∧ W.heap.size ≤ (sortWorldK enc 4 W g 0 m D os).heap.size := by
  have hlt : g < W.heap.size := blk_lt hg
  refine ⟨?_, fun k hk hne => ?_, size_sortWorldK_c enc 4 W g 0 m D os⟩
  · unfold sortWorldK
    rw [heap_grow_old _ _ (by rw [size_putRowK]; exact hlt)]
    show (W.heap.modify g (onCells (putCells id 0 (flatK enc 4 D))))[g]? = _
    rw [Array.getElem?_modify, if_pos rfl, hg]
    rfl
  · unfold sortWorldK
    rw [heap_grow_old _ _ (by rw [size_putRowK]; exact hk)]
    show (W.heap.modify g (onCells (putCells id 0 (flatK enc 4 D))))[k]? = _
    rw [Array.getElem?_modify, if_neg (Ne.symm hne)]
theorem flat_take (enc : Nat → List Value) (D : Array Nat) (cur : Array Value) (h : D.size * 4 ≤ cur.size) : (putCells id 0 (flatK enc 4 D) cur).size = cur.size ∧ (putCells id 0 (flatK enc 4 D) cur).toList.take (D.size * 4) = (flatK enc 4 D).toList := by
  refine ⟨by simp [putCells], ?_⟩
  apply List.ext_getElem?
  intro k
  by_cases hk : k < D.size * 4
  · rw [List.getElem?_take_of_lt hk, Array.getElem?_toList, Array.getElem?_toList, putCells, Array.getElem?_mapIdx, Array.getElem?_eq_getElem (by omega : k < cur.size), Array.getElem?_eq_getElem (by rw [size_flatK]; exact hk)]
    simp only [Option.map_some, Nat.zero_le, true_and, Nat.zero_add, size_flatK, hk, if_true, Nat.sub_zero, id]
    rw [getElem!_pos (flatK enc 4 D) k (by rw [size_flatK]; exact hk)]
  · rw [List.getElem?_eq_none (by simp; omega), List.getElem?_eq_none (by simp; omega)]
theorem flat_reps {P : S29 → List Value → Prop} (f : Nat → S29) (enc : Nat → List Value) (hk : ∀ x, (enc x).length = 4) (hP : ∀ i, P (f i) (enc i)) (D : Array Nat) : Reps P 4 (D.toList.map f) (flatK enc 4 D).toList := by
  refine ⟨by simp, fun j p hj => ?_⟩
  have hjl : j < D.size := by have := (List.getElem?_eq_some_iff.1 hj).1; simpa using this
  obtain rfl : f D[j] = p := by
    rw [List.getElem?_map, Array.getElem?_toList, Array.getElem?_eq_getElem hjl] at hj
    simpa using hj
  have e : ((flatK enc 4 D).toList.drop (j * 4)).take 4 = enc D[j] := by
    apply List.ext_getElem?
    intro k
    by_cases hk2 : k < 4
    · rw [List.getElem?_take_of_lt hk2, List.getElem?_drop, Array.getElem?_toList, Array.getElem?_eq_getElem (by rw [size_flatK]; omega : j * 4 + k < (flatK enc 4 D).size)]
      have h2 := get_flatK enc 4 D (j * 4 + k) (by omega)
      rw [getElem!_pos (flatK enc 4 D) _ (by rw [size_flatK]; omega)] at h2
      rw [h2, show (j * 4 + k) / 4 = j by omega, show (j * 4 + k) % 4 = k by omega, getElem!_pos D j hjl, getElem!_pos (enc D[j]) k (by rw [hk]; exact hk2), List.getElem?_eq_getElem]
    · rw [List.getElem?_eq_none (by simp; omega), List.getElem?_eq_none (by rw [hk]; omega)]
  rw [e]
  exact hP _
def encI (l : List S29) (i : Nat) : List Value := encS (slotAt l i)
theorem encI_len (l : List S29) (i : Nat) : (encI l i).length = 4 := rfl
theorem encI_one (l : List S29) (i : Nat) : ∀ v ∈ encI l i, v.oneCell' = true := by
  intro v hv
  simp only [encI, encS, List.mem_cons, List.mem_nil_iff, or_false] at hv
  rcases hv with rfl | rfl | rfl | rfl <;> rfl
theorem sort_walk (l : List S29) (hl : 0 < l.length) (hl2 : l.length < 4611686018427387904) (W : World) (base g cap : Nat) (ok : Nat → Prop) (hR : Kd.R k29 29 W base ok (.slice (some ⟨g, 0, none⟩) l.length cap) l) :
    Calls Try.prog 12 #[.slice (some ⟨g, 0, none⟩) l.length cap, .func (.func 13) #[] #[]] W fun e w' => e = .returned (.tuple #[]) ∧ Kd.R k29 29 w' base ok (.slice (some ⟨g, 0, none⟩) l.length cap) (sortL l) ∧ (base ≤ g → Below base W w') := by
  have hRe := fun i (h : i < l.length) => Kd.R_elem hR z29 (i : Int) (by omega) (by omega)
  obtain ⟨h00, inner, ⟨ho1, ho2⟩, hr⟩ := hR
  obtain ⟨g', cap', cur, hv, hgb, hheap, hcap, hmax, hsz, htake⟩ : ∃ g' cap' cur, Value.slice (some ⟨g, 0, none⟩) l.length cap = .slice (some ⟨g', 0, none⟩) l.length cap' ∧ base ≤ g' ∧ W.heap[g']? = some (.cells cur 29 (0, 0)) ∧ l.length ≤ cap' ∧ cap' ≤ maxLen ∧ cur.size = cap' * 4 ∧ cur.toList.take (l.length * 4) = inner := by
    rcases ho2 with ⟨hv, _⟩ | h
    · cases hv
    · exact h
  obtain ⟨rfl, rfl⟩ : g = g' ∧ cap = cap' := by
    injection hv with h1 h2 h3
    injection h1 with h1
    injection h1 with h1 _ _
    exact ⟨h1, h3⟩
  clear hv
  have hk := encI_len l
  have h1 := encI_one l
  have hlt : g < W.heap.size := blk_lt hheap
  have hH : HoldsK (encI l) 4 W g 0 (Array.range l.length) := by
    intro j hj
    rw [size_flatK, Array.size_range] at hj
    obtain ⟨c, hcl, hM, hcc, hfr⟩ := hRe (j / 4) (by omega)
    have e1 : c = encI l (j / 4) := by
      rw [k29_openM hM]
      unfold encI slotAt encS
      rw [cl_id (by omega)]
      rfl
    subst e1
    have hj2 : j % 4 < (encI l (j / 4)).length := by rw [hk]; omega
    have h3 := hcc (j % 4) _ (List.getElem?_eq_getElem hj2)
    have h4 := hfr (j % 4)
    have e2 : ((j / 4 : Nat) : Int).toNat * k29.sz + j % 4 = 0 + j := by
      show ((j / 4 : Nat) : Int).toNat * 4 + j % 4 = 0 + j
      omega
    rw [e2] at h3 h4
    refine ⟨?_, h4⟩
    rw [h3, get_flatK _ _ _ _ (by rw [Array.size_range]; exact hj), getElem!_pos (encI l _) _ (by rw [hk]; omega)]
    simp [show j / 4 < l.length by omega]
  have hcmp : CmpLays Try.prog 13 #[] (encI l) 4 (idxCmp l) g 0 (Array.range l.length).size W := by
    intro m os dk _ i j
    exact bySlot_walk (slotAt l i) (slotAt l j) _
  have eg : ∀ args w, (callFunc 13 args).run Try.prog w = .ok (.enter 13 args) w := enters_of Try.func13 (by kernel_rfl) rfl
  have hcon := AnyQ.slices_SortFunc_eq Try.sortSlots 4 Try.isAgg29 Try.sizeOf29 (encI l) hk h1 (idxCmp l) (swo l) 13 #[] g 0 cap (Array.range l.length) W eg hcmp hH hlt (by rw [Array.size_range]; exact hl2)
  rw [Array.size_range] at hcon
  refine (show Calls Try.prog 12 _ W _ from hcon).mono ?_
  rintro e w' ⟨he, n, os, hw⟩
  have hsh := sorted_heap (encI l) W g n (sortI l) os hheap
  have hft := flat_take (encI l) (sortI l) cur (by rw [sortI_size]; omega)
  subst hw
  refine ⟨he, ?_, fun hbg => ⟨rfl, rfl, rfl, hsh.2.2, fun k hk => hsh.2.1 k (by omega) (by omega)⟩⟩
  refine ⟨h00, (flatK (encI l) 4 (sortI l)).toList, ⟨(by rw [Array.length_toList, size_flatK, sortI_size, sortL_length]; rfl), .inr ⟨g, cap, putCells id 0 (flatK (encI l) 4 (sortI l)) cur, ?_, hgb, hsh.1, ?_, hmax, ?_, ?_⟩⟩, flat_reps (slotAt l) (encI l) hk (fun i => k29_mkM _ _ _ _) (sortI l)⟩
  · rw [sortL_length]
  · rw [sortL_length]; exact hcap
  · rw [hft.1]; exact hsz
  · rw [sortL_length]; have h6 := hft.2; rw [sortI_size l] at h6; exact h6
theorem sort_call (z : List S29) (hz : z.length < 4611686018427387904) (W : World) (base : Nat) (ok : Nat → Prop) (v : Value) (hR : Kd.R k29 29 W base ok v z) :
    Calls Try.prog 12 #[v, .func (.func 13) #[] #[]] W fun e w' => e = .returned (.tuple #[]) ∧ Kd.R k29 29 w' base ok v (sortL z) ∧ Below base W w' := by
  by_cases h : 0 < z.length
  · obtain ⟨g, cap, rfl, hb, _⟩ := Kd.R_form hR h
    exact (sort_walk z h hz W base g cap ok hR).mono fun e w' ⟨he, h1, h2⟩ => ⟨he, h1, h2 hb⟩
  · obtain rfl : z = [] := List.eq_nil_of_length_eq_zero (by omega)
    obtain ⟨A, c, rfl⟩ := Kd.R_slice hR
    have hcon := AnyF.slices_SortFunc_none Try.sortSlots A c (.func (.func 13) #[] #[]) W
    refine (show Calls Try.prog 12 _ W _ from hcon).mono ?_
    rintro e w' ⟨he, rfl⟩
    refine ⟨he, ?_, Below.refl _ _⟩
    rw [List.eq_nil_of_length_eq_zero (sortL_length [])]
    exact hR
end Go.Proofs.Ytiabkadcgmamaaa.SortSlots
