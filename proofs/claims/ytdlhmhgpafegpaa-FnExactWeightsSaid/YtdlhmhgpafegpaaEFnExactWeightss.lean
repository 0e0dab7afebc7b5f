/- impl.sortedRows: a clone of the rows, sorted by slices.SortFunc under the order of their keys: the rows come back in the order 'sortL', and nothing that was there has turned. -/
import Derived.Shelf.SlSortCmp.WholeK
import Derived.Shelf.SlSortCmp.NoneTotal
import Derived.Ground.SlsfProg
import Derived.Test.YtdlhmhgpafegpaaPFnExactWeightsx0
import Derived.Test.YtdlhmhgpafegpaaPFnExactWeightsx5
namespace Go.Proofs.Ytdlhmhgpafegpaa
open Go.Shelf Go.Proofs
def Try.sortRows_ren : Go.Shelf.Ren := ⟨fun | 6 => 52 | 15 => 63 | 14 => 62 | 28 => 73 | 29 => 74 | 20 => 65 | 21 => 66 | 22 => 67 | 23 => 68 | 24 => 69 | 25 => 70 | 26 => 71 | 27 => 72 | 46 => 75 | 47 => 76 | 48 => 77 | 49 => 78 | 50 => 79 | 57 => 80 | n => n, fun | 22 => 27 | 24 => 57 | 25 => 76 | 3 => 3 | 39 => 85 | 0 => 0 | 53 => 95 | 55 => 97 | 4 => 4 | 46 => 89 | 45 => 88 | 50 => 80 | 5 => 5 | 9 => 9 | 66 => 98 | 70 => 102 | 76 => 104 | 77 => 105 | n => n, fun | n => n⟩
theorem Try.sortRows : Go.Proofs.SlLaysF0.n6 Try.prog Try.sortRows_ren := {
  mixed := by kernel_rfl
  f6 := ⟨Try.f52.name, by decide, Try.func52.trans (congrArg some (by kernel_rfl))⟩
  f14 := ⟨Try.f62.name, by decide, Try.func62.trans (congrArg some (by kernel_rfl))⟩
  f15 := Try.func63.trans (congrArg some (by kernel_rfl))
  f20 := ⟨Try.f65.name, by decide, Try.func65.trans (congrArg some (by kernel_rfl))⟩
  f21 := ⟨Try.f66.name, by decide, Try.func66.trans (congrArg some (by kernel_rfl))⟩
  f22 := ⟨Try.f67.name, by decide, Try.func67.trans (congrArg some (by kernel_rfl))⟩
  f23 := ⟨Try.f68.name, by decide, Try.func68.trans (congrArg some (by kernel_rfl))⟩
  f24 := ⟨Try.f69.name, by decide, Try.func69.trans (congrArg some (by kernel_rfl))⟩
  f25 := ⟨Try.f70.name, by decide, Try.func70.trans (congrArg some (by kernel_rfl))⟩
  f26 := ⟨Try.f71.name, by decide, Try.func71.trans (congrArg some (by kernel_rfl))⟩
  f27 := ⟨Try.f72.name, by decide, Try.func72.trans (congrArg some (by kernel_rfl))⟩
  f28 := Try.func73.trans (congrArg some (by kernel_rfl))
  f29 := Try.func74.trans (congrArg some (by kernel_rfl))
  f46 := ⟨Try.f75.name, by decide, Try.func75.trans (congrArg some (by kernel_rfl))⟩
  f47 := Try.func76.trans (congrArg some (by kernel_rfl))
  f48 := Try.func77.trans (congrArg some (by kernel_rfl))
  f49 := ⟨Try.f78.name, by decide, Try.func78.trans (congrArg some (by kernel_rfl))⟩
  f50 := ⟨Try.f79.name, by decide, Try.func79.trans (congrArg some (by kernel_rfl))⟩
  f57 := ⟨Try.f80.name, by decide, Try.func80.trans (congrArg some (by kernel_rfl))⟩
  t0 := Try.underlying0
  a0 := Try.isAgg0
  z0 := Try.sizeOf0
  v0 := Try.zeroValue0
  t3 := Try.underlying3
  a3 := Try.isAgg3
  z3 := Try.sizeOf3
  v3 := Try.zeroValue3
  t4 := Try.underlying4
  a4 := Try.isAgg4
  z4 := Try.sizeOf4
  v4 := Try.zeroValue4
  t5 := Try.underlying5
  a5 := Try.isAgg5
  z5 := Try.sizeOf5
  v5 := Try.zeroValue5
  t9 := Try.underlying9
  a9 := Try.isAgg9
  z9 := Try.sizeOf9
  v9 := Try.zeroValue9
  t22 := Try.underlying27
  a22 := Try.isAgg27
  z22 := Try.sizeOf27
  v22 := Try.zeroValue27
  t25 := Try.underlying76
  a25 := Try.isAgg76
  z25 := Try.sizeOf76
  v25 := Try.zeroValue76
  t39 := Try.underlying85
  a39 := Try.isAgg85
  z39 := Try.sizeOf85
  v39 := Try.zeroValue85
  t45 := Try.underlying88
  a45 := Try.isAgg88
  z45 := Try.sizeOf88
  v45 := Try.zeroValue88
  t46 := Try.underlying89
  a46 := Try.isAgg89
  z46 := Try.sizeOf89
  v46 := Try.zeroValue89
  t50 := Try.underlying80
  a50 := Try.isAgg80
  z50 := Try.sizeOf80
  v50 := Try.zeroValue80
  t53 := Try.underlying95
  a53 := Try.isAgg95
  z53 := Try.sizeOf95
  v53 := Try.zeroValue95
  t55 := Try.underlying97
  a55 := Try.isAgg97
  z55 := Try.sizeOf97
  v55 := Try.zeroValue97
  t66 := Try.underlying98
  a66 := Try.isAgg98
  z66 := Try.sizeOf98
  v66 := Try.zeroValue98
  t70 := Try.underlying102
  a70 := Try.isAgg102
  z70 := Try.sizeOf102
  v70 := Try.zeroValue102
  t76 := Try.underlying104
  a76 := Try.isAgg104
  z76 := Try.sizeOf104
  v76 := Try.zeroValue104
  t77 := Try.underlying105
  a77 := Try.isAgg105
  z77 := Try.sizeOf105
  v77 := Try.zeroValue105 }

end Go.Proofs.Ytdlhmhgpafegpaa
namespace Go.Proofs.Ytdlhmhgpafegpaa.SortRows
open Go.Shelf Go.Proofs Go.RowKit Go.Lib
open Go.Sort hiding rd
open Go.Proofs.Ytdlhmhgpafegpaa.PFnExactWeights Go.Proofs.YtdlhmhgpafegpaaW.PrintWords Go.Proofs.YtdlhmhgpafegpaaW.PrintLast Go.Proofs.YtdlhmhgpafegpaaW.PrintMore
set_option linter.unusedVariables false
set_option linter.unusedSimpArgs false
/-! ### the order of keys -/
def lexCmp : List Int → List Int → Int
  | [], [] => 0
  | [], _ :: _ => -1
  | _ :: _, [] => 1
  | a :: x, b :: y => if a < b then -1 else if b < a then 1 else lexCmp x y
def keyCmp (a b : List Int) : Int := if a.length < b.length then -1 else if b.length < a.length then 1 else lexCmp a b
theorem lexCmp_self : ∀ a, lexCmp a a = 0
  | [] => rfl
  | a :: x => by rw [lexCmp, if_neg (by omega), if_neg (by omega)]; exact lexCmp_self x
theorem lexCmp_neg : ∀ a b, lexCmp a b < 0 → ¬ lexCmp b a < 0
  | [], [], h => by simp [lexCmp] at h
  | [], _ :: _, _ => by simp [lexCmp]
  | _ :: _, [], h => by simp [lexCmp] at h
  | a :: x, b :: y, h => by
    rw [lexCmp] at h ⊢
    by_cases c1 : a < b
    · rw [if_neg (by omega), if_pos c1]; omega
    · rw [if_neg c1] at h
      by_cases c2 : b < a
      · rw [if_pos c2] at h; omega
      · rw [if_neg c2] at h; rw [if_neg c2, if_neg c1]; exact lexCmp_neg x y h
theorem lexCmp_trans : ∀ a b c, lexCmp a b < 0 → lexCmp b c < 0 → lexCmp a c < 0
  | [], [], _, h, _ => by simp [lexCmp] at h
  | [], _ :: _, [], _, h => by simp [lexCmp] at h
  | [], _ :: _, _ :: _, _, _ => by simp [lexCmp]
  | _ :: _, [], _, h, _ => by simp [lexCmp] at h
  | _ :: _, _ :: _, [], _, h => by simp [lexCmp] at h
  | a :: x, b :: y, c :: z, h1, h2 => by
    rw [lexCmp] at h1 h2 ⊢
    by_cases c1 : a < b
    · by_cases c3 : b < c
      · rw [if_pos (by omega)]; omega
      · rw [if_neg c3] at h2
        by_cases c4 : c < b
        · rw [if_pos c4] at h2; omega
        · rw [if_pos (by omega)]; omega
    · rw [if_neg c1] at h1
      by_cases c2 : b < a
      · rw [if_pos c2] at h1; omega
      · rw [if_neg c2] at h1
        obtain rfl : a = b := by omega
        by_cases c3 : a < c
        · rw [if_pos c3]; omega
        · rw [if_neg c3] at h2 ⊢
          by_cases c4 : c < a
          · rw [if_pos c4] at h2; omega
          · rw [if_neg c4] at h2 ⊢; exact lexCmp_trans x y z h1 h2
theorem lexCmp_ntrans : ∀ a b c, ¬ lexCmp a b < 0 → ¬ lexCmp b c < 0 → ¬ lexCmp a c < 0
  | _, [], [], h, _ => h
  | _, [], _ :: _, _, h => by simp [lexCmp] at h
  | [], _ :: _, _, h, _ => by simp [lexCmp] at h
  | _ :: _, _ :: _, [], _, _ => by simp [lexCmp]
  | a :: x, b :: y, c :: z, h1, h2 => by
    rw [lexCmp] at h1 h2 ⊢
    by_cases c1 : a < b
    · rw [if_pos c1] at h1; omega
    · rw [if_neg c1] at h1
      by_cases c3 : b < c
      · rw [if_pos c3] at h2; omega
      · rw [if_neg c3] at h2
        rw [if_neg (by omega)]
        by_cases c5 : c < a
        · rw [if_pos c5]; omega
        · rw [if_neg (by omega)] at h1 h2
          rw [if_neg c5]
          exact lexCmp_ntrans x y z h1 h2
theorem keyCmp_trans (a b c : List Int) (h1 : keyCmp a b < 0) (h2 : keyCmp b c < 0) : keyCmp a c < 0 := by
  unfold keyCmp at *
  by_cases c1 : a.length < b.length
  · by_cases c2 : c.length < b.length
    · rw [if_neg (by omega), if_pos c2] at h2; omega
    · rw [if_pos (by omega)]; omega
  · rw [if_neg c1] at h1
    by_cases c3 : b.length < a.length
    · rw [if_pos c3] at h1; omega
    · rw [if_neg c3] at h1
      by_cases c4 : b.length < c.length
      · rw [if_pos (by omega)]; omega
      · rw [if_neg c4] at h2
        by_cases c5 : c.length < b.length
        · rw [if_pos c5] at h2; omega
        · rw [if_neg c5] at h2
          rw [if_neg (by omega), if_neg (by omega)]
          exact lexCmp_trans a b c h1 h2
theorem keyCmp_ntrans (a b c : List Int) (h1 : ¬ keyCmp a b < 0) (h2 : ¬ keyCmp b c < 0) : ¬ keyCmp a c < 0 := by
  unfold keyCmp at *
  by_cases c1 : a.length < b.length
  · rw [if_pos c1] at h1; omega
  · rw [if_neg c1] at h1
    by_cases c4 : b.length < c.length
    · rw [if_pos c4] at h2; omega
    · rw [if_neg c4] at h2
      rw [if_neg (by omega)]
      by_cases c3 : c.length < a.length
      · rw [if_pos c3]; omega
      · rw [if_neg (by omega)] at h1 h2
        rw [if_neg c3]
        exact lexCmp_ntrans a b c h1 h2
/-- Which row, whatever the number. -/
def cl (n i : Nat) : Nat := if i < n then i else 0
def keyAt (l : List S57) (i : Nat) : List Int := (l.getD (cl l.length i) z57).f0
def idxCmp (l : List S57) (i j : Nat) : Int := keyCmp (keyAt l i) (keyAt l j)
theorem swo (l : List S57) : SWO (ltOf (idxCmp l)) where
  irrefl i := by unfold ltOf idxCmp keyCmp; rw [if_neg (by omega), if_neg (by omega), lexCmp_self]; rfl
  trans x y z h1 h2 := by
    unfold ltOf idxCmp at *
    simp only [decide_eq_true_eq] at *
    exact keyCmp_trans _ _ _ h1 h2
  ntrans x y z h1 h2 := by
    unfold ltOf idxCmp at *
    simp only [decide_eq_false_iff_not] at *
    exact keyCmp_ntrans _ _ _ h1 h2
/-- The rows' numbers, in order; the rows, in order. -/
def sortI (l : List S57) : Array Nat := pdq (ltOf (idxCmp l)) (Array.range l.length) 0 l.length (Lib.bitLen l.length) true true
def sortL (l : List S57) : List S57 := (sortI l).toList.map fun i => l.getD (cl l.length i) z57
theorem sortI_perm (l : List S57) : PermIn 0 l.length (Array.range l.length) (sortI l) :=
  (pdq_sorts (ltOf (idxCmp l)) (swo l) (Array.range l.length) 0 l.length (Lib.bitLen l.length) true true (Nat.zero_le _) (by simp) (Or.inl rfl)).1
theorem sortI_sorted (l : List S57) : SortedIn (ltOf (idxCmp l)) 0 l.length (sortI l) :=
  (pdq_sorts (ltOf (idxCmp l)) (swo l) (Array.range l.length) 0 l.length (Lib.bitLen l.length) true true (Nat.zero_le _) (by simp) (Or.inl rfl)).2
theorem sortI_size (l : List S57) : (sortI l).size = l.length := by rw [(sortI_perm l).1]; simp
theorem sortL_length (l : List S57) : (sortL l).length = l.length := by simp [sortL, sortI_size]
end Go.Proofs.Ytdlhmhgpafegpaa.SortRows
namespace Go.Proofs.Ytdlhmhgpafegpaa.SortRows
open Go.Shelf Go.Proofs Go.RowKit Go.Lib
open Go.Sort hiding rd
open Go.Proofs.Ytdlhmhgpafegpaa.PFnExactWeights Go.Proofs.YtdlhmhgpafegpaaW.PrintWords Go.Proofs.YtdlhmhgpafegpaaW.PrintLast Go.Proofs.YtdlhmhgpafegpaaW.PrintMore
set_option linter.unusedVariables false
set_option linter.unusedSimpArgs false
/-! ### the comparison, by its printed functions -/
theorem cmp_val (a b : Int) : cmp_Compare_int.f a b = some (if a < b then -1 else if b < a then 1 else 0) := by
  unfold cmp_Compare_int.f cmp_isNaN_int.f
  by_cases c1 : a < b
  · simp [c1]
  · by_cases c2 : b < a
    · simp [c1, c2]
    · simp [c1, c2]
theorem or_val (a b : Int) : cmp_Or_int.f 3 [a, b] = some (if a = 0 then b else a) := by
  by_cases c1 : a = 0
  · subst c1
    by_cases c2 : b = 0
    · subst c2; simp [cmp_Or_int.f, cmp_Or_int.l0, rd, wrap64]
    · simp [cmp_Or_int.f, cmp_Or_int.l0, rd, wrap64, c2]
  · simp [cmp_Or_int.f, cmp_Or_int.l0, rd, wrap64, c1]
theorem rdn (l : List Int) (i : Nat) (h : i < l.length) : rd l (i : Int) = l[i] := by
  show l.getD (i : Int).toNat 0 = _
  simp [List.getD_eq_getElem?_getD, List.getElem?_eq_getElem h]
theorem wrap_up (i : Nat) (h : i < 9223372036854775807) : wrap64 ((i : Int) + 1) = ((i + 1 : Nat) : Int) := by
  unfold wrap64; omega
theorem compare_ev (s t : List Int) (hs : s.length ≤ 9223372036854775807) : Ev (fun k => slices_Compare_int_int.f k s t) (lexCmp s t) := by
  have H : ∀ d i, i + d = s.length → i ≤ t.length → Ev (fun k => slices_Compare_int_int.l0 k s t s (s.length : Int) (i : Int)) (lexCmp (s.drop i) (t.drop i)) := by
    intro d
    induction d with
    | zero =>
      intro i hi ht
      refine Ev.step (f := fun _ => some (lexCmp (s.drop i) (t.drop i))) (fun k => ?_) (Ev.now _)
      simp only [slices_Compare_int_int.l0]
      rw [if_neg (by omega), List.drop_eq_nil_of_le (by omega : s.length ≤ i)]
      by_cases c : s.length < t.length
      · rw [if_pos (by omega), List.drop_eq_getElem_cons (by omega : i < t.length)]; rfl
      · rw [if_neg (by omega), List.drop_eq_nil_of_le (by omega : t.length ≤ i)]; rfl
    | succ d ih =>
      intro i hi ht
      have hi2 : i < s.length := by omega
      rw [List.drop_eq_getElem_cons hi2]
      by_cases c : i < t.length
      · rw [List.drop_eq_getElem_cons c, lexCmp]
        have step : ∀ k, slices_Compare_int_int.l0 (k + 1) s t s (s.length : Int) (i : Int) = if (if s[i] < t[i] then (-1 : Int) else if t[i] < s[i] then 1 else 0) = 0 then slices_Compare_int_int.l0 k s t s (s.length : Int) ((i + 1 : Nat) : Int) else some (if s[i] < t[i] then -1 else if t[i] < s[i] then 1 else 0) := by
          intro k
          simp only [slices_Compare_int_int.l0, cmp_val, Option.bind_some]
          rw [if_pos (by omega), if_pos (by omega), if_pos (by omega), if_neg (by omega), if_pos (by omega), rdn s i hi2, rdn t i c, wrap_up i (by omega)]
        by_cases c1 : s[i] < t[i]
        · rw [if_pos c1]
          exact Ev.step (f := fun _ => some (-1)) (fun k => by rw [step k, if_pos c1]; rfl) (Ev.now _)
        · rw [if_neg c1]
          by_cases c2 : t[i] < s[i]
          · rw [if_pos c2]
            exact Ev.step (f := fun _ => some 1) (fun k => by rw [step k, if_neg c1, if_pos c2]; rfl) (Ev.now _)
          · rw [if_neg c2]
            exact Ev.step (fun k => by rw [step k, if_neg c1, if_neg c2, if_pos rfl]) (ih (i + 1) (by omega) (by omega))
      · rw [List.drop_eq_nil_of_le (by omega : t.length ≤ i)]
        refine Ev.step (f := fun _ => some 1) (fun k => ?_) (Ev.now _)
        simp only [slices_Compare_int_int.l0]
        rw [if_pos (by omega), if_pos (by omega), if_pos (by omega), if_pos (by omega)]
  exact H s.length 0 (by omega) (by omega)
/-! ### byKey, and the closure: what they hand back; new blocks and draws, nothing else -/
theorem two_C (W : World) (a b : Int) (T : TypeId) : Kd.C (Kd.int .i64) (W.alloc (.cells #[.int .i64 a, .int .i64 b] T)) (some ⟨W.heap.size, 0, none⟩) 2 [a, b] := by
  refine ⟨rfl, by omega, fun _ => ⟨_, rfl, fun j p hj => ?_⟩⟩
  have hb : (W.alloc (.cells #[.int .i64 a, .int .i64 b] T)).heap[W.heap.size]? = some (.cells #[.int .i64 a, .int .i64 b] T (0, 0)) := heap_alloc_new W _
  match j, hj with
  | 0, hj =>
    obtain rfl : a = p := by simpa using hj
    refine ⟨[.int .i64 a], rfl, rfl, fun i u hu => ?_⟩
    match i, hu with
    | 0, hu =>
      obtain rfl : Value.int .i64 a = u := by simpa using hu
      exact (blk_cell hb 0).trans rfl
    | i + 1, hu => simp at hu
  | 1, hj =>
    obtain rfl : b = p := by simpa using hj
    refine ⟨[.int .i64 b], rfl, rfl, fun i u hu => ?_⟩
    match i, hu with
    | 0, hu =>
      obtain rfl : Value.int .i64 b = u := by simpa using hu
      exact (blk_cell hb 1).trans rfl
    | i + 1, hu => simp at hu
  | j + 2, hj => simp at hj
theorem byKey_walk (s t : List Int) (A A' : Option Addr) (c c' : Nat) (w : World) (hs : Kd.C (Kd.int .i64) w A s.length s) (hsc : s.length ≤ c) (ht : Kd.C (Kd.int .i64) w A' t.length t) (htc : t.length ≤ c') :
    Calls Try.prog 36 #[.slice A s.length c, .slice A' t.length c'] w fun e w' => e = .returned (.int .i64 (keyCmp s t)) ∧ ∃ q os, w' = grow (w.drewN q) os := by
  have h1 := cmp_val (s.length : Int) (t.length : Int)
  obtain ⟨k2, h2⟩ := Ev.rounds (compare_ev s t hs.2.1)
  have h3 := or_val (if (s.length : Int) < (t.length : Int) then -1 else if (t.length : Int) < (s.length : Int) then 1 else 0) (lexCmp s t)
  have e : (if (if (s.length : Int) < (t.length : Int) then (-1 : Int) else if (t.length : Int) < (s.length : Int) then 1 else 0) = 0 then lexCmp s t else (if (s.length : Int) < (t.length : Int) then -1 else if (t.length : Int) < (s.length : Int) then 1 else 0)) = keyCmp s t := by
    unfold keyCmp
    by_cases c1 : s.length < t.length
    · rw [if_pos c1, if_pos (by omega : (s.length : Int) < (t.length : Int)), if_neg (by omega)]
    · rw [if_neg c1, if_neg (by omega : ¬ (s.length : Int) < (t.length : Int))]
      by_cases c2 : t.length < s.length
      · rw [if_pos c2, if_pos (by omega : (t.length : Int) < (s.length : Int)), if_neg (by omega)]
      · rw [if_neg c2, if_neg (by omega : ¬ (t.length : Int) < (s.length : Int)), if_pos rfl]
  rw [e] at h3
  clear e
  generalize (if (s.length : Int) < (t.length : Int) then (-1 : Int) else if (t.length : Int) < (s.length : Int) then 1 else 0) = x1 at h1 h3
  generalize lexCmp s t = x2 at h2 h3
  generalize keyCmp s t = x3 at h3 ⊢
  have H1 := Aside0.mk h1
  have H2 := Aside0.mk h2
  have H3 := Aside0.mk h3
  have HS := Aside0.mk hs
  have HT := Aside0.mk ht
  clear h1 h2 h3 hs ht
  go_enter Try.func36, Try.ntmps36
  go_wp2_with (first | (go_at_call 55; refine (cmp_Compare_int.calls _ _ _ _ H1.out).mono ?_; rintro e w' ⟨rfl, n1, rfl⟩) | (go_at_call 56; refine (slices_Compare_int_int.calls k2 _ _ s _ _ t x2 _ (Kd.C_drewN HS.out _) hsc (Kd.C_drewN HT.out _) htc H2.out).mono ?_; rintro e w' ⟨rfl, n2, rfl⟩) | (go_at_call 54; refine (cmp_Or_int.calls 3 _ 2 [x1, x2] x3 _ (two_C _ _ _ _) (Nat.le_refl 2) H3.out).mono ?_; rintro e w' ⟨rfl, n3, rfl⟩))
  go_ret
  exact ⟨rfl, n1 + n2 + n3, #[.cells #[.int .i64 x1, .int .i64 x2] 3], by rw [alloc_eq_grow]; simp [grow, World.drewN, Nat.add_assoc]⟩
theorem closure_walk (s t : List Int) (A A' B B' : Option Addr) (c c' d d' n n' : Nat) (w : World) (hs : Kd.C (Kd.int .i64) w A s.length s) (hsc : s.length ≤ c) (ht : Kd.C (Kd.int .i64) w A' t.length t) (htc : t.length ≤ c') :
    Calls Try.prog 53 #[.agg #[.slice A s.length c, .slice B n d], .agg #[.slice A' t.length c', .slice B' n' d']] w fun e w' => e = .returned (.int .i64 (keyCmp s t)) ∧ ∃ q os, w' = grow (w.drewN q) os := by
  have hC : ∀ o1 o2, Kd.C (Kd.int .i64) ((w.alloc o1).alloc o2) A s.length s ∧ Kd.C (Kd.int .i64) ((w.alloc o1).alloc o2) A' t.length t := fun o1 o2 => ⟨Kd.C_alloc (Kd.C_alloc hs _) _, Kd.C_alloc (Kd.C_alloc ht _) _⟩
  have HC := Aside0.mk hC
  clear hC hs ht
  have hb := fun w1 h1 h2 => byKey_walk s t A A' c c' w1 h1 hsc h2 htc
  generalize keyCmp s t = x3 at hb ⊢
  have Hb := Aside0.mk hb
  clear hb
  go_enter Try.func53, Try.ntmps53
  go_wp2_with (go_at_call 36; refine (Hb.out _ (HC.out _ _).1 (HC.out _ _).2).mono ?_; rintro e w' ⟨rfl, q, os, rfl⟩)
  go_ret
  exact ⟨rfl, q, _, by rw [alloc_eq_grow, alloc_eq_grow, grow_grow]; show grow (grow (w.drewN q) _) os = _; exact grow_grow _ _ _⟩
end Go.Proofs.Ytdlhmhgpafegpaa.SortRows
namespace Go.Proofs.Ytdlhmhgpafegpaa.SortRows
open Go.Shelf Go.Proofs Go.RowKit Go.Lib
open Go.Sort hiding rd
open Go.Proofs.Ytdlhmhgpafegpaa.PFnExactWeights Go.Proofs.YtdlhmhgpafegpaaW.PrintWords Go.Proofs.YtdlhmhgpafegpaaW.PrintLast Go.Proofs.YtdlhmhgpafegpaaW.PrintMore
set_option linter.unusedVariables false
set_option linter.unusedSimpArgs false
/-! ### the rows' cells, sorted -/
def encR (rows : List (List Value)) (i : Nat) : List Value := rows.getD (cl rows.length i) []
theorem cl_lt {n i : Nat} (h : 0 < n) : cl n i < n := by unfold cl; split <;> omega
theorem cl_id {n i : Nat} (h : i < n) : cl n i = i := if_pos h
theorem encR_mem {rows : List (List Value)} (h : 0 < rows.length) (i : Nat) : encR rows i ∈ rows := by
  have hi : cl rows.length i < rows.length := cl_lt h
  unfold encR
  rw [List.getD_eq_getElem?_getD, List.getElem?_eq_getElem hi]
  exact List.getElem_mem hi
/-- What the world behind the sort has: the row's block, and all else as it was. -/
theorem sorted_heap (enc : Nat → List Value) (W : World) (g m : Nat) (D : Array Nat) (os : Array Obj) {cur : Array Value} {e : TypeId} (hg : W.heap[g]? = some (.cells cur e (0, 0))) :
    (sortWorldK enc 2 W g 0 m D os).heap[g]? = some (.cells (putCells id 0 (flatK enc 2 D) cur) e (0, 0)) ∧ (∀ k, k < W.heap.size → k ≠ g → (sortWorldK enc 2 W g 0 m D os).heap[k]? = W.heap[k]?) ∧ W.heap.size ≤ (sortWorldK enc 2 W g 0 m D os).heap.size := by
  have hlt : g < W.heap.size := blk_lt hg
  refine ⟨?_, fun k hk hne => ?_, size_sortWorldK_c enc 2 W g 0 m D os⟩
  · unfold sortWorldK
    rw [heap_grow_old _ _ (by rw [size_putRowK]; exact hlt)]
    show (W.heap.modify g (onCells (putCells id 0 (flatK enc 2 D))))[g]? = _
    rw [Array.getElem?_modify, if_pos rfl, hg]
    rfl
  · unfold sortWorldK
    rw [heap_grow_old _ _ (by rw [size_putRowK]; exact hk)]
    show (W.heap.modify g (onCells (putCells id 0 (flatK enc 2 D))))[k]? = _
    rw [Array.getElem?_modify, if_neg (Ne.symm hne)]
theorem flat_take (enc : Nat → List Value) (D : Array Nat) (cur : Array Value) (h : D.size * 2 ≤ cur.size) : (putCells id 0 (flatK enc 2 D) cur).size = cur.size ∧ (putCells id 0 (flatK enc 2 D) cur).toList.take (D.size * 2) = (flatK enc 2 D).toList := by
  refine ⟨by simp [putCells], ?_⟩
  apply List.ext_getElem?
  intro k
  by_cases hk : k < D.size * 2
  · rw [List.getElem?_take_of_lt hk, Array.getElem?_toList, Array.getElem?_toList, putCells, Array.getElem?_mapIdx, Array.getElem?_eq_getElem (by omega : k < cur.size), Array.getElem?_eq_getElem (by rw [size_flatK]; exact hk)]
    simp only [Option.map_some, Nat.zero_le, true_and, Nat.zero_add, size_flatK, hk, if_true, Nat.sub_zero, id]
    rw [getElem!_pos (flatK enc 2 D) k (by rw [size_flatK]; exact hk)]
  · rw [List.getElem?_eq_none (by simp; omega), List.getElem?_eq_none (by simp; omega)]
theorem flat_reps (enc : Nat → List Value) (hk : ∀ x, (enc x).length = 2) (h1 : ∀ x, ∀ v ∈ enc x, v.oneCell' = true) (D : Array Nat) : Reps (fun x cs => cs = x ∧ cs.length = 2 ∧ ∀ u ∈ cs, u.oneCell' = true) 2 (D.toList.map enc) (flatK enc 2 D).toList := by
  refine ⟨by simp, fun j p hj => ?_⟩
  have hjl : j < D.size := by have := (List.getElem?_eq_some_iff.1 hj).1; simpa using this
  obtain rfl : enc D[j] = p := by
    rw [List.getElem?_map, Array.getElem?_toList, Array.getElem?_eq_getElem hjl] at hj
    simpa using hj
  refine ⟨?_, ?_, ?_⟩
  rotate_left
  · simp; omega
  · have e : ((flatK enc 2 D).toList.drop (j * 2)).take 2 = enc D[j] := by
      apply List.ext_getElem?
      intro k
      by_cases hk2 : k < 2
      · rw [List.getElem?_take_of_lt hk2, List.getElem?_drop, Array.getElem?_toList, Array.getElem?_eq_getElem (by rw [size_flatK]; omega : j * 2 + k < (flatK enc 2 D).size)]
        have h2 := get_flatK enc 2 D (j * 2 + k) (by omega)
        rw [getElem!_pos (flatK enc 2 D) _ (by rw [size_flatK]; omega)] at h2
        rw [h2, show (j * 2 + k) / 2 = j by omega, show (j * 2 + k) % 2 = k by omega, getElem!_pos D j hjl, getElem!_pos (enc D[j]) k (by rw [hk]; exact hk2), List.getElem?_eq_getElem]
      · rw [List.getElem?_eq_none (by simp; omega), List.getElem?_eq_none (by rw [hk]; omega)]
    intro u hu
    rw [e] at hu
    exact h1 _ u hu
  · apply List.ext_getElem?
    intro k
    by_cases hk2 : k < 2
    · rw [List.getElem?_take_of_lt hk2, List.getElem?_drop, Array.getElem?_toList, Array.getElem?_eq_getElem (by rw [size_flatK]; omega : j * 2 + k < (flatK enc 2 D).size)]
      have h2 := get_flatK enc 2 D (j * 2 + k) (by omega)
      rw [getElem!_pos (flatK enc 2 D) _ (by rw [size_flatK]; omega)] at h2
      rw [h2, show (j * 2 + k) / 2 = j by omega, show (j * 2 + k) % 2 = k by omega, getElem!_pos D j hjl, getElem!_pos (enc D[j]) k (by rw [hk]; exact hk2), List.getElem?_eq_getElem]
    · rw [List.getElem?_eq_none (by simp; omega), List.getElem?_eq_none (by rw [hk]; omega)]
theorem sort_walk (l : List S57) (hl : 0 < l.length) (hl2 : l.length < 4611686018427387904) (W : World) (base g cap : Nat) (ok : Nat → Prop) (hN : Kd.N k57 57 W base ok (.slice (some ⟨g, 0, none⟩) l.length cap) l) :
    Calls Try.prog 52 #[.slice (some ⟨g, 0, none⟩) l.length cap, .func (.func 53) #[] #[]] W fun e w' => e = .returned (.tuple #[]) ∧ Kd.N k57 57 w' base ok (.slice (some ⟨g, 0, none⟩) l.length cap) (sortL l) ∧ (base ≤ g → Below base W w') := by
  obtain ⟨h0, rows, hrl, hR, hf⟩ := hN
  have hRe := fun i (h : i < l.length) => Kd.R_elem hR [] (i : Int) (by omega) (by omega)
  obtain ⟨h00, inner, ⟨ho1, ho2⟩, hr⟩ := hR
  obtain ⟨g', cap', cur, hv, hgb, hheap, hcap, hmax, hsz, htake⟩ : ∃ g' cap' cur, Value.slice (some ⟨g, 0, none⟩) l.length cap = .slice (some ⟨g', 0, none⟩) rows.length cap' ∧ base ≤ g' ∧ W.heap[g']? = some (.cells cur 57 (0, 0)) ∧ rows.length ≤ cap' ∧ cap' ≤ maxLen ∧ cur.size = cap' * 2 ∧ cur.toList.take (rows.length * 2) = inner := by
    rcases ho2 with ⟨hv, _⟩ | h
    · cases hv
    · exact h
  obtain ⟨rfl, rfl⟩ : g = g' ∧ cap = cap' := by
    injection hv with h1 h2 h3
    injection h1 with h1
    injection h1 with h1 _ _
    exact ⟨h1, h3⟩
  clear hv
  have hrow : ∀ c ∈ rows, c.length = 2 ∧ ∀ u ∈ c, u.oneCell' = true := by
    intro c hc
    obtain ⟨j, hj, rfl⟩ := List.getElem_of_mem hc
    have := hr.2 j _ (List.getElem?_eq_getElem hj)
    rw [this.1] at this
    exact this.2
  have hrp : 0 < rows.length := by omega
  have hk : ∀ x, (encR rows x).length = 2 := fun x => (hrow _ (encR_mem hrp x)).1
  have h1 : ∀ x, ∀ v ∈ encR rows x, v.oneCell' = true := fun x => (hrow _ (encR_mem hrp x)).2
  have hlt : g < W.heap.size := blk_lt hheap
  have hH : HoldsK (encR rows) 2 W g 0 (Array.range l.length) := by
    intro j hj
    rw [size_flatK, Array.size_range] at hj
    obtain ⟨c, hcl, hM, hcc, hfr⟩ := hRe (j / 2) (by omega)
    have e1 : c = encR rows (j / 2) := by
      rw [hM.1]
      unfold encR
      rw [cl_id (by omega)]
      rfl
    subst e1
    have hj2 : j % 2 < (encR rows (j / 2)).length := by rw [hk]; omega
    have h3 := hcc (j % 2) _ (List.getElem?_eq_getElem hj2)
    have h4 := hfr (j % 2)
    have e2 : ((j / 2 : Nat) : Int).toNat * (Kd.raw 2).sz + j % 2 = 0 + j := by
      show ((j / 2 : Nat) : Int).toNat * 2 + j % 2 = 0 + j
      omega
    rw [show k57.sz = 2 from rfl, e2] at h3 h4
    refine ⟨?_, h4⟩
    rw [h3, get_flatK _ _ _ _ (by rw [Array.size_range]; exact hj), getElem!_pos (encR rows _) _ (by rw [hk]; omega)]
    simp [show j / 2 < l.length by omega]
  have hfk : ∀ (m : Nat) (os : Array Obj) (dk : Array Nat) (i : Nat), Kd.FK k57 (sortWorldK (encR rows) 2 W g 0 m dk os) (fun k => ok k ∧ some k ≠ (Value.slice (some ⟨g, 0, none⟩) l.length cap).ownBlock) (l.getD (cl l.length i) z57) (encR rows i) := by
    intro m os dk i
    have hi : cl l.length i < l.length := cl_lt hl
    have h5 := hf (cl l.length i) _ (encR rows i) (List.getElem?_eq_getElem hi) (by
      unfold encR
      rw [hrl, List.getD_eq_getElem?_getD, List.getElem?_eq_getElem (by omega)]
      rfl)
    rw [List.getD_eq_getElem?_getD, List.getElem?_eq_getElem hi]
    exact Kd.FK_step h5 (fun k hk hlt2 => (sorted_heap (encR rows) W g m dk os hheap).2.1 k hlt2 (fun e => hk.2 (by rw [e]; rfl)))
  have hcmp : CmpLays Try.prog 53 #[] (encR rows) 2 (idxCmp l) g 0 (Array.range l.length).size W := by
    intro m os dk _ i j
    obtain ⟨a, q, u, y, e1, f1, f2, f3, f4⟩ := k57_open (Kd.FK_now (hfk m os dk i))
    obtain ⟨a', q', u', y', e2, g1, g2, g3, g4⟩ := k57_open (Kd.FK_now (hfk m os dk j))
    rw [e1, e2]
    exact closure_walk _ _ a a' u u' q q' y y' _ _ _ f2 f1 g2 g1
  have eg : ∀ args w, (callFunc 53 args).run Try.prog w = .ok (.enter 53 args) w := enters_of Try.func53 (by kernel_rfl) rfl
  have hcon := AnyQ.slices_SortFunc_eq Try.sortRows 2 Try.isAgg57 Try.sizeOf57 (encR rows) hk h1 (idxCmp l) (swo l) 53 #[] g 0 cap (Array.range l.length) W eg hcmp hH hlt (by rw [Array.size_range]; exact hl2)
  rw [Array.size_range] at hcon
  refine (show Calls Try.prog 52 _ W _ from hcon).mono ?_
  rintro e w' ⟨he, n, os, hw⟩
  refine ⟨he, ?_, ?_⟩
  · subst hw
    have hsh := sorted_heap (encR rows) W g n (sortI l) os hheap
    have hft := flat_take (encR rows) (sortI l) cur (by rw [sortI_size]; omega)
    have hz : ((sortI l).toList.map (encR rows)).length = l.length := by simp [sortI_size]
    refine ⟨h0, (sortI l).toList.map (encR rows), by rw [hz, sortL_length], ⟨fun k hk => hk.symm, (flatK (encR rows) 2 (sortI l)).toList, ?_, flat_reps (encR rows) hk h1 (sortI l)⟩, ?_⟩
    · refine ⟨by simp; rfl, .inr ⟨g, cap, putCells id 0 (flatK (encR rows) 2 (sortI l)) cur, ?_, hgb, hsh.1, ?_, hmax, ?_, ?_⟩⟩
      · rw [hz]
      · rw [hz]; omega
      · rw [hft.1]; exact hsz
      · rw [hz]; have h6 := hft.2; rw [sortI_size l] at h6; exact h6
    · intro j x c hx hc
      have hj : j < (sortI l).size := by have := (List.getElem?_eq_some_iff.1 hc).1; simpa using this
      have e1 : l.getD (cl l.length (sortI l)[j]) z57 = x := by
        rw [sortL, List.getElem?_map, Array.getElem?_toList, Array.getElem?_eq_getElem hj] at hx
        simpa using hx
      have e2 : encR rows (sortI l)[j] = c := by
        rw [List.getElem?_map, Array.getElem?_toList, Array.getElem?_eq_getElem hj] at hc
        simpa using hc
      rw [← e1, ← e2]
      exact hfk n os (sortI l) _
  · intro hbg
    subst hw
    have hsh := sorted_heap (encR rows) W g n (sortI l) os hheap
    exact ⟨rfl, rfl, rfl, hsh.2.2, fun k hk => hsh.2.1 k (by omega) (by omega)⟩
end Go.Proofs.Ytdlhmhgpafegpaa.SortRows

namespace Go.Proofs.Ytdlhmhgpafegpaa.SortRows
open Go.Shelf Go.Proofs Go.RowKit Go.Lib
open Go.Sort hiding rd
open Go.Proofs.Ytdlhmhgpafegpaa.PFnExactWeights Go.Proofs.YtdlhmhgpafegpaaW.PrintWords Go.Proofs.YtdlhmhgpafegpaaW.PrintLast Go.Proofs.YtdlhmhgpafegpaaW.PrintMore
set_option linter.unusedVariables false
set_option linter.unusedSimpArgs false
theorem sort_call (z : List S57) (hz : z.length < 4611686018427387904) (W : World) (base : Nat) (ok : Nat → Prop) (v : Value) (hN : Kd.N k57 57 W base ok v z) :
    Calls Try.prog 52 #[v, .func (.func 53) #[] #[]] W fun e w' => e = .returned (.tuple #[]) ∧ Kd.N k57 57 w' base ok v (sortL z) ∧ Below base W w' := by
  by_cases h : 0 < z.length
  · obtain ⟨g, cap, rfl, hb, _⟩ := Kd.N_form hN h
    exact (sort_walk z h hz W base g cap ok hN).mono fun e w' ⟨he, h1, h2⟩ => ⟨he, h1, h2 hb⟩
  · obtain rfl : z = [] := List.eq_nil_of_length_eq_zero (by omega)
    obtain ⟨A, c, rfl⟩ := Kd.N_slice hN
    have hcon := AnyF.slices_SortFunc_none Try.sortRows A c (.func (.func 53) #[] #[]) W
    refine (show Calls Try.prog 52 _ W _ from hcon).mono ?_
    rintro e w' ⟨he, rfl⟩
    refine ⟨he, ?_, Below.refl _ _⟩
    rw [List.eq_nil_of_length_eq_zero (sortL_length [])]
    exact hN
set_option maxHeartbeats 2000000 in
theorem calls {cl : List S57 → Option (List S57)} (hcl : ∀ (P : Nat → Prop) (A : Option Addr) (c : Nat) (l r : List S57) (w : World), Kd.V k57 57 w w.heap.size (fun k_ => P k_) (.slice A l.length c) l → cl l = some r →
      Calls Try.prog 51 #[.slice A l.length c] w fun e w' => ∃ v0_ : Value, e = .returned v0_ ∧ Kd.N k57 57 w' w.heap.size (fun k_ => (P k_ ∨ w.heap.size ≤ k_)) v0_ r ∧ Below w.heap.size w w')
    (a0 : Int) (P : Nat → Prop) (A : Option Addr) (c : Nat) (l r : List S57) (w : World) (hs : Kd.V k57 57 w w.heap.size (fun k_ => P k_) (.slice A l.length c) l) (h : ((cl l).bind fun z => if z.length < 4611686018427387904 then some (sortL z) else none) = some r) :
    Calls Try.prog 33 #[.agg #[.int .i64 a0, .slice A l.length c]] w fun e w' => ∃ v0_ : Value, e = .returned (v0_) ∧ Kd.N k57 57 w' w.heap.size (fun k_ => (P k_ ∨ w.heap.size ≤ k_)) v0_ r ∧ Below w.heap.size w w' := by
  obtain ⟨z, hz, h⟩ := Option.bind_eq_some_iff.1 h
  by_cases hlen : z.length < 4611686018427387904
  rotate_left
  · rw [if_neg hlen] at h; cases h
  rw [if_pos hlen] at h
  obtain rfl := Option.some.inj h
  clear h
  have hv : ∀ o, Kd.V k57 57 (w.alloc o) (w.alloc o).heap.size (fun k_ => P k_) (.slice A l.length c) l := fun o => Kd.V_alloc hs o
  have hc := fun o => hcl P A c l z (w.alloc o) (hv o) hz
  have HC := Aside0.mk hc
  have HL := Aside0.mk hlen
  clear hc hv hs hcl hz hlen
  go_enter Try.func33, Try.ntmps33
  go_wp2_with (first | (go_at_call 51; refine (HC.out _).mono ?_; rintro e w1 ⟨v0, rfl, hN, hb⟩; have HN := Aside0.mk hN; have HB := Aside0.mk hb; clear hN hb) | (go_at_call 52; refine (sort_call z HL.out _ _ _ v0 HN.out).mono ?_; rintro e w2 ⟨rfl, hN2, hb2⟩))
  go_ret
  refine ⟨v0, rfl, Kd.N_mono (Kd.N_lower hN2 (by simp)) (fun k hk => hk.imp id (fun h => Nat.le_trans (by simp) h)), ?_⟩
  exact ((below_alloc (Below.refl _ _) _).trans (HB.out.mono (by simp))).trans (hb2.mono (by simp))
end Go.Proofs.Ytdlhmhgpafegpaa.SortRows
