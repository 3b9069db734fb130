/-
Part 26 of the texts of this proof: the walks through the program's functions.
-/
import Derived.StillTailTactics
import Derived.Test.YtgcpfelccfnnbaaDoorMCounts2
import Derived.Test.YtgcpfelccfnnbaaDoorMCounts8
import Derived.Test.YtgcpfelccfnnbaaDoorMCounts19
import Derived.Test.YtgcpfelccfnnbaaDoorMCounts20
import Derived.Test.YtgcpfelccfnnbaaDoorMCounts21
import Derived.Test.YtgcpfelccfnnbaaDoorMCounts23
import Derived.Test.YtgcpfelccfnnbaaDoorMCounts24
import Derived.Test.YtgcpfelccfnnbaaDoorMCounts25
namespace Go.Proofs.YtgcpfelccfnnbaaDoor.X
open Go.RowKit Go.Proofs.YtgcpfelccfnnbaaDoorW.PrintWords Go.Proofs.YtgcpfelccfnnbaaDoorW.PrintLast Go.Proofs.YtgcpfelccfnnbaaDoorW.PrintMore
attribute [local go_sem] max2_int min2_int max_two min_two max_three min_three max_four min_four   -- for this text's walks alone
set_option linter.unusedVariables false
set_option linter.unusedSimpArgs false
def settableB (a : Int) : Bool := a == 2 || a == 3 || a == 4 || a == 10 || a == 11
theorem oneF {W : World} {x : S24} {A3 : Option Addr} {c3 : Nat} {ok : Nat → Prop} (h3 : x.f3.length ≤ c3) (hF : Kd.F k24 W ok A3 x.f3.length x.f3) :
    Kd.F k24 (W.alloc (.cells #[.int .i64 x.f0, .string x.f1, .int .i64 x.f2, .slice A3 x.f3.length c3] 24)) (fun j => ok j ∨ j = W.heap.size) (some ⟨W.heap.size, 0, none⟩) 1 [x] := by
  intro W' hW
  have hb : W'.heap[W.heap.size]? = some (.cells #[.int .i64 x.f0, .string x.f1, .int .i64 x.f2, .slice A3 x.f3.length c3] 24 (0, 0)) := (hW _ (.inr rfl) (by simp)).trans (heap_alloc_new W _)
  have hK : k24.K W' x [.int .i64 x.f0, .string x.f1, .int .i64 x.f2, .slice A3 x.f3.length c3] := k24_mk W' x h3 (hF W' (fun k hk hlt => (hW k (.inl hk) (by simp; omega)).trans (Below.heap_alloc _ _ _ hlt)))
  refine ⟨rfl, by simp, fun _ => ⟨_, rfl, fun j p hj => ?_⟩⟩
  match j, hj with
  | 0, hj =>
    simp only [List.getElem?_cons_zero, Option.some.injEq] at hj
    subst hj
    refine ⟨_, rfl, hK, fun i u hu => ?_⟩
    rw [add_plain, Nat.zero_mul, Nat.zero_add, blk_cell hb i]
    simpa using hu
def edit_change.r7.T : Bool × List (List Nat × List Nat) := (true, [([], []), ([0], [0]), ([1], [1]), ([2], [2]), ([], []), ([4], [4]), ([], []), ([3, 5, 6], [3, 5, 6]), ([7], [7]), ([8, 7, 0, 1, 2, 3, 4, 5, 6, 7, 8], [8]), ([9, 0, 1, 2, 3, 4, 5, 6, 7, 8, 9], [])])
def edit_change.r7.B : List Nat := [0, 1, 3, 7, 0, 16, 0, 127, 255, 511, 1023]
theorem edit_change.r7.tab : rtab .any (opsOf Tryd.f31 7) = edit_change.r7.T := by kernel_rfl
theorem edit_change.r7.bits : waitsOk edit_change.r7.T.2 edit_change.r7.B = true := by kernel_rfl
def edit_change.r9.T : Bool × List (List Nat × List Nat) := (true, [([], []), ([0], [0]), ([1], [1]), ([], []), ([2, 3], [2, 3]), ([4], [4]), ([4], [4]), ([5, 4, 0, 1, 2, 3, 4, 5, 6], [5]), ([6, 7, 0, 1, 2, 3, 4, 5, 6, 7], [6])])
def edit_change.r9.B : List Nat := [0, 1, 3, 0, 15, 31, 31, 127, 255]
theorem edit_change.r9.tab : rtab .any (opsOf Tryd.f31 9) = edit_change.r9.T := by kernel_rfl
theorem edit_change.r9.bits : waitsOk edit_change.r9.T.2 edit_change.r9.B = true := by kernel_rfl
set_option maxRecDepth 10000 in
theorem settable_f (a0 : Int) (a1 : ByteArray) (a2 : Int) (l : List S24) : edit_settable.f 6 a0 a1 a2 l = some (settableB a0) := by
  have e0 : rd [2, 3, 4, 10, 11] 0 = 2 := rfl
  have e1 : rd [2, 3, 4, 10, 11] 1 = 3 := rfl
  have e2 : rd [2, 3, 4, 10, 11] 2 = 4 := rfl
  have e3 : rd [2, 3, 4, 10, 11] 3 = 10 := rfl
  have e4 : rd [2, 3, 4, 10, 11] 4 = 11 := rfl
  have w1 : wrap64 1 = 1 := by kernel_rfl
  have w2 : wrap64 2 = 2 := by kernel_rfl
  have w3 : wrap64 3 = 3 := by kernel_rfl
  have w4 : wrap64 4 = 4 := by kernel_rfl
  have w5 : wrap64 5 = 5 := by kernel_rfl
  unfold settableB edit_settable.f slices_Contains_int_int.f slices_Index_int_int.f
  by_cases h2 : a0 = 2
  · subst h2; simp [slices_Index_int_int.l0, w1, w2, w3, w4, w5, e0]
  by_cases h3 : a0 = 3
  · subst h3; simp [slices_Index_int_int.l0, w1, w2, w3, w4, w5, e0, e1]
  by_cases h4 : a0 = 4
  · subst h4; simp [slices_Index_int_int.l0, w1, w2, w3, w4, w5, e0, e1, e2]
  by_cases h10 : a0 = 10
  · subst h10; simp [slices_Index_int_int.l0, w1, w2, w3, w4, w5, e0, e1, e2, e3]
  by_cases h11 : a0 = 11
  · subst h11; simp [slices_Index_int_int.l0, w1, w2, w3, w4, w5, e0, e1, e2, e3, e4]
  simp [slices_Index_int_int.l0, w1, w2, w3, w4, w5, e0, e1, e2, e3, e4, h2, h3, h4, h10, h11, Ne.symm h2, Ne.symm h3, Ne.symm h4, Ne.symm h10, Ne.symm h11]
/-- The items that take the place of some items; false: those are not as required. -/
def changeG (o : S27) (old : List S24) : List S24 × Bool :=
  if o.f0 = 1 then (o.f4, true)
  else if o.f0 = 2 then ([], eqL old o.f4)
  else if o.f0 = 3 then ([⟨(nth o.f4 0).f0, (nth o.f4 0).f1, (nth o.f4 0).f2, filledL (nth o.f4 0).f3 o.f5.toNat old⟩], true)
  else if o.f0 = 4 then unwrappedG (nth old 0) o
  else ([⟨(nth old 0).f0, o.f7, (nth old 0).f2, (nth old 0).f3⟩], settableB (nth old 0).f0 && decide ((nth old 0).f1.data.toList = o.f6.data.toList))
/-- What change needs. -/
def ChangeOk (o : S27) (old : List S24) : Prop :=
  if o.f0 = 1 then True
  else if o.f0 = 2 then True
  else if o.f0 = 3 then 0 < o.f4.length ∧ 0 ≤ o.f5 ∧ o.f5 < (nth o.f4 0).f3.length ∧ cntL (nth o.f4 0).f3 < 1000000
  else if o.f0 = 4 then 0 < o.f4.length ∧ 0 ≤ o.f5 ∧ 0 < old.length ∧ cntL (nth old 0).f3 < 1000000
  else 0 < old.length
set_option maxRecDepth 100000 in
set_option maxHeartbeats 2000000 in
theorem change_any (o : S27) (l : List S24) (A AR AN : Option Addr) (c cR cN : Nat) (P : Nat → Prop) (w : World) (hok : ChangeOk o l) (hc : l.length ≤ c) (hcN : o.f4.length ≤ cN) (hF : Kd.F k24 w P A l.length l) (hN : Kd.F k24 w P AN o.f4.length o.f4) :
    Calls Tryd.prog 31 #[.agg #[.int .i64 o.f0, .slice AR o.f1.length cR, .int .i64 o.f2, .int .i64 o.f3, .slice AN o.f4.length cN, .int .i64 o.f5, .string o.f6, .string o.f7], .slice A l.length c] w fun e w' => ∃ (A' : Option Addr) (c' : Nat), e = .returned (.tuple #[.slice A' (changeG o l).1.length c', .bool (changeG o l).2]) ∧ (changeG o l).1.length ≤ c' ∧ Kd.F k24 w' (fun j => P j ∨ w.heap.size ≤ j) A' (changeG o l).1.length (changeG o l).1 ∧ Below w.heap.size w w' := by
  have HF := Aside0.mk (Kd.F_bound hF)
  have HN := Aside0.mk (Kd.F_bound hN)
  clear hF hN
  have HB1 : ∀ o1 : Obj, Aside0 (Below w.heap.size w (w.alloc o1)) := fun o1 => ⟨below_alloc (Below.refl _ _) _⟩
  obtain ⟨o0, o1, o2, o3, o4, o5, o6, o7⟩ := o
  simp only at *
  by_cases h1 : o0 = 1
  · subst h1
    have HR : Aside0 (changeG ⟨1, o1, o2, o3, o4, o5, o6, o7⟩ l = (o4, true)) := ⟨by unfold changeG; rw [if_pos rfl]⟩
    clear hok
    go_enter Tryd.func31, Tryd.ntmps31
    go_wp2_with fail
    refine bodyPost_ret (results_tmp2 rfl _ _ _) rfl ?_
    exact ⟨AN, cN, by rw [HR.out]; rfl, by rw [HR.out]; exact hcN, by rw [HR.out]; exact Kd.F_mono (Kd.F_step HN.out (fun k hk _ => (HB1 _).out.block k hk.2)) (fun k hk => .inl hk.1), (HB1 _).out⟩
  by_cases h2 : o0 = 2
  · subst h2
    have HR : Aside0 (changeG ⟨2, o1, o2, o3, o4, o5, o6, o7⟩ l = ([], eqL l o4)) := ⟨by unfold changeG; simp⟩
    clear hok
    go_enter Tryd.func31, Tryd.ntmps31
    go_wp2_with (go_at_call 48; go_loud (refine (equalFunc_any l o4 A AN c cN _ hc hcN (Kd.C_below (Kd.F_now HF.out) (HB1 _).out) (Kd.C_below (Kd.F_now HN.out) (HB1 _).out)).mono ?_; rintro e w3 ⟨rfl, hb3⟩))
    refine bodyPost_ret (results_tmp2 rfl _ _ _) rfl ?_
    exact ⟨none, 0, by rw [HR.out]; rfl, by rw [HR.out]; exact Nat.le_refl _, by rw [HR.out]; exact Kd.F_nil _ _ _, below_then (HB1 _).out (HB1 _).out.size hb3⟩
  by_cases h3 : o0 = 3
  · subst h3
    have hok3 : 0 < o4.length ∧ 0 ≤ o5 ∧ o5 < (nth o4 0).f3.length ∧ cntL (nth o4 0).f3 < 1000000 := by simpa [ChangeOk] using hok
    obtain ⟨hn, h0, hs, hx⟩ := hok3
    obtain ⟨s, rfl⟩ : ∃ s : Nat, o5 = s := ⟨o5.toNat, by omega⟩
    have hs : s < (nth o4 0).f3.length := by omega
    have HR : Aside0 (changeG ⟨3, o1, o2, o3, o4, s, o6, o7⟩ l = ([⟨(nth o4 0).f0, (nth o4 0).f1, (nth o4 0).f2, filledL (nth o4 0).f3 s l⟩], true)) := ⟨by simp [changeG]⟩
    clear hok h1 h2
    have HFl := fun o1 : Obj => Kd.F_step (W1 := w.alloc o1) HF.out (fun k hk _ => (HB1 o1).out.block k hk.2)
    have HNF := fun o1 : Obj => Kd.F_step (W1 := w.alloc o1) HN.out (fun k hk _ => (HB1 o1).out.block k hk.2)
    obtain ⟨ad4, A5, c5, rfl, HC5, HF5, n0, n1, n2, n3⟩ := elemF (HNF (.cells #[.int .i64 3, .slice AR o1.length cR, .int .i64 o2, .int .i64 o3, .slice AN o4.length cN, .int .i64 s, .string o6, .string o7] 27)) hn
    have HFl := Aside0.mk HFl
    have HNF := Aside0.mk HNF
    have hz0 : ad4.add (0 * 4) = ad4 := by rw [Nat.zero_mul]; exact add_zero_ ad4
    rw [hz0] at n0 n1 n2 n3
    have hfl : (filledL (nth o4 0).f3 s l).length = (nth o4 0).f3.length := List.length_set
    go_enter Tryd.func31, Tryd.ntmps31
    go_wp2_with fail
    refine start_ (n := 11) (S := fun w' => w'.cell? ⟨w.heap.size, 4, none⟩ = some (.slice (some ad4) o4.length cN) ∧ w'.cell? ⟨w.heap.size, 5, none⟩ = some (.int .i64 s) ∧ w'.cell? ad4 = some (.int .i64 (nth o4 0).f0) ∧ w'.cell? ⟨ad4.block, ad4.off + 1, none⟩ = some (.string (nth o4 0).f1) ∧ w'.cell? ⟨ad4.block, ad4.off + 2, none⟩ = some (.int .i64 (nth o4 0).f2) ∧ w'.cell? ⟨ad4.block, ad4.off + 3, none⟩ = some (.slice A5 (nth o4 0).f3.length c5)) (ds := [8]) #[false, false, false, false, false, false, false, false, false, false, false] (by kernel_rfl) rfl rfl ⟨blk_cell (heap_alloc_new _ _) 4, blk_cell (heap_alloc_new _ _) 5, n0, n1, n2, n3⟩ (fun hHeld => ?_); refine with_tabW edit_change.r7.tab edit_change.r7.bits (fun HT_ HW_ => ?_)
    refine pure_ (i := 0) (N := some 22) (v := ?_) (a' := ?_) #[true, false, false, false, false, false, false, false, false, false, false] rfl rfl (any_of HT_.out (by kernel_rfl)) (fun _ _ _ h => h) (Or.inl ⟨by rfl, ?_⟩) ?_ ?_
    rotate_left
    · intro w'
      go_simp
      with_reducible rfl
    rotate_left
    · simp only [Act.put, List.setIfInBounds_toArray, List.set_cons_zero, List.set_cons_succ, i64_w, i32_w]
      rfl
    refine take_ (i := 1) (N := some 23) (v := ?_) (a' := ?_) #[true, true, false, false, false, false, false, false, false, false, false] rfl rfl (take_ofW HT_.out HW_.out (by kernel_rfl)) (fun _ _ _ h => h) (Or.inl ⟨by rfl, ?_⟩) hHeld ?_ ?_
    rotate_left
    · rintro w' ⟨t0, t1, t2, t3, t4, t5⟩
      go_simp
      with_reducible rfl
    rotate_left
    · simp only [Act.put, List.setIfInBounds_toArray, List.set_cons_zero, List.set_cons_succ, i64_w, i32_w]
      rfl
    refine pure_ (i := 2) (N := some 24) (v := ?_) (a' := ?_) #[true, true, true, false, false, false, false, false, false, false, false] rfl rfl (any_of HT_.out (by kernel_rfl)) (fun _ _ _ h => h) (Or.inl ⟨by rfl, ?_⟩) ?_ ?_
    rotate_left
    · intro w'
      go_simp
      with_reducible rfl
    rotate_left
    · simp only [Act.put, List.setIfInBounds_toArray, List.set_cons_zero, List.set_cons_succ, i64_w, i32_w]
      rfl
    refine take_ (i := 3) (N := some 25) (v := ?_) (a' := ?_) #[true, true, true, true, false, false, false, false, false, false, false] rfl rfl (take_ofW HT_.out HW_.out (by kernel_rfl)) (fun _ _ _ h => h) (Or.inl ⟨by rfl, ?_⟩) hHeld ?_ ?_
    rotate_left
    · rintro w' ⟨t0, t1, t2, t3, t4, t5⟩
      go_simp
      with_reducible rfl
    rotate_left
    · simp only [Act.put, List.setIfInBounds_toArray, List.set_cons_zero, List.set_cons_succ, i64_w, i32_w]
      rfl
    refine pure_ (i := 4) (N := some 26) (v := ?_) (a' := ?_) #[true, true, true, true, true, false, false, false, false, false, false] rfl rfl (any_of HT_.out (by kernel_rfl)) (fun _ _ _ h => h) (Or.inl ⟨by rfl, ?_⟩) ?_ ?_
    rotate_left
    · intro w'
      go_simp
      with_reducible rfl
    rotate_left
    · simp only [Act.put, List.setIfInBounds_toArray, List.set_cons_zero, List.set_cons_succ, i64_w, i32_w]
      rfl
    refine take_ (i := 5) (N := some 27) (v := ?_) (a' := ?_) #[true, true, true, true, true, true, false, false, false, false, false] rfl rfl (take_ofW HT_.out HW_.out (by kernel_rfl)) (fun _ _ _ h => h) (Or.inl ⟨by rfl, ?_⟩) hHeld ?_ ?_
    rotate_left
    · rintro w' ⟨t0, t1, t2, t3, t4, t5⟩
      go_simp
      with_reducible rfl
    rotate_left
    · simp only [Act.put, List.setIfInBounds_toArray, List.set_cons_zero, List.set_cons_succ, i64_w, i32_w]
      rfl
    refine pure_ (i := 6) (N := some 28) (v := ?_) (a' := ?_) #[true, true, true, true, true, true, true, false, false, false, false] rfl rfl (any_of HT_.out (by kernel_rfl)) (fun _ _ _ h => h) (Or.inl ⟨by rfl, ?_⟩) ?_ ?_
    rotate_left
    · intro w'
      go_simp
      with_reducible rfl
    rotate_left
    · simp only [Act.put, List.setIfInBounds_toArray, List.set_cons_zero, List.set_cons_succ, i64_w, i32_w]
      rfl
    refine one_ (i := 7) (N := some 29) #[true, true, true, true, true, true, true, true, false, false, false] rfl rfl (one_of HT_.out (by kernel_rfl)) (by decide) (fun K hK => ?_)
    refine goes_ Tryd.func50 (by kernel_rfl) rfl #[.agg #[.int .i64 (nth o4 0).f0, .string (nth o4 0).f1, .int .i64 (nth o4 0).f2, .slice A5 (nth o4 0).f3.length c5], .int .i64 s, .slice A l.length c] (by rfl) rfl rfl (by (try simp only [List.map_toArray, List.map_cons, List.map_nil]); first | done | rfl | (simp only [List.length_drop, List.length_take]; rfl)) ?_
    refine (filled_any (nth o4 0) s l A5 A c5 c (fun k => P k ∧ k < w.heap.size) _ hx hs HC5 hc (Kd.F_now (ok := fun k => P k ∧ k < w.heap.size) ?hF) ?hG).mono ?_
    (case hF => exact HF5.out)
    (case hG => exact HFl.out _)
    rintro e w3 ⟨A6, c6, rfl, hl6, hF6, hb⟩
    have HB3 : Aside0 (Below w.heap.size w w3) := ⟨below_then (Below.drew (HB1 _).out) (Below.drew (HB1 _).out).size hb⟩
    have HF6 := Aside0.mk hF6
    obtain ⟨t0, t1, t2, t3, t4, t5⟩ := hHeld
    refine ⟨_, rfl, ?_⟩
    refine hK.out _ _ ⟨hold_ hb t0, hold_ hb t1, hold_ hb t2, hold_ hb t3, hold_ hb t4, hold_ hb t5⟩ (fun hHeld => ?_)
    clear hK K
    refine norm_ (a' := ?_) ?_ ?_
    rotate_left
    · show Act.put _ (some 29) _ = _
      simp only [Act.put, List.setIfInBounds_toArray, List.set_cons_zero, List.set_cons_succ, i64_w, i32_w]
      rfl
    refine last_ (i := 8) (N := some 30) #[true, true, true, true, true, true, true, true, true, false, false] rfl rfl (one_of HT_.out (by kernel_rfl)) (by decide) (fun K hK => ?_)
    refine value_ (v := .slice (some ⟨w3.heap.size, 0, none⟩) 1 1) (w1 := w3.alloc (.cells #[.int .i64 (nth o4 0).f0, .string (nth o4 0).f1, .int .i64 (nth o4 0).f2, .slice A6 (nth o4 0).f3.length c6] 24)) (by rfl) rfl ?_ ?_
    · go_simp
    refine hK.out _ _ ?_
    clear hK K
    refine norm_ (a' := ?_) ?_ ?_
    rotate_left
    · show Act.put _ (some 30) _ = _
      simp only [Act.put, List.setIfInBounds_toArray, List.set_cons_zero, List.set_cons_succ, i64_w, i32_w]
      rfl
    
    refine pure_ (i := 9) (N := some 4) (v := ?_) (a' := ?_) #[true, true, true, true, true, true, true, true, true, true, false] rfl rfl (any_of HT_.out (by kernel_rfl)) (fun _ _ _ h => h) (Or.inl ⟨by rfl, ?_⟩) ?_ ?_
    rotate_left
    · intro w'
      go_simp
      with_reducible rfl
    rotate_left
    · simp only [Act.put, List.setIfInBounds_toArray, List.set_cons_zero, List.set_cons_succ, i64_w, i32_w]
      rfl
    refine pure_ (i := 10) (N := some 5) (v := ?_) (a' := ?_) #[true, true, true, true, true, true, true, true, true, true, true] rfl rfl (any_of HT_.out (by kernel_rfl)) (fun _ _ _ h => h) (Or.inl ⟨by rfl, ?_⟩) ?_ ?_
    rotate_left
    · intro w'
      go_simp
      with_reducible rfl
    rotate_left
    · simp only [Act.put, List.setIfInBounds_toArray, List.set_cons_zero, List.set_cons_succ, i64_w, i32_w]
      rfl
    refine done_ (done_of HT_.out (by kernel_rfl)) ?_
    try go_wp2
    refine bodyPost_ret (results_tmp2 rfl _ _ _) rfl ?_
    refine ⟨_, 1, by rw [HR.out]; rfl, by rw [HR.out]; exact Nat.le_refl _, ?_, below_alloc HB3.out _⟩
    rw [HR.out]
    have h9 := oneF (W := w3) (x := ⟨(nth o4 0).f0, (nth o4 0).f1, (nth o4 0).f2, filledL (nth o4 0).f3 s l⟩) (A3 := A6) (c3 := c6) (by rw [hfl]; exact hl6) HF6.out
    rw [hfl] at h9
    exact Kd.F_mono h9 (fun k hk => by rcases hk with (hk | hk) | hk; exact .inl hk.1; exact .inr (Nat.le_trans (Below.drew (HB1 _).out).size hk); exact .inr (by rw [hk]; exact HB3.out.size))
  by_cases h4 : o0 = 4
  · subst h4
    have hok4 : 0 < o4.length ∧ 0 ≤ o5 ∧ 0 < l.length ∧ cntL (nth l 0).f3 < 1000000 := by simpa [ChangeOk] using hok
    obtain ⟨hn, h0, hl0, hx⟩ := hok4
    have HR : Aside0 (changeG ⟨4, o1, o2, o3, o4, o5, o6, o7⟩ l = unwrappedG (nth l 0) ⟨4, o1, o2, o3, o4, o5, o6, o7⟩) := ⟨by simp [changeG]⟩
    clear hok h1 h2 h3
    have HFl := fun o1 : Obj => Kd.F_step (W1 := w.alloc o1) HF.out (fun k hk _ => (HB1 o1).out.block k hk.2)
    have HNF := fun o1 : Obj => Kd.F_step (W1 := w.alloc o1) HN.out (fun k hk _ => (HB1 o1).out.block k hk.2)
    obtain ⟨ad4, A5, c5, rfl, HC5, HF5, n0, n1, n2, n3⟩ := elemF (HFl (.cells #[.int .i64 4, .slice AR o1.length cR, .int .i64 o2, .int .i64 o3, .slice AN o4.length cN, .int .i64 o5, .string o6, .string o7] 27)) hl0
    have HFl := Aside0.mk HFl
    have HNF := Aside0.mk HNF
    have hz0 : ad4.add (0 * 4) = ad4 := by rw [Nat.zero_mul]; exact add_zero_ ad4
    rw [hz0] at n0 n1 n2 n3
    go_enter Tryd.func31, Tryd.ntmps31
    go_wp2_with fail
    refine start_ (n := 9) (S := fun w' => w'.cell? ⟨w.heap.size, 0, none⟩ = some (.int .i64 4) ∧ w'.cell? ⟨w.heap.size, 1, none⟩ = some (.slice AR o1.length cR) ∧ w'.cell? ⟨w.heap.size, 2, none⟩ = some (.int .i64 o2) ∧ w'.cell? ⟨w.heap.size, 3, none⟩ = some (.int .i64 o3) ∧ w'.cell? ⟨w.heap.size, 4, none⟩ = some (.slice AN o4.length cN) ∧ w'.cell? ⟨w.heap.size, 5, none⟩ = some (.int .i64 o5) ∧ w'.cell? ⟨w.heap.size, 6, none⟩ = some (.string o6) ∧ w'.cell? ⟨w.heap.size, 7, none⟩ = some (.string o7) ∧ w'.cell? ad4 = some (.int .i64 (nth l 0).f0) ∧ w'.cell? ⟨ad4.block, ad4.off + 1, none⟩ = some (.string (nth l 0).f1) ∧ w'.cell? ⟨ad4.block, ad4.off + 2, none⟩ = some (.int .i64 (nth l 0).f2) ∧ w'.cell? ⟨ad4.block, ad4.off + 3, none⟩ = some (.slice A5 (nth l 0).f3.length c5)) (ds := []) #[false, false, false, false, false, false, false, false, false] (by kernel_rfl) rfl rfl ⟨blk_cell (heap_alloc_new _ _) 0, blk_cell (heap_alloc_new _ _) 1, blk_cell (heap_alloc_new _ _) 2, blk_cell (heap_alloc_new _ _) 3, blk_cell (heap_alloc_new _ _) 4, blk_cell (heap_alloc_new _ _) 5, blk_cell (heap_alloc_new _ _) 6, blk_cell (heap_alloc_new _ _) 7, n0, n1, n2, n3⟩ (fun hHeld => ?_); refine with_tabW edit_change.r9.tab edit_change.r9.bits (fun HT_ HW_ => ?_)
    refine pure_ (i := 0) (N := some 33) (v := ?_) (a' := ?_) #[true, false, false, false, false, false, false, false, false] rfl rfl (any_of HT_.out (by kernel_rfl)) (fun _ _ _ h => h) (Or.inl ⟨by rfl, ?_⟩) ?_ ?_
    rotate_left
    · intro w'
      go_simp
      with_reducible rfl
    rotate_left
    · simp only [Act.put, List.setIfInBounds_toArray, List.set_cons_zero, List.set_cons_succ, i64_w, i32_w]
      rfl
    refine pure_ (i := 1) (N := some 34) (v := ?_) (a' := ?_) #[true, true, false, false, false, false, false, false, false] rfl rfl (any_of HT_.out (by kernel_rfl)) (fun _ _ _ h => h) (Or.inl ⟨by rfl, ?_⟩) ?_ ?_
    rotate_left
    · intro w'
      go_simp
      with_reducible rfl
    rotate_left
    · simp only [Act.put, List.setIfInBounds_toArray, List.set_cons_zero, List.set_cons_succ, i64_w, i32_w]
      rfl
    refine take_ (i := 2) (N := some 35) (v := ?_) (a' := ?_) #[true, true, true, false, false, false, false, false, false] rfl rfl (take_ofW HT_.out HW_.out (by kernel_rfl)) (fun _ _ _ h => h) (Or.inl ⟨by rfl, ?_⟩) hHeld ?_ ?_
    rotate_left
    · rintro w' ⟨t0, t1, t2, t3, t4, t5, t6, t7, t8, t9, t10, t11⟩
      go_simp
      with_reducible rfl
    rotate_left
    · simp only [Act.put, List.setIfInBounds_toArray, List.set_cons_zero, List.set_cons_succ, i64_w, i32_w]
      rfl
    refine take_ (i := 3) (N := some 36) (v := ?_) (a' := ?_) #[true, true, true, true, false, false, false, false, false] rfl rfl (take_ofW HT_.out HW_.out (by kernel_rfl)) (fun _ _ _ h => h) (Or.inl ⟨by rfl, ?_⟩) hHeld ?_ ?_
    rotate_left
    · rintro w' ⟨t0, t1, t2, t3, t4, t5, t6, t7, t8, t9, t10, t11⟩
      go_simp
      with_reducible rfl
    rotate_left
    · simp only [Act.put, List.setIfInBounds_toArray, List.set_cons_zero, List.set_cons_succ, i64_w, i32_w]
      rfl
    refine one_ (i := 4) (N := some 37) #[true, true, true, true, true, false, false, false, false] rfl rfl (one_of HT_.out (by kernel_rfl)) (by decide) (fun K hK => ?_)
    refine goes_ Tryd.func51 (by kernel_rfl) rfl #[.agg #[.int .i64 (nth l 0).f0, .string (nth l 0).f1, .int .i64 (nth l 0).f2, .slice A5 (nth l 0).f3.length c5], .agg #[.int .i64 4, .slice AR o1.length cR, .int .i64 o2, .int .i64 o3, .slice AN o4.length cN, .int .i64 o5, .string o6, .string o7]] (by rfl) rfl rfl (by (try simp only [List.map_toArray, List.map_cons, List.map_nil]); first | done | rfl | (simp only [List.length_drop, List.length_take]; rfl)) ?_
    refine (unwrapped_any (nth l 0) ⟨4, o1, o2, o3, o4, o5, o6, o7⟩ A5 AR AN c5 cR cN (fun k => P k ∧ k < w.heap.size) _ hx h0 hn HC5 hcN ?hF (Kd.F_now (ok := fun k => P k ∧ k < w.heap.size) ?hG)).mono ?_
    (case hF => exact HF5.out)
    (case hG => exact HNF.out _)
    rintro e w3 ⟨A6, c6, rfl, hl6, hF6, hb⟩
    have HB3 : Aside0 (Below w.heap.size w w3) := ⟨below_then (Below.drew (HB1 _).out) (Below.drew (HB1 _).out).size hb⟩
    have HF6 := Aside0.mk hF6
    obtain ⟨t0, t1, t2, t3, t4, t5, t6, t7, t8, t9, t10, t11⟩ := hHeld
    refine ⟨_, rfl, ?_⟩
    refine hK.out _ _ ⟨hold_ hb t0, hold_ hb t1, hold_ hb t2, hold_ hb t3, hold_ hb t4, hold_ hb t5, hold_ hb t6, hold_ hb t7, hold_ hb t8, hold_ hb t9, hold_ hb t10, hold_ hb t11⟩ (fun hHeld => ?_)
    clear hK K
    refine norm_ (a' := ?_) ?_ ?_
    rotate_left
    · show Act.put _ (some 37) _ = _
      simp only [Act.put, List.setIfInBounds_toArray, List.set_cons_zero, List.set_cons_succ, i64_w, i32_w]
      rfl
    refine pure_ (i := 5) (N := some 38) (v := ?_) (a' := ?_) #[true, true, true, true, true, true, false, false, false] rfl rfl (any_of HT_.out (by kernel_rfl)) (fun _ _ _ h => h) (Or.inl ⟨by rfl, ?_⟩) ?_ ?_
    rotate_left
    · intro w'
      go_simp
      with_reducible rfl
    rotate_left
    · simp only [Act.put, List.setIfInBounds_toArray, List.set_cons_zero, List.set_cons_succ, i64_w, i32_w]
      rfl
    refine pure_ (i := 6) (N := some 39) (v := ?_) (a' := ?_) #[true, true, true, true, true, true, true, false, false] rfl rfl (any_of HT_.out (by kernel_rfl)) (fun _ _ _ h => h) (Or.inl ⟨by rfl, ?_⟩) ?_ ?_
    rotate_left
    · intro w'
      go_simp
      with_reducible rfl
    rotate_left
    · simp only [Act.put, List.setIfInBounds_toArray, List.set_cons_zero, List.set_cons_succ, i64_w, i32_w]
      rfl
    refine pure_ (i := 7) (N := some 4) (v := ?_) (a' := ?_) #[true, true, true, true, true, true, true, true, false] rfl rfl (any_of HT_.out (by kernel_rfl)) (fun _ _ _ h => h) (Or.inl ⟨by rfl, ?_⟩) ?_ ?_
    rotate_left
    · intro w'
      go_simp
      with_reducible rfl
    rotate_left
    · simp only [Act.put, List.setIfInBounds_toArray, List.set_cons_zero, List.set_cons_succ, i64_w, i32_w]
      rfl
    refine pure_ (i := 8) (N := some 5) (v := ?_) (a' := ?_) #[true, true, true, true, true, true, true, true, true] rfl rfl (any_of HT_.out (by kernel_rfl)) (fun _ _ _ h => h) (Or.inl ⟨by rfl, ?_⟩) ?_ ?_
    rotate_left
    · intro w'
      go_simp
      with_reducible rfl
    rotate_left
    · simp only [Act.put, List.setIfInBounds_toArray, List.set_cons_zero, List.set_cons_succ, i64_w, i32_w]
      rfl
    refine done_ (done_of HT_.out (by kernel_rfl)) ?_
    try go_wp2
    refine bodyPost_ret (results_tmp2 rfl _ _ _) rfl ?_
    exact ⟨A6, c6, by rw [HR.out]; rfl, by rw [HR.out]; exact hl6, by rw [HR.out]; exact Kd.F_mono HF6.out (fun k hk => .inl hk.1), HB3.out⟩
  · have hl0 : 0 < l.length := by simpa [ChangeOk, h1, h2, h3, h4] using hok
    have HR : Aside0 (changeG ⟨o0, o1, o2, o3, o4, o5, o6, o7⟩ l = ([⟨(nth l 0).f0, o7, (nth l 0).f2, (nth l 0).f3⟩], settableB (nth l 0).f0 && decide ((nth l 0).f1.data.toList = o6.data.toList))) := ⟨by simp [changeG, h1, h2, h3, h4]⟩
    clear hok
    have HFl := fun o1 : Obj => Kd.F_step (W1 := w.alloc o1) HF.out (fun k hk _ => (HB1 o1).out.block k hk.2)
    obtain ⟨ad4, A5, c5, rfl, HC5, HF5, n0, n1, n2, n3⟩ := elemF (HFl (.cells #[.int .i64 o0, .slice AR o1.length cR, .int .i64 o2, .int .i64 o3, .slice AN o4.length cN, .int .i64 o5, .string o6, .string o7] 27)) hl0
    have HC5 := Aside0.mk HC5
    have hz0 : ad4.add (0 * 4) = ad4 := by rw [Nat.zero_mul]; exact add_zero_ ad4
    rw [hz0] at n0 n1 n2 n3
    have HB2 : ∀ a b : Obj, Aside0 (Below w.heap.size w ((w.alloc a).alloc b)) := fun a b => ⟨below_alloc (below_alloc (Below.refl _ _) _) _⟩
    have hb27 := settable_f (nth l 0).f0 (nth l 0).f1 (nth l 0).f2 (nth l 0).f3
    generalize settableB (nth l 0).f0 = sb at HR hb27
    have HS := Aside0.mk hb27
    clear hb27
    have HV : Aside0 (((nth l 0).f1.toList == o6.toList) = decide ((nth l 0).f1.data.toList = o6.data.toList)) := ⟨by rw [ba_toList, ba_toList]; exact Bool.eq_iff_iff.2 (by simp)⟩
    have HV2 := HV.out
    generalize decide ((nth l 0).f1.data.toList = o6.data.toList) = tb at HR HV HV2
    go_enter Tryd.func31, Tryd.ntmps31
    go_wp2_with (go_at_call 52; go_loud (refine (edit_settable.calls 6 (nth l 0).f0 (nth l 0).f1 (nth l 0).f2 A5 c5 (nth l 0).f3 sb _ (Kd.C_below (Kd.F_now HF5.out) (below_alloc (Below.refl _ _) _)) HC5.out HS.out).mono ?_; rintro e w3 ⟨rfl, hb3⟩; have HX := Aside0.mk ((hb3.block (w.heap.size + 1) (by simp)).trans (alloc2_snd _ _ _)); have HY := Aside0.mk ((hb3.block w.heap.size (by simp; omega)).trans (alloc2_fst _ _ _)); have x0 := blk_cell HX.out 0; have x1 := blk_cell HX.out 1; have x2 := blk_cell HX.out 2; have x3 := blk_cell HX.out 3; have xz := blk_frozen HX.out 1; have y6 := blk_cell HY.out 6; have y7 := blk_cell HY.out 7; have hb3' := Aside0.mk hb3; clear hb3))
    all_goals
      refine bodyPost_ret (results_tmp2 rfl _ _ _) rfl ?_
      refine ⟨some ⟨w3.heap.size, 0, none⟩, 1, by rw [HR.out]; first | rfl | (simp_all; done), by rw [HR.out]; exact Nat.le_refl _, ?_, below_alloc ((below_then (HB2 _ _).out (HB2 _ _).out.size hb3'.out).setCell (by show w.heap.size ≤ w.heap.size + 1; omega) _) _⟩
      rw [HR.out]
      have hz : (w3.setCell ⟨w.heap.size + 1, 1, none⟩ (.string o7)).heap.size = w3.heap.size := by simp [World.setCell]
      have h9 := oneF (W := w3.setCell ⟨w.heap.size + 1, 1, none⟩ (.string o7)) (x := ⟨(nth l 0).f0, o7, (nth l 0).f2, (nth l 0).f3⟩) (A3 := A5) (c3 := c5) HC5.out (Kd.F_far (Kd.F_step HF5.out (fun k hk _ => ((below_then (HB2 _ _).out (HB2 _ _).out.size hb3'.out).block k hk.2).trans ((HB1 _).out.block k hk.2).symm)) (fun k hk => by show k ≠ w.heap.size + 1; omega) _)
      rw [hz] at h9
      exact Kd.F_mono h9 (fun k hk => by rcases hk with hk | hk; exact .inl hk.1; exact .inr (by rw [hk]; exact (below_then (HB2 _ _).out (HB2 _ _).out.size hb3'.out).size))
end Go.Proofs.YtgcpfelccfnnbaaDoor.X
