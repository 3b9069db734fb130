/-
Part 24 of the texts of this proof: the walks through the program's functions.
-/
import Derived.StillTailTactics
import Derived.Test.YtgcpfelccfnnbaaDoorMCounts2
import Derived.Test.YtgcpfelccfnnbaaDoorMCounts19
import Derived.Test.YtgcpfelccfnnbaaDoorMCounts20
import Derived.Test.YtgcpfelccfnnbaaDoorMCounts21
import Derived.Test.YtgcpfelccfnnbaaDoorMCounts23
namespace Go.Proofs.YtgcpfelccfnnbaaDoor.X
open Go.RowKit Go.Proofs.YtgcpfelccfnnbaaDoorW.PrintWords Go.Proofs.YtgcpfelccfnnbaaDoorW.PrintLast Go.Proofs.YtgcpfelccfnnbaaDoorW.PrintMore
attribute [local go_sem] max2_int min2_int max_two min_two max_three min_three max_four min_four   -- for this text's walks alone
set_option linter.unusedVariables false
set_option linter.unusedSimpArgs false
/-- The items that come out of an item; false: it is not as the operation requires. -/
def unwrappedG (x : S24) (o : S27) : List S24 × Bool :=
  if (x.f3.length : Int) ≤ o.f5 ∨ ((nth x.f3 o.f5.toNat).f3.length : Int) ≠ o.f3 then ([], false)
  else ((nth x.f3 o.f5.toNat).f3, eqN ⟨x.f0, x.f1, x.f2, filledL x.f3 o.f5.toNat []⟩ (nth o.f4 0))
def edit_unwrapped.r3.T : Bool × List (List Nat × List Nat) := (true, [([], []), ([], []), ([1], [1]), ([0, 2], [0, 2]), ([], []), ([4], [4]), ([5], [5]), ([6], [6]), ([3, 7, 3], [3, 7]), ([8, 8, 0, 1, 2, 3, 4, 5, 6, 7, 8], [8])])
def edit_unwrapped.r3.B : List Nat := [0, 0, 2, 7, 0, 16, 48, 112, 255, 511]
theorem edit_unwrapped.r3.tab : rtab .any (opsOf Tryd.f51 3) = edit_unwrapped.r3.T := by kernel_rfl
theorem edit_unwrapped.r3.bits : waitsOk edit_unwrapped.r3.T.2 edit_unwrapped.r3.B = true := by kernel_rfl
theorem hold_ {W W3 : World} {a : Addr} {u : Value} (hb : Below W.heap.size W W3) (h : W.cell? a = some u) : W3.cell? a = some u := (hb.cell (World.block_lt_of_cell? _ _ h)).trans h
set_option maxRecDepth 100000 in
set_option maxHeartbeats 2000000 in
theorem unwrapped_any (x : S24) (o : S27) (A AR AN : Option Addr) (c cR cN : Nat) (P : Nat → Prop) (w : World) (hx : cntL x.f3 < 1000000) (h0 : 0 ≤ o.f5) (hn : 0 < o.f4.length) (hc : x.f3.length ≤ c) (hcN : o.f4.length ≤ cN) (hF : Kd.F k24 w P A x.f3.length x.f3) (hN : Kd.C k24 w AN o.f4.length o.f4) :
    Calls Tryd.prog 51 #[.agg #[.int .i64 x.f0, .string x.f1, .int .i64 x.f2, .slice A x.f3.length c], .agg #[.int .i64 o.f0, .slice AR o.f1.length cR, .int .i64 o.f2, .int .i64 o.f3, .slice AN o.f4.length cN, .int .i64 o.f5, .string o.f6, .string o.f7]] w fun e w' => ∃ (A' : Option Addr) (c' : Nat), e = .returned (.tuple #[.slice A' (unwrappedG x o).1.length c', .bool (unwrappedG x o).2]) ∧ (unwrappedG x o).1.length ≤ c' ∧ Kd.F k24 w' P A' (unwrappedG x o).1.length (unwrappedG x o).1 ∧ Below w.heap.size w w' := by
  have HF := Aside0.mk (Kd.F_bound hF)
  have HN := Aside0.mk hN
  have HC := Aside0.mk (Kd.F_now hF)
  clear hF hN
  obtain ⟨x0, x1, x2, l⟩ := x
  obtain ⟨o0, o1, o2, o3, o4, o5, o6, o7⟩ := o
  simp only at *
  obtain ⟨s, rfl⟩ : ∃ s : Nat, o5 = s := ⟨o5.toNat, by omega⟩
  by_cases h1 : l.length ≤ s
  · have HR : Aside0 (unwrappedG ⟨x0, x1, x2, l⟩ ⟨o0, o1, o2, o3, o4, s, o6, o7⟩ = ([], false)) := ⟨by unfold unwrappedG; simp only [Int.toNat_natCast]; rw [if_pos (by left; omega)]⟩
    go_enter Tryd.func51, Tryd.ntmps51
    go_wp2_with fail
    go_region
    go_wp2
    refine bodyPost_ret (results_tmp2 rfl _ _ _) rfl ?_
    exact ⟨none, 0, by rw [HR.out]; rfl, by rw [HR.out]; exact Nat.le_refl _, by rw [HR.out]; exact Kd.F_nil _ _ _, Below.drew (below_alloc (below_alloc (Below.refl _ _) _) _)⟩
  · have hs : s < l.length := by omega
    have HB0 : ∀ o1 o2 : Obj, Aside0 (Below w.heap.size w ((w.alloc o1).alloc o2)) := fun o1 o2 => ⟨below_alloc (below_alloc (Below.refl _ _) _) _⟩
    have HFl := fun o1 o2 : Obj => Kd.F_step (W1 := (w.alloc o1).alloc o2) HF.out (fun k hk _ => (HB0 o1 o2).out.block k hk.2)
    obtain ⟨ad, A3, c3, rfl, HC3, HF3, g0, g1, g2, g3⟩ := elemF (HFl (.cells #[.int .i64 x0, .string x1, .int .i64 x2, .slice A l.length c] 24) (.cells #[.int .i64 o0, .slice AR o1.length cR, .int .i64 o2, .int .i64 o3, .slice AN o4.length cN, .int .i64 s, .string o6, .string o7] 27)) hs
    have HFl := Aside0.mk HFl
    by_cases h2 : ((nth l s).f3.length : Int) = o3
    · subst h2
      have HR : Aside0 (unwrappedG ⟨x0, x1, x2, l⟩ ⟨o0, o1, o2, (nth l s).f3.length, o4, s, o6, o7⟩ = ((nth l s).f3, eqN ⟨x0, x1, x2, filledL l s []⟩ (nth o4 0))) := ⟨by unfold unwrappedG; simp only [Int.toNat_natCast]; rw [if_neg (by omega)]⟩
      have HNF := fun a b : Obj => Kd.F_step (W1 := (w.alloc a).alloc b) (Kd.C_F k24_heap HN.out) (fun k hk _ => (HB0 a b).out.block k hk)
      obtain ⟨ad4, A5, c5, rfl, HC5, HF5, n0, n1, n2, n3⟩ := elemF (HNF (.cells #[.int .i64 x0, .string x1, .int .i64 x2, .slice (some ad) l.length c] 24) (.cells #[.int .i64 o0, .slice AR o1.length cR, .int .i64 o2, .int .i64 (nth l s).f3.length, .slice AN o4.length cN, .int .i64 s, .string o6, .string o7] 27)) hn
      have HNF := Aside0.mk HNF
      have hz0 : ad4.add (0 * 4) = ad4 := by rw [Nat.zero_mul]; exact add_zero_ ad4
      rw [hz0] at n0 n1 n2 n3
      go_enter Tryd.func51, Tryd.ntmps51
      go_wp2_with fail
      go_region
      go_wp2
      refine start_ (n := 10) (S := fun w' => w'.cell? ⟨w.heap.size, 0, none⟩ = some (.int .i64 x0) ∧ w'.cell? ⟨w.heap.size, 1, none⟩ = some (.string x1) ∧ w'.cell? ⟨w.heap.size, 2, none⟩ = some (.int .i64 x2) ∧ w'.cell? ⟨w.heap.size, 3, none⟩ = some (.slice (some ad) l.length c) ∧ w'.cell? ⟨w.heap.size + 1, 4, none⟩ = some (.slice (some ad4) o4.length cN) ∧ w'.cell? ⟨w.heap.size + 1, 5, none⟩ = some (.int .i64 s) ∧ w'.cell? ad4 = some (.int .i64 (nth o4 0).f0) ∧ w'.cell? ⟨ad4.block, ad4.off + 1, none⟩ = some (.string (nth o4 0).f1) ∧ w'.cell? ⟨ad4.block, ad4.off + 2, none⟩ = some (.int .i64 (nth o4 0).f2) ∧ w'.cell? ⟨ad4.block, ad4.off + 3, none⟩ = some (.slice A5 (nth o4 0).f3.length c5) ∧ w'.cell? ⟨(ad.add (s * 4)).block, (ad.add (s * 4)).off + 3, none⟩ = some (.slice A3 (nth l s).f3.length c3)) (ds := []) #[false, false, false, false, false, false, false, false, false, false] (by kernel_rfl) rfl rfl ⟨blk_cell (alloc2_fst _ _ _) 0, blk_cell (alloc2_fst _ _ _) 1, blk_cell (alloc2_fst _ _ _) 2, blk_cell (alloc2_fst _ _ _) 3, blk_cell (alloc2_snd _ _ _) 4, blk_cell (alloc2_snd _ _ _) 5, n0, n1, n2, n3, g3⟩ (fun hHeld => ?_); refine with_tabW edit_unwrapped.r3.tab edit_unwrapped.r3.bits (fun HT_ HW_ => ?_)
      refine pure_ (i := 1) (N := some 27) (v := ?_) (a' := ?_) #[false, true, false, false, false, false, false, false, false, false] rfl rfl (any_of HT_.out (by kernel_rfl)) (fun _ _ _ h => h) (Or.inl ⟨by rfl, ?_⟩) ?_ ?_
      rotate_left
      · intro w'
        go_simp
        with_reducible rfl
      rotate_left
      · simp only [Act.put, List.setIfInBounds_toArray, List.set_cons_zero, List.set_cons_succ, i64_w, i32_w]
        rfl
      refine pure_ (i := 4) (N := some 30) (v := ?_) (a' := ?_) #[false, true, false, false, true, false, false, false, false, false] rfl rfl (any_of HT_.out (by kernel_rfl)) (fun _ _ _ h => h) (Or.inl ⟨by rfl, ?_⟩) ?_ ?_
      rotate_left
      · intro w'
        go_simp
        with_reducible rfl
      rotate_left
      · simp only [Act.put, List.setIfInBounds_toArray, List.set_cons_zero, List.set_cons_succ, i64_w, i32_w]
        rfl
      refine take_ (i := 0) (N := some 26) (v := ?_) (a' := ?_) #[true, true, false, false, true, false, false, false, false, false] rfl rfl (take_ofW HT_.out HW_.out (by kernel_rfl)) (fun _ _ _ h => h) (Or.inl ⟨by rfl, ?_⟩) hHeld ?_ ?_
      rotate_left
      · rintro w' ⟨t0, t1, t2, t3, t4, t5, t6, t7, t8, t9, t10⟩
        go_simp
        with_reducible rfl
      rotate_left
      · simp only [Act.put, List.setIfInBounds_toArray, List.set_cons_zero, List.set_cons_succ, i64_w, i32_w]
        rfl
      refine take_ (i := 2) (N := some 28) (v := ?_) (a' := ?_) #[true, true, true, false, true, false, false, false, false, false] rfl rfl (take_ofW HT_.out HW_.out (by kernel_rfl)) (fun _ _ _ h => h) (Or.inl ⟨by rfl, ?_⟩) hHeld ?_ ?_
      rotate_left
      · rintro w' ⟨t0, t1, t2, t3, t4, t5, t6, t7, t8, t9, t10⟩
        go_simp
        with_reducible rfl
      rotate_left
      · simp only [Act.put, List.setIfInBounds_toArray, List.set_cons_zero, List.set_cons_succ, i64_w, i32_w]
        rfl
      refine take_ (i := 5) (N := some 31) (v := ?_) (a' := ?_) #[true, true, true, false, true, true, false, false, false, false] rfl rfl (take_ofW HT_.out HW_.out (by kernel_rfl)) (fun _ _ _ h => h) (Or.inl ⟨by rfl, ?_⟩) hHeld ?_ ?_
      rotate_left
      · rintro w' ⟨t0, t1, t2, t3, t4, t5, t6, t7, t8, t9, t10⟩
        go_simp
        with_reducible rfl
      rotate_left
      · simp only [Act.put, List.setIfInBounds_toArray, List.set_cons_zero, List.set_cons_succ, i64_w, i32_w]
        rfl
      refine pure_ (i := 6) (N := some 32) (v := ?_) (a' := ?_) #[true, true, true, false, true, true, true, false, false, false] rfl rfl (any_of HT_.out (by kernel_rfl)) (fun _ _ _ h => h) (Or.inl ⟨by rfl, ?_⟩) ?_ ?_
      rotate_left
      · intro w'
        go_simp
        with_reducible rfl
      rotate_left
      · simp only [Act.put, List.setIfInBounds_toArray, List.set_cons_zero, List.set_cons_succ, i64_w, i32_w]
        rfl
      refine take_ (i := 7) (N := some 33) (v := ?_) (a' := ?_) #[true, true, true, false, true, true, true, true, false, false] rfl rfl (take_ofW HT_.out HW_.out (by kernel_rfl)) (fun _ _ _ h => h) (Or.inl ⟨by rfl, ?_⟩) hHeld ?_ ?_
      rotate_left
      · rintro w' ⟨t0, t1, t2, t3, t4, t5, t6, t7, t8, t9, t10⟩
        go_simp
        with_reducible rfl
      rotate_left
      · simp only [Act.put, List.setIfInBounds_toArray, List.set_cons_zero, List.set_cons_succ, i64_w, i32_w]
        rfl
      refine one_ (i := 3) (N := some 29) #[true, true, true, true, true, true, true, true, false, false] rfl rfl (one_of HT_.out (by kernel_rfl)) (by decide) (fun K hK => ?_)
      refine goes_ Tryd.func50 (by kernel_rfl) rfl #[.agg #[.int .i64 x0, .string x1, .int .i64 x2, .slice (some ad) l.length c], .int .i64 s, .slice none 0 0] (by rfl) rfl rfl (by (try simp only [List.map_toArray, List.map_cons, List.map_nil]); first | done | rfl | (simp only [List.length_drop, List.length_take]; rfl)) ?_
      refine (filled_any ⟨x0, x1, x2, l⟩ s [] (some ad) none c 0 (fun _ => False) _ hx hs hc (Nat.le_refl 0) (Kd.F_now (ok := fun k => P k ∧ k < w.heap.size) ?hF) (Kd.F_nil _ _ _)).mono ?_
      (case hF => exact HFl.out _ _)
      rintro e w3 ⟨A6, c6, rfl, hl6, hF6, hb⟩
      have HB3 : Aside0 (Below w.heap.size w w3) := ⟨below_then (Below.drew (Below.drew (HB0 _ _).out)) (Below.drew (Below.drew (HB0 _ _).out)).size hb⟩
      have HN3 : Aside0 (Kd.C k24 w3 A5 (nth o4 0).f3.length (nth o4 0).f3) := ⟨Kd.C_below (Kd.C_below (Kd.F_now HF5.out) (Below.drew (Below.drew (Below.refl _ _)))) hb⟩
      have HF6 := Aside0.mk hF6
      obtain ⟨t0, t1, t2, t3, t4, t5, t6, t7, t8, t9, t10⟩ := hHeld
      refine ⟨_, rfl, ?_⟩
      refine hK.out _ _ ⟨hold_ hb t0, hold_ hb t1, hold_ hb t2, hold_ hb t3, hold_ hb t4, hold_ hb t5, hold_ hb t6, hold_ hb t7, hold_ hb t8, hold_ hb t9, hold_ hb t10⟩ (fun hHeld => ?_)
      clear hK K
      refine norm_ (a' := ?_) ?_ ?_
      rotate_left
      · show Act.put _ (some 29) _ = _
        simp only [Act.put, List.setIfInBounds_toArray, List.set_cons_zero, List.set_cons_succ, i64_w, i32_w]
        rfl
      refine one_ (i := 8) (N := some 34) #[true, true, true, true, true, true, true, true, true, false] rfl rfl (one_of HT_.out (by kernel_rfl)) (by decide) (fun K hK => ?_)
      refine goes_ Tryd.func49 (by kernel_rfl) rfl #[.agg #[.int .i64 x0, .string x1, .int .i64 x2, .slice A6 l.length c6], .agg #[.int .i64 (nth o4 0).f0, .string (nth o4 0).f1, .int .i64 (nth o4 0).f2, .slice A5 (nth o4 0).f3.length c5]] (by rfl) rfl rfl (by (try simp only [List.map_toArray, List.map_cons, List.map_nil]); first | done | rfl | (simp only [List.length_drop, List.length_take]; rfl)) ?_
      have hfl : (filledL l s []).length = l.length := List.length_set
      refine (show Calls Tryd.prog 49 _ _ _ from hfl ▸ equal_any _ ⟨x0, x1, x2, filledL l s []⟩ (nth o4 0) A6 A5 c6 c5 w3 (Nat.le_refl _) (by rw [hfl]; exact hl6) HC5 (Kd.F_now HF6.out) HN3.out).mono ?_
      clear hb
      rintro e w4 ⟨rfl, hb⟩
      have HB4 : Aside0 (Below w.heap.size w w4) := ⟨below_then HB3.out HB3.out.size hb⟩
      obtain ⟨t0, t1, t2, t3, t4, t5, t6, t7, t8, t9, t10⟩ := hHeld
      refine ⟨_, rfl, ?_⟩
      refine hK.out _ _ ⟨hold_ hb t0, hold_ hb t1, hold_ hb t2, hold_ hb t3, hold_ hb t4, hold_ hb t5, hold_ hb t6, hold_ hb t7, hold_ hb t8, hold_ hb t9, hold_ hb t10⟩ (fun hHeld => ?_)
      clear hK K
      refine norm_ (a' := ?_) ?_ ?_
      rotate_left
      · show Act.put _ (some 34) _ = _
        simp only [Act.put, List.setIfInBounds_toArray, List.set_cons_zero, List.set_cons_succ, i64_w, i32_w]
        rfl
      refine pure_ (i := 9) (N := some 6) (v := ?_) (a' := ?_) #[true, true, true, true, true, true, true, true, true, true] rfl rfl (any_of HT_.out (by kernel_rfl)) (fun _ _ _ h => h) (Or.inl ⟨by rfl, ?_⟩) ?_ ?_
      rotate_left
      · intro w'
        go_simp
        with_reducible rfl
      rotate_left
      · simp only [Act.put, List.setIfInBounds_toArray, List.set_cons_zero, List.set_cons_succ, i64_w, i32_w]
        rfl
      refine done_ (done_of HT_.out (by kernel_rfl)) ?_
      obtain ⟨t0, t1, t2, t3, t4, t5, t6, t7, t8, t9, t10⟩ := hHeld
      go_wp2
      refine bodyPost_ret (results_tmp2 rfl _ _ _) rfl ?_
      exact ⟨A3, c3, by rw [HR.out]; rfl, by rw [HR.out]; exact HC3, by rw [HR.out]; exact Kd.F_mono (Kd.F_step HF3.out (fun k hk _ => (HB4.out.block k hk.2).trans ((HB0 _ _).out.block k hk.2).symm)) (fun k hk => hk.1), HB4.out⟩
    · have HR : Aside0 (unwrappedG ⟨x0, x1, x2, l⟩ ⟨o0, o1, o2, o3, o4, s, o6, o7⟩ = ([], false)) := ⟨by unfold unwrappedG; simp only [Int.toNat_natCast]; rw [if_pos (by right; exact h2)]⟩
      go_enter Tryd.func51, Tryd.ntmps51
      go_wp2_with fail
      go_region
      go_wp2
      refine bodyPost_ret (results_tmp2 rfl _ _ _) rfl ?_
      exact ⟨none, 0, by rw [HR.out]; rfl, by rw [HR.out]; exact Nat.le_refl _, by rw [HR.out]; exact Kd.F_nil _ _ _, Below.drew (HB0 _ _).out⟩
end Go.Proofs.YtgcpfelccfnnbaaDoor.X
namespace Go.Proofs.YtgcpfelccfnnbaaDoor.X
open Go.RowKit Go.Proofs.YtgcpfelccfnnbaaDoorW.PrintWords Go.Proofs.YtgcpfelccfnnbaaDoorW.PrintLast Go.Proofs.YtgcpfelccfnnbaaDoorW.PrintMore
attribute [local go_sem] max2_int min2_int max_two min_two max_three min_three max_four min_four   -- for this text's walks alone
set_option linter.unusedVariables false
set_option linter.unusedSimpArgs false
def slices_Index_int_int.l0 : Nat → List Int → Int → Int → Int → Option (Int)
  | 0, _, _, _, _ => none
  | k + 1, x0, x1, x7, x8 => if x8 < x7 then (if 0 ≤ x8 then (if x8 < (x0.length : Int) then (if x1 = (rd x0 x8) then (some x8) else (slices_Index_int_int.l0 k x0 x1 x7 (wrap64 (x8 + 1)))) else (none)) else (none)) else (some (-1))
def slices_Index_int_int.f (k : Nat) (l0 : List Int) (a1 : Int) : Option (Int) := slices_Index_int_int.l0 k l0 a1 (l0.length : Int) 0
theorem slices_Index_int_int.mono_l : ∀ k, (∀ y0 y1 y2 y3, LeO (slices_Index_int_int.l0 k y0 y1 y2 y3) (slices_Index_int_int.l0 (k + 1) y0 y1 y2 y3))
  | 0 => fun _ _ _ _ r h => by simp [slices_Index_int_int.l0] at h
  | k + 1 => by
    have ih0 := slices_Index_int_int.mono_l k
    · intro y0 y1 y2 y3
      unfold slices_Index_int_int.l0
      repeat' first
      | (with_reducible exact ih0 _ _ _ _)
      | (with_reducible exact LeO.refl _)
      | (with_reducible exact LeO.none _)
      | (with_reducible refine LeO.ite ?_ ?_)
      | (with_reducible refine LeO.bind ?_ (fun _ => ?_))
      | exact ih0 _ _ _ _
      | exact LeO.none _
      | refine LeO.ite ?_ ?_
      | refine LeO.bind ?_ (fun _ => ?_)
theorem slices_Index_int_int.mono : ∀ a0 a1 k, LeO (slices_Index_int_int.f k a0 a1) (slices_Index_int_int.f (k + 1) a0 a1) := by
  intro a0 a1 k
  have ih0 := slices_Index_int_int.mono_l k
  unfold slices_Index_int_int.f
  repeat' first
      | (with_reducible exact ih0 _ _ _ _)
      | (with_reducible exact LeO.refl _)
      | (with_reducible exact LeO.none _)
      | (with_reducible refine LeO.ite ?_ ?_)
      | (with_reducible refine LeO.bind ?_ (fun _ => ?_))
      | exact ih0 _ _ _ _
      | exact LeO.none _
      | refine LeO.ite ?_ ?_
      | refine LeO.bind ?_ (fun _ => ?_)
set_option maxHeartbeats 8000000 in
set_option maxRecDepth 100000 in
theorem slices_Index_int_int.calls (k : Nat) (A0 : Option Addr) (c0 : Nat) (l0 : List Int) (a1 : Int) (r : Int) (w : World) (hr0 : Kd.C (Kd.int .i64) w A0 l0.length l0) (hc0 : l0.length ≤ c0) (h : slices_Index_int_int.f k l0 a1 = some r) :
    Calls Tryd.prog 78 #[.slice A0 l0.length c0, .int .i64 a1] w fun e w' => e = .returned (.int .i64 r) ∧ Drawn0 w w' := by
  have HR0 := Aside0.mk hr0
  have HC0 := Aside0.mk hc0
  clear hr0 hc0
  have H : (slices_Index_int_int.l0 k l0 a1 (l0.length : Int) 0) = some r := h
  clear h
  have H' := Aside0.mk H
  clear H
  go_enter Tryd.func78, Tryd.ntmps78
  go_wp2
  go_loopg [8] k (fun kq v8 w' => ∃ (x8_1 : Int), v8 = .int .i64 x8_1 ∧ Aside0 (slices_Index_int_int.l0 kq l0 a1 (l0.length : Int) x8_1 = some r) ∧ Aside0 (kq ≤ k) ∧ Drawn0 w w')
  case atStart => exact ⟨(0), (by first | rfl | (simp; done) | (simp [*]; done)), H', ⟨Nat.le_refl _⟩, by repeat (first | exact Drawn0.refl _ | apply Drawn0.step)⟩
  case round =>
    clear H'
    try clear p2
    obtain ⟨x8_1, rfl, HA, HK1, ⟨m1, rfl⟩⟩ := hrel
    cases gk with
    | zero => exact absurd HA.out (by simp [slices_Index_int_int.l0])
    | succ k1 =>
      have H := HA.out
      clear HA
      simp only [slices_Index_int_int.l0] at H
      by_cases c3 : x8_1 < (l0.length : Int)
      · rw [if_pos c3] at H
        have c3b0 : decide (x8_1 < (l0.length : Int)) = true := decide_eq_true c3
        clear c3
        by_cases c4 : 0 ≤ x8_1
        · rw [if_pos c4] at H
          have c4b0 : decide (0 ≤ x8_1) = true := decide_eq_true c4
          clear c4
          by_cases c5 : x8_1 < (l0.length : Int)
          · rw [if_pos c5] at H
            have c5b0 : decide (x8_1 < (l0.length : Int)) = true := decide_eq_true c5
            clear c5
            by_cases c6 : a1 = (rd l0 x8_1)
            · rw [if_pos c6] at H
              have c6b0 : (a1 == (rd l0 x8_1)) = true := beq_iff_eq.mpr c6
              have c6b1 : (a1 != (rd l0 x8_1)) = false := bne_eq_false_iff_eq.mpr c6
              clear c6
              obtain rfl := Option.some.inj H
              have p159 : 0 ≤ (x8_1 : Int) := of_decide_eq_true (by first | (with_reducible assumption) | assumption)
              have q159 : x8_1 < (l0.length : Int) := of_decide_eq_true (by first | (with_reducible assumption) | assumption)
              obtain ⟨ad159, e159, hx159_0⟩ := Kd.at_int HR0.out x8_1 p159 q159
              cases e159
              replace p159 := eq_true p159
              replace q159 := eq_true q159
              go_wp2
              go_ret
              exact ⟨by first | rfl | (simp; done) | (simp [*]; done), by repeat (first | exact Drawn0.refl _ | apply Drawn0.step)⟩
            · rw [if_neg c6] at H
              have c6b0 : (a1 == (rd l0 x8_1)) = false := beq_eq_false_iff_ne.mpr c6
              have c6b1 : (a1 != (rd l0 x8_1)) = true := bne_iff_ne.mpr c6
              have H' := Aside0.mk H
              clear H
              have p159 : 0 ≤ (x8_1 : Int) := of_decide_eq_true (by first | (with_reducible assumption) | assumption)
              have q159 : x8_1 < (l0.length : Int) := of_decide_eq_true (by first | (with_reducible assumption) | assumption)
              obtain ⟨ad159, e159, hx159_0⟩ := Kd.at_int HR0.out x8_1 p159 q159
              cases e159
              replace p159 := eq_true p159
              replace q159 := eq_true q159
              go_wp2
              go_roundg k1
              case measure => have := HK1.out; omega
              case rel => exact ⟨(wrap64 (x8_1 + 1)), (by first | rfl | (simp; done) | (simp [*]; done)), H', ⟨by have := HK1.out; omega⟩, by repeat (first | exact Drawn0.refl _ | apply Drawn0.step)⟩
          · rw [if_neg c5] at H
            exact absurd H (by simp)
        · rw [if_neg c4] at H
          exact absurd H (by simp)
      · rw [if_neg c3] at H
        have c3b0 : decide (x8_1 < (l0.length : Int)) = false := decide_eq_false c3
        clear c3
        obtain rfl := Option.some.inj H
        go_wp2
        go_ret
        exact ⟨by first | rfl | (simp; done) | (simp [*]; done), by repeat (first | exact Drawn0.refl _ | apply Drawn0.step)⟩
end Go.Proofs.YtgcpfelccfnnbaaDoor.X
namespace Go.Proofs.YtgcpfelccfnnbaaDoor.X
open Go.RowKit Go.Proofs.YtgcpfelccfnnbaaDoorW.PrintWords Go.Proofs.YtgcpfelccfnnbaaDoorW.PrintLast Go.Proofs.YtgcpfelccfnnbaaDoorW.PrintMore
attribute [local go_sem] max2_int min2_int max_two min_two max_three min_three max_four min_four   -- for this text's walks alone
set_option linter.unusedVariables false
set_option linter.unusedSimpArgs false
def slices_Contains_int_int.f (k : Nat) (l0 : List Int) (a1 : Int) : Option (Bool) := (slices_Index_int_int.f k l0 a1).bind fun t160 => (some (decide (t160 ≥ 0)))
theorem slices_Contains_int_int.mono : ∀ a0 a1 k, LeO (slices_Contains_int_int.f k a0 a1) (slices_Contains_int_int.f (k + 1) a0 a1) := by
  intro a0 a1 k
  unfold slices_Contains_int_int.f
  repeat' first
      | (with_reducible exact slices_Index_int_int.mono _ _ _)
      | (with_reducible exact LeO.refl _)
      | (with_reducible exact LeO.none _)
      | (with_reducible refine LeO.ite ?_ ?_)
      | (with_reducible refine LeO.bind ?_ (fun _ => ?_))
      | exact slices_Index_int_int.mono _ _ _
      | exact LeO.none _
      | refine LeO.ite ?_ ?_
      | refine LeO.bind ?_ (fun _ => ?_)
set_option maxHeartbeats 8000000 in
set_option maxRecDepth 100000 in
theorem slices_Contains_int_int.calls (k : Nat) (A0 : Option Addr) (c0 : Nat) (l0 : List Int) (a1 : Int) (r : Bool) (w : World) (hr0 : Kd.C (Kd.int .i64) w A0 l0.length l0) (hc0 : l0.length ≤ c0) (h : slices_Contains_int_int.f k l0 a1 = some r) :
    Calls Tryd.prog 66 #[.slice A0 l0.length c0, .int .i64 a1] w fun e w' => e = .returned (.bool r) ∧ Drawn0 w w' := by
  have HR0 := Aside0.mk hr0
  have HC0 := Aside0.mk hc0
  clear hr0 hc0
  have H : ((slices_Index_int_int.f k l0 a1).bind fun t160 => (some (decide (t160 ≥ 0)))) = some r := h
  clear h
  replace H := Option.bind_eq_some_iff.mp H
  obtain ⟨t160, A30, H⟩ := H
  replace H : (some (decide (t160 ≥ 0))) = some r := H
  have A3 := Aside0.mk A30
  clear A30
  obtain rfl := Option.some.inj H
  go_enter Tryd.func66, Tryd.ntmps66
  go_wp2_with (first | ((with_reducible refine gate_callee (f := 78) rfl ?_); refine goesL_ (some 7) rfl rfl Tryd.func78 (by kernel_rfl) rfl #[.slice A0 l0.length c0, .int .i64 a1] rfl (by (try simp only [List.map_toArray, List.map_cons, List.map_nil]); first | done | rfl | (simp only [List.length_drop, List.length_take]; rfl)) ?_; (with_reducible refine (slices_Index_int_int.calls k _ _ l0 a1 t160 _ ?side1 ?side2 A3.out).mono ?_); (case side1 => repeat (first | exact HR0.out | (with_reducible refine Kd.C_alloc ?_ _) | (with_reducible refine Kd.C_drewN ?_ _) | (with_reducible refine Kd.C_drew ?_))); (case side2 => exact HC0.out); rintro e w' ⟨rfl, ⟨nd, rfl⟩⟩; refine ⟨_, rfl, ?_⟩))
  go_ret
  exact ⟨by first | rfl | (simp; done) | (simp [*]; done), by repeat (first | exact Drawn0.refl _ | apply Drawn0.step)⟩
end Go.Proofs.YtgcpfelccfnnbaaDoor.X
