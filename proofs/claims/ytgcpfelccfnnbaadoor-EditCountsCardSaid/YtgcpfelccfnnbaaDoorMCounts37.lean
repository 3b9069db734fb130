/-
Part 37 of the texts of this proof: the walks through the program's functions.
-/
import Derived.StillTailTactics
import Derived.Test.YtgcpfelccfnnbaaDoorMCounts2
import Derived.Test.YtgcpfelccfnnbaaDoorMCounts18
import Derived.Test.YtgcpfelccfnnbaaDoorMCounts36
namespace Go.Proofs.YtgcpfelccfnnbaaDoor.X
open Go.RowKit Go.Proofs.YtgcpfelccfnnbaaDoorW.PrintWords Go.Proofs.YtgcpfelccfnnbaaDoorW.PrintLast Go.Proofs.YtgcpfelccfnnbaaDoorW.PrintMore
attribute [local go_sem] max2_int min2_int max_two min_two max_three min_three max_four min_four   -- for this text's walks alone
set_option linter.unusedVariables false
set_option linter.unusedSimpArgs false
def apply9.T : Bool × List (List Nat × List Nat) := (true, [([], []), ([0], [0]), ([1], [1]), ([2], [2]), ([3], [3]), ([4, 3], [3, 4]), ([3], [3]), ([5, 6, 3], [3, 5, 6]), ([3, 7], [3, 7]), ([8, 3], [8]), ([9], [9]), ([10, 9, 9], [9, 10]), ([9], [9]), ([9], [9]), ([13, 9], [9, 13]), ([12, 14, 9], [9, 12, 14]), ([11, 15, 9], [9, 11, 15]), ([9, 16], [9, 16])])
def apply9.B : List Nat := [0, 1, 3, 7, 15, 31, 15, 127, 255, 511, 1023, 2047, 1023, 1023, 9215, 29695, 65535, 131071]
theorem apply9.tab : rtab .any (opsOf Tryd.f11 9) = apply9.T := by kernel_rfl
theorem apply9.bits : waitsOk apply9.T.2 apply9.B = true := by kernel_rfl
set_option maxRecDepth 100000 in
set_option maxHeartbeats 4000000 in
theorem apply_e4a (r : S24) (x : S24) (o : S27) (A AR AN : Option Addr) (c cR cN : Nat) (w : World) (HA : Aside0 (Kd.C k24 w A x.f3.length x.f3)) (HR : Aside0 (Kd.C (Kd.int .i64) w AR o.f1.length o.f1)) (HN : Aside0 (Kd.C k24 w AN o.f4.length o.f4)) (HV : Aside0 (∀ W : World, Kd.C k24 W A x.f3.length x.f3 → Calls Tryd.prog 27 #[.agg #[.int .i64 x.f0, .string x.f1, .int .i64 x.f2, .slice A x.f3.length c]] W fun e w' => e = .returned (.bool true) ∧ Below W.heap.size W w')) (HF : Aside0 (∀ W : World, Kd.C (Kd.int .i64) W AR o.f1.length o.f1 → Kd.C k24 W AN o.f4.length o.f4 → Calls Tryd.prog 28 #[.agg #[.int .i64 o.f0, .slice AR o.f1.length cR, .int .i64 o.f2, .int .i64 o.f3, .slice AN o.f4.length cN, .int .i64 o.f5, .string o.f6, .string o.f7]] W fun e w' => e = .returned (.bool true) ∧ Below W.heap.size W w')) (HROW : Aside0 (∀ W : World, Kd.C k24 W A x.f3.length x.f3 → Kd.C (Kd.int .i64) W AR o.f1.length o.f1 → Calls Tryd.prog 29 #[.agg #[.int .i64 x.f0, .string x.f1, .int .i64 x.f2, .slice A x.f3.length c], .slice AR o.f1.length cR] W fun e w' => ∃ v : Value, e = .returned (.tuple #[.agg #[.int .i64 r.f0, .string r.f1, .int .i64 r.f2, v], .int .i64 0]) ∧ Kd.R k24 24 w' W.heap.size (fun _ => True) v r.f3 ∧ Below W.heap.size W w')) (h39 : decide (o.f2 < 0) = true) :
    Calls Tryd.prog 11 #[.agg #[.int .i64 x.f0, .string x.f1, .int .i64 x.f2, .slice A x.f3.length c], .agg #[.int .i64 o.f0, .slice AR o.f1.length cR, .int .i64 o.f2, .int .i64 o.f3, .slice AN o.f4.length cN, .int .i64 o.f5, .string o.f6, .string o.f7]] w (ErrPost w 2) := by
  go_enter Tryd.func11, Tryd.ntmps11
  go_wp2_with (first | (go_at_call 27; go_loud (refine (HV.out _ (Kd.C_below HA.out (Boxes.new w _ _ _).below)).mono ?_; rintro e w1 ⟨rfl, hB1⟩; have HB1 := (Boxes.new w _ _ _).on hB1; clear hB1; have o0 := (blk_cell HB1.snd 0 : w1.cell? ⟨w.heap.size + 1, 0, none⟩ = _); have o1 := (blk_cell HB1.snd 1 : w1.cell? ⟨w.heap.size + 1, 1, none⟩ = _); have o2 := (blk_cell HB1.snd 2 : w1.cell? ⟨w.heap.size + 1, 2, none⟩ = _); have o3 := (blk_cell HB1.snd 3 : w1.cell? ⟨w.heap.size + 1, 3, none⟩ = _); have o4 := (blk_cell HB1.snd 4 : w1.cell? ⟨w.heap.size + 1, 4, none⟩ = _); have o5 := (blk_cell HB1.snd 5 : w1.cell? ⟨w.heap.size + 1, 5, none⟩ = _); have o6 := (blk_cell HB1.snd 6 : w1.cell? ⟨w.heap.size + 1, 6, none⟩ = _); have o7 := (blk_cell HB1.snd 7 : w1.cell? ⟨w.heap.size + 1, 7, none⟩ = _))) | (go_at_call 28; go_loud (refine (HF.out _ (Kd.C_below HR.out HB1.below) (Kd.C_below HN.out HB1.below)).mono ?_; rintro e w2 ⟨rfl, hB2⟩; have HB2 := HB1.on hB2; clear hB2 HB1; clear o0 o1 o2 o3 o4 o5 o6 o7; have x0 := (blk_cell HB2.fst 0 : w2.cell? ⟨w.heap.size, 0, none⟩ = _); have x1 := (blk_cell HB2.fst 1 : w2.cell? ⟨w.heap.size, 1, none⟩ = _); have x2 := (blk_cell HB2.fst 2 : w2.cell? ⟨w.heap.size, 2, none⟩ = _); have x3 := (blk_cell HB2.fst 3 : w2.cell? ⟨w.heap.size, 3, none⟩ = _); have o0 := (blk_cell HB2.snd 0 : w2.cell? ⟨w.heap.size + 1, 0, none⟩ = _); have o1 := (blk_cell HB2.snd 1 : w2.cell? ⟨w.heap.size + 1, 1, none⟩ = _); have o2 := (blk_cell HB2.snd 2 : w2.cell? ⟨w.heap.size + 1, 2, none⟩ = _); have o3 := (blk_cell HB2.snd 3 : w2.cell? ⟨w.heap.size + 1, 3, none⟩ = _); have o4 := (blk_cell HB2.snd 4 : w2.cell? ⟨w.heap.size + 1, 4, none⟩ = _); have o5 := (blk_cell HB2.snd 5 : w2.cell? ⟨w.heap.size + 1, 5, none⟩ = _); have o6 := (blk_cell HB2.snd 6 : w2.cell? ⟨w.heap.size + 1, 6, none⟩ = _); have o7 := (blk_cell HB2.snd 7 : w2.cell? ⟨w.heap.size + 1, 7, none⟩ = _))) | (go_at_call 29; go_loud (refine (HROW.out _ (Kd.C_below HA.out HB2.below) (Kd.C_below HR.out HB2.below)).mono ?_; rintro e w3 ⟨v, rfl, hRR, hB3⟩; obtain ⟨A1, c1, rfl⟩ := Kd.R_slice hRR; have HB3 := HB2.on hB3; clear hB3 HB2; clear x0 x1 x2 x3 o0 o1 o2 o3 o4 o5 o6 o7; have HRR := Aside0.mk hRR; clear hRR; skip)))
  have HB4 := HB3.alloc (.cells #[.int .i64 r.f0, .string r.f1, .int .i64 r.f2, .slice A1 r.f3.length c1] 24)
  have HRB4 := heap_alloc_new w3 (.cells #[.int .i64 r.f0, .string r.f1, .int .i64 r.f2, .slice A1 r.f3.length c1] 24)
  clear HB3
  clear HRB4
  refine start_ (n := 18) (S := fun w' => w'.cell? ⟨w.heap.size + 1, 0, none⟩ = some (.int .i64 o.f0) ∧ w'.cell? ⟨w.heap.size + 1, 1, none⟩ = some (.slice AR o.f1.length cR) ∧ w'.cell? ⟨w.heap.size + 1, 2, none⟩ = some (.int .i64 o.f2) ∧ w'.cell? ⟨w.heap.size + 1, 3, none⟩ = some (.int .i64 o.f3) ∧ w'.cell? ⟨w.heap.size + 1, 4, none⟩ = some (.slice AN o.f4.length cN) ∧ w'.cell? ⟨w.heap.size + 1, 5, none⟩ = some (.int .i64 o.f5) ∧ w'.cell? ⟨w.heap.size + 1, 6, none⟩ = some (.string o.f6) ∧ w'.cell? ⟨w.heap.size + 1, 7, none⟩ = some (.string o.f7)) (ds := []) #[false, false, false, false, false, false, false, false, false, false, false, false, false, false, false, false, false, false] (by kernel_rfl) rfl rfl ⟨blk_cell HB4.drew.snd 0, blk_cell HB4.drew.snd 1, blk_cell HB4.drew.snd 2, blk_cell HB4.drew.snd 3, blk_cell HB4.drew.snd 4, blk_cell HB4.drew.snd 5, blk_cell HB4.drew.snd 6, blk_cell HB4.drew.snd 7⟩ (fun hHeld => ?_); refine with_tabW apply9.tab apply9.bits (fun HT_ HW_ => ?_)
  have HB5 := HB4.drew
  clear HB4
  generalize (w3.alloc (.cells #[.int .i64 r.f0, .string r.f1, .int .i64 r.f2, .slice A1 r.f3.length c1] 24)).drew = W5 at HB5 hHeld ⊢
  refine pure_ (i := 0) (N := some 37) (v := ?_) (a' := ?_) #[true, false, false, false, false, false, false, false, false, false, false, false, false, false, false, false, false, false] rfl rfl (any_of HT_.out (by kernel_rfl)) (fun _ _ _ h => h) (Or.inl ⟨by rfl, ?_⟩) ?_ ?_
  rotate_left
  · intro w'
    go_simp
    with_reducible rfl
  rotate_left
  · simp only [Act.put, List.setIfInBounds_toArray, List.set_cons_zero, List.set_cons_succ, i64_w, i32_w]
    rfl
  refine take_ (i := 1) (N := some 38) (v := ?_) (a' := ?_) #[true, true, false, false, false, false, false, false, false, false, false, false, false, false, false, false, false, false] rfl rfl (take_ofW HT_.out HW_.out (by kernel_rfl)) (fun _ _ _ h => h) (Or.inl ⟨by rfl, ?_⟩) hHeld ?_ ?_
  rotate_left
  · rintro w' ⟨s0, s1, s2, s3, s4, s5, s6, s7⟩
    go_simp
    with_reducible rfl
  rotate_left
  · simp only [Act.put, List.setIfInBounds_toArray, List.set_cons_zero, List.set_cons_succ, i64_w, i32_w]
    rfl
  refine pure_ (i := 2) (N := some 39) (v := ?_) (a' := ?_) #[true, true, true, false, false, false, false, false, false, false, false, false, false, false, false, false, false, false] rfl rfl (any_of HT_.out (by kernel_rfl)) (fun _ _ _ h => h) (Or.inl ⟨by rfl, ?_⟩) ?_ ?_
  rotate_left
  · intro w'
    go_simp
    with_reducible rfl
  rotate_left
  · simp only [Act.put, List.setIfInBounds_toArray, List.set_cons_zero, List.set_cons_succ, i64_w, i32_w]
    rfl
  refine pure_ (i := 3) (N := some 40) (v := ?_) (a' := ?_) #[true, true, true, true, false, false, false, false, false, false, false, false, false, false, false, false, false, false] rfl rfl (any_of HT_.out (by kernel_rfl)) (fun _ _ _ h => h) (Or.inl ⟨by rfl, ?_⟩) ?_ ?_
  rotate_left
  · intro w'
    go_simp
    with_reducible rfl
  rotate_left
  · simp only [Act.put, List.setIfInBounds_toArray, List.set_cons_zero, List.set_cons_succ, i64_w, i32_w]
    rfl
  refine pure_ (i := 4) (N := some 41) (v := undef) (a' := ?_) #[true, true, true, true, true, false, false, false, false, false, false, false, false, false, false, false, false, false] rfl rfl (any_of HT_.out (by kernel_rfl)) (fun _ _ _ h => h) (Or.inr ⟨by rfl, rfl⟩) ?_ ?_
  rotate_left
  · simp only [Act.put, List.setIfInBounds_toArray, List.set_cons_zero, List.set_cons_succ, i64_w, i32_w]
    rfl
  refine pure_ (i := 5) (N := some 42) (v := undef) (a' := ?_) #[true, true, true, true, true, true, false, false, false, false, false, false, false, false, false, false, false, false] rfl rfl (any_of HT_.out (by kernel_rfl)) (fun _ _ _ h => h) (Or.inr ⟨by rfl, rfl⟩) ?_ ?_
  rotate_left
  · simp only [Act.put, List.setIfInBounds_toArray, List.set_cons_zero, List.set_cons_succ, i64_w, i32_w]
    rfl
  refine pure_ (i := 6) (N := some 43) (v := undef) (a' := ?_) #[true, true, true, true, true, true, true, false, false, false, false, false, false, false, false, false, false, false] rfl rfl (any_of HT_.out (by kernel_rfl)) (fun _ _ _ h => h) (Or.inr ⟨by rfl, rfl⟩) ?_ ?_
  rotate_left
  · simp only [Act.put, List.setIfInBounds_toArray, List.set_cons_zero, List.set_cons_succ, i64_w, i32_w]
    rfl
  refine pure_ (i := 7) (N := some 44) (v := undef) (a' := ?_) #[true, true, true, true, true, true, true, true, false, false, false, false, false, false, false, false, false, false] rfl rfl (any_of HT_.out (by kernel_rfl)) (fun _ _ _ h => h) (Or.inr ⟨by rfl, rfl⟩) ?_ ?_
  rotate_left
  · simp only [Act.put, List.setIfInBounds_toArray, List.set_cons_zero, List.set_cons_succ, i64_w, i32_w]
    rfl
  refine pure_ (i := 8) (N := some 45) (v := ?_) (a' := ?_) #[true, true, true, true, true, true, true, true, true, false, false, false, false, false, false, false, false, false] rfl rfl (any_of HT_.out (by kernel_rfl)) (fun _ _ _ h => h) (Or.inl ⟨by rfl, ?_⟩) ?_ ?_
  rotate_left
  · intro w'
    go_simp
    with_reducible rfl
  rotate_left
  · simp only [Act.put, List.setIfInBounds_toArray, List.set_cons_zero, List.set_cons_succ, i64_w, i32_w]
    rfl
  refine pure_ (i := 9) (N := some 46) (v := ?_) (a' := ?_) #[true, true, true, true, true, true, true, true, true, true, false, false, false, false, false, false, false, false] rfl rfl (any_of HT_.out (by kernel_rfl)) (fun _ _ _ h => h) (Or.inl ⟨by rfl, ?_⟩) ?_ ?_
  rotate_left
  · intro w'
    go_simp
    with_reducible rfl
  rotate_left
  · simp only [Act.put, List.setIfInBounds_toArray, List.set_cons_zero, List.set_cons_succ, i64_w, i32_w]
    rfl
  refine pure_ (i := 10) (N := some 47) (v := undef) (a' := ?_) #[true, true, true, true, true, true, true, true, true, true, true, false, false, false, false, false, false, false] rfl rfl (any_of HT_.out (by kernel_rfl)) (fun _ _ _ h => h) (Or.inr ⟨by rfl, rfl⟩) ?_ ?_
  rotate_left
  · simp only [Act.put, List.setIfInBounds_toArray, List.set_cons_zero, List.set_cons_succ, i64_w, i32_w]
    rfl
  refine pure_ (i := 11) (N := some 48) (v := undef) (a' := ?_) #[true, true, true, true, true, true, true, true, true, true, true, true, false, false, false, false, false, false] rfl rfl (any_of HT_.out (by kernel_rfl)) (fun _ _ _ h => h) (Or.inr ⟨by rfl, rfl⟩) ?_ ?_
  rotate_left
  · simp only [Act.put, List.setIfInBounds_toArray, List.set_cons_zero, List.set_cons_succ, i64_w, i32_w]
    rfl
  refine pure_ (i := 12) (N := some 49) (v := undef) (a' := ?_) #[true, true, true, true, true, true, true, true, true, true, true, true, true, false, false, false, false, false] rfl rfl (any_of HT_.out (by kernel_rfl)) (fun _ _ _ h => h) (Or.inr ⟨by rfl, rfl⟩) ?_ ?_
  rotate_left
  · simp only [Act.put, List.setIfInBounds_toArray, List.set_cons_zero, List.set_cons_succ, i64_w, i32_w]
    rfl
  refine pure_ (i := 13) (N := some 50) (v := undef) (a' := ?_) #[true, true, true, true, true, true, true, true, true, true, true, true, true, true, false, false, false, false] rfl rfl (any_of HT_.out (by kernel_rfl)) (fun _ _ _ h => h) (Or.inr ⟨by rfl, rfl⟩) ?_ ?_
  rotate_left
  · simp only [Act.put, List.setIfInBounds_toArray, List.set_cons_zero, List.set_cons_succ, i64_w, i32_w]
    rfl
  refine pure_ (i := 14) (N := some 51) (v := undef) (a' := ?_) #[true, true, true, true, true, true, true, true, true, true, true, true, true, true, true, false, false, false] rfl rfl (any_of HT_.out (by kernel_rfl)) (fun _ _ _ h => h) (Or.inr ⟨by rfl, rfl⟩) ?_ ?_
  rotate_left
  · simp only [Act.put, List.setIfInBounds_toArray, List.set_cons_zero, List.set_cons_succ, i64_w, i32_w]
    rfl
  refine pure_ (i := 15) (N := some 52) (v := undef) (a' := ?_) #[true, true, true, true, true, true, true, true, true, true, true, true, true, true, true, true, false, false] rfl rfl (any_of HT_.out (by kernel_rfl)) (fun _ _ _ h => h) (Or.inr ⟨by rfl, rfl⟩) ?_ ?_
  rotate_left
  · simp only [Act.put, List.setIfInBounds_toArray, List.set_cons_zero, List.set_cons_succ, i64_w, i32_w]
    rfl
  refine pure_ (i := 16) (N := some 53) (v := undef) (a' := ?_) #[true, true, true, true, true, true, true, true, true, true, true, true, true, true, true, true, true, false] rfl rfl (any_of HT_.out (by kernel_rfl)) (fun _ _ _ h => h) (Or.inr ⟨by rfl, rfl⟩) ?_ ?_
  rotate_left
  · simp only [Act.put, List.setIfInBounds_toArray, List.set_cons_zero, List.set_cons_succ, i64_w, i32_w]
    rfl
  refine pure_ (i := 17) (N := some 54) (v := ?_) (a' := ?_) #[true, true, true, true, true, true, true, true, true, true, true, true, true, true, true, true, true, true] rfl rfl (any_of HT_.out (by kernel_rfl)) (fun _ _ _ h => h) (Or.inl ⟨by rfl, ?_⟩) ?_ ?_
  rotate_left
  · intro w'
    go_simp
    with_reducible rfl
  rotate_left
  · simp only [Act.put, List.setIfInBounds_toArray, List.set_cons_zero, List.set_cons_succ, i64_w, i32_w]
    rfl
  refine done_ (done_of HT_.out (by kernel_rfl)) ?_
  have z0 := (blk_cell HB5.trd 0 : W5.cell? ⟨w.heap.size + 1 + 1, 0, none⟩ = _)
  have z1 := (blk_cell HB5.trd 1 : W5.cell? ⟨w.heap.size + 1 + 1, 1, none⟩ = _)
  have z2 := (blk_cell HB5.trd 2 : W5.cell? ⟨w.heap.size + 1 + 1, 2, none⟩ = _)
  have z3 := (blk_cell HB5.trd 3 : W5.cell? ⟨w.heap.size + 1 + 1, 3, none⟩ = _)
  have y0 := (blk_frozen HB5.trd 0 : W5.frozen? ⟨w.heap.size + 1 + 1, 0, none⟩ = false)
  have y1 := (blk_frozen HB5.trd 1 : W5.frozen? ⟨w.heap.size + 1 + 1, 1, none⟩ = false)
  have y2 := (blk_frozen HB5.trd 2 : W5.frozen? ⟨w.heap.size + 1 + 1, 2, none⟩ = false)
  have y3 := (blk_frozen HB5.trd 3 : W5.frozen? ⟨w.heap.size + 1 + 1, 3, none⟩ = false)
  try go_wp2
  refine bodyPost_ret (results_ct rfl _ _ (w.heap.size + 1 + 1) 24 #[.int .i64 0, .string ⟨#[]⟩, .int .i64 0, .slice none 0 0] (0, 0) _ rfl (blk_put4 HB5.trd) Tryd.underlying24 rfl (by kernel_rfl)) rfl ?_
  exact ⟨rfl, below_set4 HB5.below (by omega)⟩
set_option maxRecDepth 100000 in
set_option maxHeartbeats 4000000 in
theorem apply_e4b (r : S24) (x : S24) (o : S27) (A AR AN : Option Addr) (c cR cN : Nat) (w : World) (HA : Aside0 (Kd.C k24 w A x.f3.length x.f3)) (HR : Aside0 (Kd.C (Kd.int .i64) w AR o.f1.length o.f1)) (HN : Aside0 (Kd.C k24 w AN o.f4.length o.f4)) (HV : Aside0 (∀ W : World, Kd.C k24 W A x.f3.length x.f3 → Calls Tryd.prog 27 #[.agg #[.int .i64 x.f0, .string x.f1, .int .i64 x.f2, .slice A x.f3.length c]] W fun e w' => e = .returned (.bool true) ∧ Below W.heap.size W w')) (HF : Aside0 (∀ W : World, Kd.C (Kd.int .i64) W AR o.f1.length o.f1 → Kd.C k24 W AN o.f4.length o.f4 → Calls Tryd.prog 28 #[.agg #[.int .i64 o.f0, .slice AR o.f1.length cR, .int .i64 o.f2, .int .i64 o.f3, .slice AN o.f4.length cN, .int .i64 o.f5, .string o.f6, .string o.f7]] W fun e w' => e = .returned (.bool true) ∧ Below W.heap.size W w')) (HROW : Aside0 (∀ W : World, Kd.C k24 W A x.f3.length x.f3 → Kd.C (Kd.int .i64) W AR o.f1.length o.f1 → Calls Tryd.prog 29 #[.agg #[.int .i64 x.f0, .string x.f1, .int .i64 x.f2, .slice A x.f3.length c], .slice AR o.f1.length cR] W fun e w' => ∃ v : Value, e = .returned (.tuple #[.agg #[.int .i64 r.f0, .string r.f1, .int .i64 r.f2, v], .int .i64 0]) ∧ Kd.R k24 24 w' W.heap.size (fun _ => True) v r.f3 ∧ Below W.heap.size W w')) (h39 : decide (o.f2 < 0) = false) (h44 : decide ((r.f3.length : Int) < o.f2) = true) :
    Calls Tryd.prog 11 #[.agg #[.int .i64 x.f0, .string x.f1, .int .i64 x.f2, .slice A x.f3.length c], .agg #[.int .i64 o.f0, .slice AR o.f1.length cR, .int .i64 o.f2, .int .i64 o.f3, .slice AN o.f4.length cN, .int .i64 o.f5, .string o.f6, .string o.f7]] w (ErrPost w 2) := by
  go_enter Tryd.func11, Tryd.ntmps11
  go_wp2_with (first | (go_at_call 27; go_loud (refine (HV.out _ (Kd.C_below HA.out (Boxes.new w _ _ _).below)).mono ?_; rintro e w1 ⟨rfl, hB1⟩; have HB1 := (Boxes.new w _ _ _).on hB1; clear hB1; have o0 := (blk_cell HB1.snd 0 : w1.cell? ⟨w.heap.size + 1, 0, none⟩ = _); have o1 := (blk_cell HB1.snd 1 : w1.cell? ⟨w.heap.size + 1, 1, none⟩ = _); have o2 := (blk_cell HB1.snd 2 : w1.cell? ⟨w.heap.size + 1, 2, none⟩ = _); have o3 := (blk_cell HB1.snd 3 : w1.cell? ⟨w.heap.size + 1, 3, none⟩ = _); have o4 := (blk_cell HB1.snd 4 : w1.cell? ⟨w.heap.size + 1, 4, none⟩ = _); have o5 := (blk_cell HB1.snd 5 : w1.cell? ⟨w.heap.size + 1, 5, none⟩ = _); have o6 := (blk_cell HB1.snd 6 : w1.cell? ⟨w.heap.size + 1, 6, none⟩ = _); have o7 := (blk_cell HB1.snd 7 : w1.cell? ⟨w.heap.size + 1, 7, none⟩ = _))) | (go_at_call 28; go_loud (refine (HF.out _ (Kd.C_below HR.out HB1.below) (Kd.C_below HN.out HB1.below)).mono ?_; rintro e w2 ⟨rfl, hB2⟩; have HB2 := HB1.on hB2; clear hB2 HB1; clear o0 o1 o2 o3 o4 o5 o6 o7; have x0 := (blk_cell HB2.fst 0 : w2.cell? ⟨w.heap.size, 0, none⟩ = _); have x1 := (blk_cell HB2.fst 1 : w2.cell? ⟨w.heap.size, 1, none⟩ = _); have x2 := (blk_cell HB2.fst 2 : w2.cell? ⟨w.heap.size, 2, none⟩ = _); have x3 := (blk_cell HB2.fst 3 : w2.cell? ⟨w.heap.size, 3, none⟩ = _); have o0 := (blk_cell HB2.snd 0 : w2.cell? ⟨w.heap.size + 1, 0, none⟩ = _); have o1 := (blk_cell HB2.snd 1 : w2.cell? ⟨w.heap.size + 1, 1, none⟩ = _); have o2 := (blk_cell HB2.snd 2 : w2.cell? ⟨w.heap.size + 1, 2, none⟩ = _); have o3 := (blk_cell HB2.snd 3 : w2.cell? ⟨w.heap.size + 1, 3, none⟩ = _); have o4 := (blk_cell HB2.snd 4 : w2.cell? ⟨w.heap.size + 1, 4, none⟩ = _); have o5 := (blk_cell HB2.snd 5 : w2.cell? ⟨w.heap.size + 1, 5, none⟩ = _); have o6 := (blk_cell HB2.snd 6 : w2.cell? ⟨w.heap.size + 1, 6, none⟩ = _); have o7 := (blk_cell HB2.snd 7 : w2.cell? ⟨w.heap.size + 1, 7, none⟩ = _))) | (go_at_call 29; go_loud (refine (HROW.out _ (Kd.C_below HA.out HB2.below) (Kd.C_below HR.out HB2.below)).mono ?_; rintro e w3 ⟨v, rfl, hRR, hB3⟩; obtain ⟨A1, c1, rfl⟩ := Kd.R_slice hRR; have HB3 := HB2.on hB3; clear hB3 HB2; clear x0 x1 x2 x3 o0 o1 o2 o3 o4 o5 o6 o7; have HRR := Aside0.mk hRR; clear hRR; skip)))
  have HB4 := HB3.alloc (.cells #[.int .i64 r.f0, .string r.f1, .int .i64 r.f2, .slice A1 r.f3.length c1] 24)
  have HRB4 := heap_alloc_new w3 (.cells #[.int .i64 r.f0, .string r.f1, .int .i64 r.f2, .slice A1 r.f3.length c1] 24)
  clear HB3
  clear HRB4
  refine start_ (n := 18) (S := fun w' => w'.cell? ⟨w.heap.size + 1, 0, none⟩ = some (.int .i64 o.f0) ∧ w'.cell? ⟨w.heap.size + 1, 1, none⟩ = some (.slice AR o.f1.length cR) ∧ w'.cell? ⟨w.heap.size + 1, 2, none⟩ = some (.int .i64 o.f2) ∧ w'.cell? ⟨w.heap.size + 1, 3, none⟩ = some (.int .i64 o.f3) ∧ w'.cell? ⟨w.heap.size + 1, 4, none⟩ = some (.slice AN o.f4.length cN) ∧ w'.cell? ⟨w.heap.size + 1, 5, none⟩ = some (.int .i64 o.f5) ∧ w'.cell? ⟨w.heap.size + 1, 6, none⟩ = some (.string o.f6) ∧ w'.cell? ⟨w.heap.size + 1, 7, none⟩ = some (.string o.f7)) (ds := []) #[false, false, false, false, false, false, false, false, false, false, false, false, false, false, false, false, false, false] (by kernel_rfl) rfl rfl ⟨blk_cell HB4.drew.snd 0, blk_cell HB4.drew.snd 1, blk_cell HB4.drew.snd 2, blk_cell HB4.drew.snd 3, blk_cell HB4.drew.snd 4, blk_cell HB4.drew.snd 5, blk_cell HB4.drew.snd 6, blk_cell HB4.drew.snd 7⟩ (fun hHeld => ?_); refine with_tabW apply9.tab apply9.bits (fun HT_ HW_ => ?_)
  have HB5 := HB4.drew
  clear HB4
  generalize (w3.alloc (.cells #[.int .i64 r.f0, .string r.f1, .int .i64 r.f2, .slice A1 r.f3.length c1] 24)).drew = W5 at HB5 hHeld ⊢
  refine pure_ (i := 0) (N := some 37) (v := ?_) (a' := ?_) #[true, false, false, false, false, false, false, false, false, false, false, false, false, false, false, false, false, false] rfl rfl (any_of HT_.out (by kernel_rfl)) (fun _ _ _ h => h) (Or.inl ⟨by rfl, ?_⟩) ?_ ?_
  rotate_left
  · intro w'
    go_simp
    with_reducible rfl
  rotate_left
  · simp only [Act.put, List.setIfInBounds_toArray, List.set_cons_zero, List.set_cons_succ, i64_w, i32_w]
    rfl
  refine take_ (i := 1) (N := some 38) (v := ?_) (a' := ?_) #[true, true, false, false, false, false, false, false, false, false, false, false, false, false, false, false, false, false] rfl rfl (take_ofW HT_.out HW_.out (by kernel_rfl)) (fun _ _ _ h => h) (Or.inl ⟨by rfl, ?_⟩) hHeld ?_ ?_
  rotate_left
  · rintro w' ⟨s0, s1, s2, s3, s4, s5, s6, s7⟩
    go_simp
    with_reducible rfl
  rotate_left
  · simp only [Act.put, List.setIfInBounds_toArray, List.set_cons_zero, List.set_cons_succ, i64_w, i32_w]
    rfl
  refine pure_ (i := 2) (N := some 39) (v := ?_) (a' := ?_) #[true, true, true, false, false, false, false, false, false, false, false, false, false, false, false, false, false, false] rfl rfl (any_of HT_.out (by kernel_rfl)) (fun _ _ _ h => h) (Or.inl ⟨by rfl, ?_⟩) ?_ ?_
  rotate_left
  · intro w'
    go_simp
    with_reducible rfl
  rotate_left
  · simp only [Act.put, List.setIfInBounds_toArray, List.set_cons_zero, List.set_cons_succ, i64_w, i32_w]
    rfl
  refine pure_ (i := 3) (N := some 40) (v := ?_) (a' := ?_) #[true, true, true, true, false, false, false, false, false, false, false, false, false, false, false, false, false, false] rfl rfl (any_of HT_.out (by kernel_rfl)) (fun _ _ _ h => h) (Or.inl ⟨by rfl, ?_⟩) ?_ ?_
  rotate_left
  · intro w'
    go_simp
    with_reducible rfl
  rotate_left
  · simp only [Act.put, List.setIfInBounds_toArray, List.set_cons_zero, List.set_cons_succ, i64_w, i32_w]
    rfl
  refine pure_ (i := 4) (N := some 41) (v := ?_) (a' := ?_) #[true, true, true, true, true, false, false, false, false, false, false, false, false, false, false, false, false, false] rfl rfl (any_of HT_.out (by kernel_rfl)) (fun _ _ _ h => h) (Or.inl ⟨by rfl, ?_⟩) ?_ ?_
  rotate_left
  · intro w'
    go_simp
    with_reducible rfl
  rotate_left
  · simp only [Act.put, List.setIfInBounds_toArray, List.set_cons_zero, List.set_cons_succ, i64_w, i32_w]
    rfl
  refine take_ (i := 5) (N := some 42) (v := ?_) (a' := ?_) #[true, true, true, true, true, true, false, false, false, false, false, false, false, false, false, false, false, false] rfl rfl (take_ofW HT_.out HW_.out (by kernel_rfl)) (fun _ _ _ h => h) (Or.inl ⟨by rfl, ?_⟩) hHeld ?_ ?_
  rotate_left
  · rintro w' ⟨s0, s1, s2, s3, s4, s5, s6, s7⟩
    go_simp
    with_reducible rfl
  rotate_left
  · simp only [Act.put, List.setIfInBounds_toArray, List.set_cons_zero, List.set_cons_succ, i64_w, i32_w]
    rfl
  refine pure_ (i := 6) (N := some 43) (v := ?_) (a' := ?_) #[true, true, true, true, true, true, true, false, false, false, false, false, false, false, false, false, false, false] rfl rfl (any_of HT_.out (by kernel_rfl)) (fun _ _ _ h => h) (Or.inl ⟨by rfl, ?_⟩) ?_ ?_
  rotate_left
  · intro w'
    go_simp
    with_reducible rfl
  rotate_left
  · simp only [Act.put, List.setIfInBounds_toArray, List.set_cons_zero, List.set_cons_succ, i64_w, i32_w]
    rfl
  refine pure_ (i := 7) (N := some 44) (v := ?_) (a' := ?_) #[true, true, true, true, true, true, true, true, false, false, false, false, false, false, false, false, false, false] rfl rfl (any_of HT_.out (by kernel_rfl)) (fun _ _ _ h => h) (Or.inl ⟨by rfl, ?_⟩) ?_ ?_
  rotate_left
  · intro w'
    go_simp
    with_reducible rfl
  rotate_left
  · simp only [Act.put, List.setIfInBounds_toArray, List.set_cons_zero, List.set_cons_succ, i64_w, i32_w]
    rfl
  refine pure_ (i := 8) (N := some 45) (v := ?_) (a' := ?_) #[true, true, true, true, true, true, true, true, true, false, false, false, false, false, false, false, false, false] rfl rfl (any_of HT_.out (by kernel_rfl)) (fun _ _ _ h => h) (Or.inl ⟨by rfl, ?_⟩) ?_ ?_
  rotate_left
  · intro w'
    go_simp
    with_reducible rfl
  rotate_left
  · simp only [Act.put, List.setIfInBounds_toArray, List.set_cons_zero, List.set_cons_succ, i64_w, i32_w]
    rfl
  refine pure_ (i := 9) (N := some 46) (v := ?_) (a' := ?_) #[true, true, true, true, true, true, true, true, true, true, false, false, false, false, false, false, false, false] rfl rfl (any_of HT_.out (by kernel_rfl)) (fun _ _ _ h => h) (Or.inl ⟨by rfl, ?_⟩) ?_ ?_
  rotate_left
  · intro w'
    go_simp
    with_reducible rfl
  rotate_left
  · simp only [Act.put, List.setIfInBounds_toArray, List.set_cons_zero, List.set_cons_succ, i64_w, i32_w]
    rfl
  refine pure_ (i := 10) (N := some 47) (v := undef) (a' := ?_) #[true, true, true, true, true, true, true, true, true, true, true, false, false, false, false, false, false, false] rfl rfl (any_of HT_.out (by kernel_rfl)) (fun _ _ _ h => h) (Or.inr ⟨by rfl, rfl⟩) ?_ ?_
  rotate_left
  · simp only [Act.put, List.setIfInBounds_toArray, List.set_cons_zero, List.set_cons_succ, i64_w, i32_w]
    rfl
  refine pure_ (i := 11) (N := some 48) (v := undef) (a' := ?_) #[true, true, true, true, true, true, true, true, true, true, true, true, false, false, false, false, false, false] rfl rfl (any_of HT_.out (by kernel_rfl)) (fun _ _ _ h => h) (Or.inr ⟨by rfl, rfl⟩) ?_ ?_
  rotate_left
  · simp only [Act.put, List.setIfInBounds_toArray, List.set_cons_zero, List.set_cons_succ, i64_w, i32_w]
    rfl
  refine pure_ (i := 12) (N := some 49) (v := undef) (a' := ?_) #[true, true, true, true, true, true, true, true, true, true, true, true, true, false, false, false, false, false] rfl rfl (any_of HT_.out (by kernel_rfl)) (fun _ _ _ h => h) (Or.inr ⟨by rfl, rfl⟩) ?_ ?_
  rotate_left
  · simp only [Act.put, List.setIfInBounds_toArray, List.set_cons_zero, List.set_cons_succ, i64_w, i32_w]
    rfl
  refine pure_ (i := 13) (N := some 50) (v := undef) (a' := ?_) #[true, true, true, true, true, true, true, true, true, true, true, true, true, true, false, false, false, false] rfl rfl (any_of HT_.out (by kernel_rfl)) (fun _ _ _ h => h) (Or.inr ⟨by rfl, rfl⟩) ?_ ?_
  rotate_left
  · simp only [Act.put, List.setIfInBounds_toArray, List.set_cons_zero, List.set_cons_succ, i64_w, i32_w]
    rfl
  refine pure_ (i := 14) (N := some 51) (v := undef) (a' := ?_) #[true, true, true, true, true, true, true, true, true, true, true, true, true, true, true, false, false, false] rfl rfl (any_of HT_.out (by kernel_rfl)) (fun _ _ _ h => h) (Or.inr ⟨by rfl, rfl⟩) ?_ ?_
  rotate_left
  · simp only [Act.put, List.setIfInBounds_toArray, List.set_cons_zero, List.set_cons_succ, i64_w, i32_w]
    rfl
  refine pure_ (i := 15) (N := some 52) (v := undef) (a' := ?_) #[true, true, true, true, true, true, true, true, true, true, true, true, true, true, true, true, false, false] rfl rfl (any_of HT_.out (by kernel_rfl)) (fun _ _ _ h => h) (Or.inr ⟨by rfl, rfl⟩) ?_ ?_
  rotate_left
  · simp only [Act.put, List.setIfInBounds_toArray, List.set_cons_zero, List.set_cons_succ, i64_w, i32_w]
    rfl
  refine pure_ (i := 16) (N := some 53) (v := undef) (a' := ?_) #[true, true, true, true, true, true, true, true, true, true, true, true, true, true, true, true, true, false] rfl rfl (any_of HT_.out (by kernel_rfl)) (fun _ _ _ h => h) (Or.inr ⟨by rfl, rfl⟩) ?_ ?_
  rotate_left
  · simp only [Act.put, List.setIfInBounds_toArray, List.set_cons_zero, List.set_cons_succ, i64_w, i32_w]
    rfl
  refine pure_ (i := 17) (N := some 54) (v := ?_) (a' := ?_) #[true, true, true, true, true, true, true, true, true, true, true, true, true, true, true, true, true, true] rfl rfl (any_of HT_.out (by kernel_rfl)) (fun _ _ _ h => h) (Or.inl ⟨by rfl, ?_⟩) ?_ ?_
  rotate_left
  · intro w'
    go_simp
    with_reducible rfl
  rotate_left
  · simp only [Act.put, List.setIfInBounds_toArray, List.set_cons_zero, List.set_cons_succ, i64_w, i32_w]
    rfl
  refine done_ (done_of HT_.out (by kernel_rfl)) ?_
  have z0 := (blk_cell HB5.trd 0 : W5.cell? ⟨w.heap.size + 1 + 1, 0, none⟩ = _)
  have z1 := (blk_cell HB5.trd 1 : W5.cell? ⟨w.heap.size + 1 + 1, 1, none⟩ = _)
  have z2 := (blk_cell HB5.trd 2 : W5.cell? ⟨w.heap.size + 1 + 1, 2, none⟩ = _)
  have z3 := (blk_cell HB5.trd 3 : W5.cell? ⟨w.heap.size + 1 + 1, 3, none⟩ = _)
  have y0 := (blk_frozen HB5.trd 0 : W5.frozen? ⟨w.heap.size + 1 + 1, 0, none⟩ = false)
  have y1 := (blk_frozen HB5.trd 1 : W5.frozen? ⟨w.heap.size + 1 + 1, 1, none⟩ = false)
  have y2 := (blk_frozen HB5.trd 2 : W5.frozen? ⟨w.heap.size + 1 + 1, 2, none⟩ = false)
  have y3 := (blk_frozen HB5.trd 3 : W5.frozen? ⟨w.heap.size + 1 + 1, 3, none⟩ = false)
  try go_wp2
  refine bodyPost_ret (results_ct rfl _ _ (w.heap.size + 1 + 1) 24 #[.int .i64 0, .string ⟨#[]⟩, .int .i64 0, .slice none 0 0] (0, 0) _ rfl (blk_put4 HB5.trd) Tryd.underlying24 rfl (by kernel_rfl)) rfl ?_
  exact ⟨rfl, below_set4 HB5.below (by omega)⟩
end Go.Proofs.YtgcpfelccfnnbaaDoor.X
