/-
Part 38 of the texts of this proof: the walks through the program's functions.
-/
import Derived.StillTailTactics
import Derived.Test.YtgcpfelccfnnbaaDoorMCounts2
import Derived.Test.YtgcpfelccfnnbaaDoorMCounts18
import Derived.Test.YtgcpfelccfnnbaaDoorMCounts33
import Derived.Test.YtgcpfelccfnnbaaDoorMCounts36
import Derived.Test.YtgcpfelccfnnbaaDoorMCounts37
namespace Go.Proofs.YtgcpfelccfnnbaaDoor.X
open Go.RowKit Go.Proofs.YtgcpfelccfnnbaaDoorW.PrintWords Go.Proofs.YtgcpfelccfnnbaaDoorW.PrintLast Go.Proofs.YtgcpfelccfnnbaaDoorW.PrintMore
attribute [local go_sem] max2_int min2_int max_two min_two max_three min_three max_four min_four   -- for this text's walks alone
set_option linter.unusedVariables false
set_option linter.unusedSimpArgs false
def apply11.T : Bool × List (List Nat × List Nat) := (true, [([], []), ([0], [0]), ([], []), ([2], [2]), ([1, 3], [1, 3]), ([4, 3, 0, 1, 2, 3, 4], [4])])
def apply11.B : List Nat := [0, 1, 0, 4, 15, 31]
theorem apply11.tab : rtab .any (opsOf Tryd.f11 11) = apply11.T := by kernel_rfl
theorem apply11.bits : waitsOk apply11.T.2 apply11.B = true := by kernel_rfl
def apply12.T : Bool × List (List Nat × List Nat) := (true, [([], []), ([0], [0]), ([], []), ([2], [2]), ([], []), ([4], [4]), ([], []), ([3, 5, 6], [3, 5, 6]), ([1, 7, 1], [1, 7]), ([8], [8]), ([9], [9]), ([9], [9]), ([10, 8, 0, 1, 2, 3, 4, 5, 6, 7, 8, 9, 10], [10]), ([11, 12, 0, 1, 2, 3, 4, 5, 6, 7, 8, 9, 10, 11, 12], [11])])
def apply12.B : List Nat := [0, 1, 0, 4, 0, 16, 0, 124, 255, 511, 1023, 1023, 2047, 8191]
theorem apply12.tab : rtab .any (opsOf Tryd.f11 12) = apply12.T := by kernel_rfl
theorem apply12.bits : waitsOk apply12.T.2 apply12.B = true := by kernel_rfl
def apply15.T : Bool × List (List Nat × List Nat) := (true, [([], []), ([0], [0]), ([], []), ([2], [2]), ([1, 3], [1, 3]), ([], []), ([], []), ([6], [6]), ([], []), ([7, 8], [7, 8]), ([4, 5, 9], [4, 5, 9]), ([10], [10]), ([0, 1, 2, 3, 4, 5, 6, 7, 8, 9, 10, 11], []), ([12, 11, 11, 0, 1, 2, 3, 4, 5, 6, 7, 8, 9, 10, 11], [11, 12])])
def apply15.B : List Nat := [0, 1, 0, 4, 15, 0, 0, 64, 0, 448, 1023, 2047, 4095, 8191]
theorem apply15.tab : rtab .any (opsOf Tryd.f11 15) = apply15.T := by kernel_rfl
theorem apply15.bits : waitsOk apply15.T.2 apply15.B = true := by kernel_rfl
theorem threeF {W : World} {a b e : List S24} {Aa Ab Ae : Option Addr} {ca cb ce : Nat} {ok : Nat → Prop} (ha : a.length ≤ ca) (hb : b.length ≤ cb) (he : e.length ≤ ce) (Fa : Kd.F k24 W ok Aa a.length a) (Fb : Kd.F k24 W ok Ab b.length b) (Fe : Kd.F k24 W ok Ae e.length e) :
    Kd.F (Kd.slice 24 k24) (W.alloc (.cells #[.slice Aa a.length ca, .slice Ab b.length cb, .slice Ae e.length ce] 22)) (fun j => ok j ∨ j = W.heap.size) (some ⟨W.heap.size, 0, none⟩) 3 [a, b, e] := by
  intro W' hW
  have hbl : W'.heap[W.heap.size]? = some (.cells #[.slice Aa a.length ca, .slice Ab b.length cb, .slice Ae e.length ce] 22 (0, 0)) := (hW _ (.inr rfl) (by simp)).trans (heap_alloc_new W _)
  have hs : ∀ k, ok k → k < W.heap.size → W'.heap[k]? = W.heap[k]? := fun k hk hlt => (hW k (.inl hk) (by simp; omega)).trans (Below.heap_alloc _ _ _ hlt)
  refine ⟨rfl, by simp, fun _ => ⟨_, rfl, fun j p hj => ?_⟩⟩
  match j, hj with
  | 0, hj =>
    simp only [List.getElem?_cons_zero, Option.some.injEq] at hj
    subst hj
    refine ⟨[.slice Aa a.length ca], rfl, ⟨Aa, ca, rfl, ha, Fa W' hs⟩, fun i u hu => ?_⟩
    rw [add_plain, blk_cell hbl]
    match i, hu with
    | 0, hu => simpa using hu
    | i + 1, hu => simp at hu
  | 1, hj =>
    simp only [List.getElem?_cons_succ, List.getElem?_cons_zero, Option.some.injEq] at hj
    subst hj
    refine ⟨[.slice Ab b.length cb], rfl, ⟨Ab, cb, rfl, hb, Fb W' hs⟩, fun i u hu => ?_⟩
    rw [add_plain, blk_cell hbl]
    match i, hu with
    | 0, hu => simpa [Kd.slice] using hu
    | i + 1, hu => simp at hu
  | 2, hj =>
    simp only [List.getElem?_cons_succ, List.getElem?_cons_zero, Option.some.injEq] at hj
    subst hj
    refine ⟨[.slice Ae e.length ce], rfl, ⟨Ae, ce, rfl, he, Fe W' hs⟩, fun i u hu => ?_⟩
    rw [add_plain, blk_cell hbl]
    match i, hu with
    | 0, hu => simpa [Kd.slice] using hu
    | i + 1, hu => simp at hu
  | j + 3, hj => simp at hj
set_option maxRecDepth 100000 in
set_option maxHeartbeats 4000000 in
theorem apply_e4c (r : S24) (nn : Int) (x : S24) (o : S27) (A AR AN : Option Addr) (c cR cN : Nat) (w : World) (HA : Aside0 (Kd.C k24 w A x.f3.length x.f3)) (HR : Aside0 (Kd.C (Kd.int .i64) w AR o.f1.length o.f1)) (HN : Aside0 (Kd.C k24 w AN o.f4.length o.f4)) (HV : Aside0 (∀ W : World, Kd.C k24 W A x.f3.length x.f3 → Calls Tryd.prog 27 #[.agg #[.int .i64 x.f0, .string x.f1, .int .i64 x.f2, .slice A x.f3.length c]] W fun e w' => e = .returned (.bool true) ∧ Below W.heap.size W w')) (HF : Aside0 (∀ W : World, Kd.C (Kd.int .i64) W AR o.f1.length o.f1 → Kd.C k24 W AN o.f4.length o.f4 → Calls Tryd.prog 28 #[.agg #[.int .i64 o.f0, .slice AR o.f1.length cR, .int .i64 o.f2, .int .i64 o.f3, .slice AN o.f4.length cN, .int .i64 o.f5, .string o.f6, .string o.f7]] W fun e w' => e = .returned (.bool true) ∧ Below W.heap.size W w')) (HROW : Aside0 (∀ W : World, Kd.C k24 W A x.f3.length x.f3 → Kd.C (Kd.int .i64) W AR o.f1.length o.f1 → Calls Tryd.prog 29 #[.agg #[.int .i64 x.f0, .string x.f1, .int .i64 x.f2, .slice A x.f3.length c], .slice AR o.f1.length cR] W fun e w' => ∃ v : Value, e = .returned (.tuple #[.agg #[.int .i64 r.f0, .string r.f1, .int .i64 r.f2, v], .int .i64 0]) ∧ Kd.R k24 24 w' W.heap.size (fun _ => True) v r.f3 ∧ Below W.heap.size W w')) (HNEED : Aside0 (∀ W : World, Kd.C (Kd.int .i64) W AR o.f1.length o.f1 → Kd.C k24 W AN o.f4.length o.f4 → Calls Tryd.prog 30 #[.agg #[.int .i64 o.f0, .slice AR o.f1.length cR, .int .i64 o.f2, .int .i64 o.f3, .slice AN o.f4.length cN, .int .i64 o.f5, .string o.f6, .string o.f7]] W fun e w' => e = .returned (.int .i64 nn) ∧ Below W.heap.size W w')) (h39 : decide (o.f2 < 0) = false) (h44 : decide ((r.f3.length : Int) < o.f2) = false) (h53 : decide (wrap64 ((r.f3.length : Int) - o.f2) < nn) = true) :
    Calls Tryd.prog 11 #[.agg #[.int .i64 x.f0, .string x.f1, .int .i64 x.f2, .slice A x.f3.length c], .agg #[.int .i64 o.f0, .slice AR o.f1.length cR, .int .i64 o.f2, .int .i64 o.f3, .slice AN o.f4.length cN, .int .i64 o.f5, .string o.f6, .string o.f7]] w (ErrPost w 2) := by
  go_enter Tryd.func11, Tryd.ntmps11
  go_wp2_with (first | (go_at_call 27; go_loud (refine (HV.out _ (Kd.C_below HA.out (Boxes.new w _ _ _).below)).mono ?_; rintro e w1 ⟨rfl, hB1⟩; have HB1 := (Boxes.new w _ _ _).on hB1; clear hB1; have o0 := (blk_cell HB1.snd 0 : w1.cell? ⟨w.heap.size + 1, 0, none⟩ = _); have o1 := (blk_cell HB1.snd 1 : w1.cell? ⟨w.heap.size + 1, 1, none⟩ = _); have o2 := (blk_cell HB1.snd 2 : w1.cell? ⟨w.heap.size + 1, 2, none⟩ = _); have o3 := (blk_cell HB1.snd 3 : w1.cell? ⟨w.heap.size + 1, 3, none⟩ = _); have o4 := (blk_cell HB1.snd 4 : w1.cell? ⟨w.heap.size + 1, 4, none⟩ = _); have o5 := (blk_cell HB1.snd 5 : w1.cell? ⟨w.heap.size + 1, 5, none⟩ = _); have o6 := (blk_cell HB1.snd 6 : w1.cell? ⟨w.heap.size + 1, 6, none⟩ = _); have o7 := (blk_cell HB1.snd 7 : w1.cell? ⟨w.heap.size + 1, 7, none⟩ = _))) | (go_at_call 28; go_loud (refine (HF.out _ (Kd.C_below HR.out HB1.below) (Kd.C_below HN.out HB1.below)).mono ?_; rintro e w2 ⟨rfl, hB2⟩; have HB2 := HB1.on hB2; clear hB2 HB1; clear o0 o1 o2 o3 o4 o5 o6 o7; have x0 := (blk_cell HB2.fst 0 : w2.cell? ⟨w.heap.size, 0, none⟩ = _); have x1 := (blk_cell HB2.fst 1 : w2.cell? ⟨w.heap.size, 1, none⟩ = _); have x2 := (blk_cell HB2.fst 2 : w2.cell? ⟨w.heap.size, 2, none⟩ = _); have x3 := (blk_cell HB2.fst 3 : w2.cell? ⟨w.heap.size, 3, none⟩ = _); have o0 := (blk_cell HB2.snd 0 : w2.cell? ⟨w.heap.size + 1, 0, none⟩ = _); have o1 := (blk_cell HB2.snd 1 : w2.cell? ⟨w.heap.size + 1, 1, none⟩ = _); have o2 := (blk_cell HB2.snd 2 : w2.cell? ⟨w.heap.size + 1, 2, none⟩ = _); have o3 := (blk_cell HB2.snd 3 : w2.cell? ⟨w.heap.size + 1, 3, none⟩ = _); have o4 := (blk_cell HB2.snd 4 : w2.cell? ⟨w.heap.size + 1, 4, none⟩ = _); have o5 := (blk_cell HB2.snd 5 : w2.cell? ⟨w.heap.size + 1, 5, none⟩ = _); have o6 := (blk_cell HB2.snd 6 : w2.cell? ⟨w.heap.size + 1, 6, none⟩ = _); have o7 := (blk_cell HB2.snd 7 : w2.cell? ⟨w.heap.size + 1, 7, none⟩ = _))) | (go_at_call 29; go_loud (refine (HROW.out _ (Kd.C_below HA.out HB2.below) (Kd.C_below HR.out HB2.below)).mono ?_; rintro e w3 ⟨v, rfl, hRR, hB3⟩; obtain ⟨A1, c1, rfl⟩ := Kd.R_slice hRR; have HB3 := HB2.on hB3; clear hB3 HB2; clear x0 x1 x2 x3 o0 o1 o2 o3 o4 o5 o6 o7; have HRR := Aside0.mk hRR; clear hRR; skip)))
  have HG := Aside0.mk HB3.big
  have HCR := Aside0.mk (Kd.R_reads' HRR.out).2.1
  have HKF : Aside0 (Kd.F k24 (w3.alloc (.cells #[.int .i64 r.f0, .string r.f1, .int .i64 r.f2, .slice A1 r.f3.length c1] 24)) (fun k => k ≠ w3.heap.size) A1 r.f3.length r.f3) := ⟨Kd.F_mono (Kd.F_alloc (Kd.F_bound (Kd.R_F HRR.out)) _) (fun k hk => by have := hk.2; omega)⟩
  have HRB4 := Aside0.mk (heap_alloc_new w3 (.cells #[.int .i64 r.f0, .string r.f1, .int .i64 r.f2, .slice A1 r.f3.length c1] 24))
  have HB4 := HB3.alloc (.cells #[.int .i64 r.f0, .string r.f1, .int .i64 r.f2, .slice A1 r.f3.length c1] 24)
  clear HB3 HRR
  refine start_ (n := 18) (S := fun w' => w'.cell? ⟨w.heap.size + 1, 0, none⟩ = some (.int .i64 o.f0) ∧ w'.cell? ⟨w.heap.size + 1, 1, none⟩ = some (.slice AR o.f1.length cR) ∧ w'.cell? ⟨w.heap.size + 1, 2, none⟩ = some (.int .i64 o.f2) ∧ w'.cell? ⟨w.heap.size + 1, 3, none⟩ = some (.int .i64 o.f3) ∧ w'.cell? ⟨w.heap.size + 1, 4, none⟩ = some (.slice AN o.f4.length cN) ∧ w'.cell? ⟨w.heap.size + 1, 5, none⟩ = some (.int .i64 o.f5) ∧ w'.cell? ⟨w.heap.size + 1, 6, none⟩ = some (.string o.f6) ∧ w'.cell? ⟨w.heap.size + 1, 7, none⟩ = some (.string o.f7)) (ds := []) #[false, false, false, false, false, false, false, false, false, false, false, false, false, false, false, false, false, false] (by kernel_rfl) rfl rfl ⟨blk_cell HB4.drew.snd 0, blk_cell HB4.drew.snd 1, blk_cell HB4.drew.snd 2, blk_cell HB4.drew.snd 3, blk_cell HB4.drew.snd 4, blk_cell HB4.drew.snd 5, blk_cell HB4.drew.snd 6, blk_cell HB4.drew.snd 7⟩ (fun hHeld => ?_); refine with_tabW apply9.tab apply9.bits (fun HT_ HW_ => ?_)
  have HB5 := HB4.drew
  have HRB5 : Aside0 ((w3.alloc (.cells #[.int .i64 r.f0, .string r.f1, .int .i64 r.f2, .slice A1 r.f3.length c1] 24)).drew.heap[w3.heap.size]? = some (.cells #[.int .i64 r.f0, .string r.f1, .int .i64 r.f2, .slice A1 r.f3.length c1] 24)) := ⟨HRB4.out⟩
  have HKF5 := Aside0.mk (Kd.F_drew HKF.out)
  clear HB4 HRB4 HKF
  generalize (w3.alloc (.cells #[.int .i64 r.f0, .string r.f1, .int .i64 r.f2, .slice A1 r.f3.length c1] 24)).drew = W5 at HB5 HRB5 HKF5 hHeld ⊢
  generalize w3.heap.size = g6 at HG HRB5 HKF5 ⊢
  refine pure_ (i := 0) (N := some 37) (v := ?_) (a' := ?_) #[true, false, false, false, false, false, false, false, false, false, false, false, false, false, false, false, false, false] rfl rfl (any_of HT_.out (by kernel_rfl)) (fun _ _ _ h => h) (Or.inl ⟨by rfl, ?_⟩) ?_ ?_
  rotate_left
  · intro w'
    go_simp
    with_reducible rfl
  rotate_left
  · simp only [Act.put, List.setIfInBounds_toArray, List.set_cons_zero, List.set_cons_succ, i64_w, i32_w]
    rfl
  refine take_ (i := 1) (N := some 38) (v := ?_) (a' := ?_) #[true, true, false, false, false, false, false, false, false, false, false, false, false, false, false, false, false, false] rfl rfl (take_ofW HT_.out HW_.out (by kernel_rfl)) (fun _ _ _ h => h) (Or.inl ⟨by rfl, ?_⟩) hHeld ?_ ?_
  rotate_left
  · rintro w' ⟨s0, s1, s2, s3, s4, s5, s6, s7⟩
    go_simp
    with_reducible rfl
  rotate_left
  · simp only [Act.put, List.setIfInBounds_toArray, List.set_cons_zero, List.set_cons_succ, i64_w, i32_w]
    rfl
  refine pure_ (i := 2) (N := some 39) (v := ?_) (a' := ?_) #[true, true, true, false, false, false, false, false, false, false, false, false, false, false, false, false, false, false] rfl rfl (any_of HT_.out (by kernel_rfl)) (fun _ _ _ h => h) (Or.inl ⟨by rfl, ?_⟩) ?_ ?_
  rotate_left
  · intro w'
    go_simp
    with_reducible rfl
  rotate_left
  · simp only [Act.put, List.setIfInBounds_toArray, List.set_cons_zero, List.set_cons_succ, i64_w, i32_w]
    rfl
  refine pure_ (i := 3) (N := some 40) (v := ?_) (a' := ?_) #[true, true, true, true, false, false, false, false, false, false, false, false, false, false, false, false, false, false] rfl rfl (any_of HT_.out (by kernel_rfl)) (fun _ _ _ h => h) (Or.inl ⟨by rfl, ?_⟩) ?_ ?_
  rotate_left
  · intro w'
    go_simp
    with_reducible rfl
  rotate_left
  · simp only [Act.put, List.setIfInBounds_toArray, List.set_cons_zero, List.set_cons_succ, i64_w, i32_w]
    rfl
  refine pure_ (i := 4) (N := some 41) (v := ?_) (a' := ?_) #[true, true, true, true, true, false, false, false, false, false, false, false, false, false, false, false, false, false] rfl rfl (any_of HT_.out (by kernel_rfl)) (fun _ _ _ h => h) (Or.inl ⟨by rfl, ?_⟩) ?_ ?_
  rotate_left
  · intro w'
    go_simp
    with_reducible rfl
  rotate_left
  · simp only [Act.put, List.setIfInBounds_toArray, List.set_cons_zero, List.set_cons_succ, i64_w, i32_w]
    rfl
  refine take_ (i := 5) (N := some 42) (v := ?_) (a' := ?_) #[true, true, true, true, true, true, false, false, false, false, false, false, false, false, false, false, false, false] rfl rfl (take_ofW HT_.out HW_.out (by kernel_rfl)) (fun _ _ _ h => h) (Or.inl ⟨by rfl, ?_⟩) hHeld ?_ ?_
  rotate_left
  · rintro w' ⟨s0, s1, s2, s3, s4, s5, s6, s7⟩
    go_simp
    with_reducible rfl
  rotate_left
  · simp only [Act.put, List.setIfInBounds_toArray, List.set_cons_zero, List.set_cons_succ, i64_w, i32_w]
    rfl
  refine pure_ (i := 6) (N := some 43) (v := ?_) (a' := ?_) #[true, true, true, true, true, true, true, false, false, false, false, false, false, false, false, false, false, false] rfl rfl (any_of HT_.out (by kernel_rfl)) (fun _ _ _ h => h) (Or.inl ⟨by rfl, ?_⟩) ?_ ?_
  rotate_left
  · intro w'
    go_simp
    with_reducible rfl
  rotate_left
  · simp only [Act.put, List.setIfInBounds_toArray, List.set_cons_zero, List.set_cons_succ, i64_w, i32_w]
    rfl
  refine pure_ (i := 7) (N := some 44) (v := ?_) (a' := ?_) #[true, true, true, true, true, true, true, true, false, false, false, false, false, false, false, false, false, false] rfl rfl (any_of HT_.out (by kernel_rfl)) (fun _ _ _ h => h) (Or.inl ⟨by rfl, ?_⟩) ?_ ?_
  rotate_left
  · intro w'
    go_simp
    with_reducible rfl
  rotate_left
  · simp only [Act.put, List.setIfInBounds_toArray, List.set_cons_zero, List.set_cons_succ, i64_w, i32_w]
    rfl
  refine pure_ (i := 8) (N := some 45) (v := ?_) (a' := ?_) #[true, true, true, true, true, true, true, true, true, false, false, false, false, false, false, false, false, false] rfl rfl (any_of HT_.out (by kernel_rfl)) (fun _ _ _ h => h) (Or.inl ⟨by rfl, ?_⟩) ?_ ?_
  rotate_left
  · intro w'
    go_simp
    with_reducible rfl
  rotate_left
  · simp only [Act.put, List.setIfInBounds_toArray, List.set_cons_zero, List.set_cons_succ, i64_w, i32_w]
    rfl
  refine pure_ (i := 9) (N := some 46) (v := ?_) (a' := ?_) #[true, true, true, true, true, true, true, true, true, true, false, false, false, false, false, false, false, false] rfl rfl (any_of HT_.out (by kernel_rfl)) (fun _ _ _ h => h) (Or.inl ⟨by rfl, ?_⟩) ?_ ?_
  rotate_left
  · intro w'
    go_simp
    with_reducible rfl
  rotate_left
  · simp only [Act.put, List.setIfInBounds_toArray, List.set_cons_zero, List.set_cons_succ, i64_w, i32_w]
    rfl
  refine take_ (i := 10) (N := some 47) (v := ?_) (a' := ?_) #[true, true, true, true, true, true, true, true, true, true, true, false, false, false, false, false, false, false] rfl rfl (take_ofW HT_.out HW_.out (by kernel_rfl)) (fun _ _ _ h => h) (Or.inl ⟨by rfl, ?_⟩) hHeld ?_ ?_
  rotate_left
  · rintro w' ⟨s0, s1, s2, s3, s4, s5, s6, s7⟩
    go_simp
    with_reducible rfl
  rotate_left
  · simp only [Act.put, List.setIfInBounds_toArray, List.set_cons_zero, List.set_cons_succ, i64_w, i32_w]
    rfl
  refine pure_ (i := 12) (N := some 49) (v := ?_) (a' := ?_) #[true, true, true, true, true, true, true, true, true, true, true, false, true, false, false, false, false, false] rfl rfl (any_of HT_.out (by kernel_rfl)) (fun _ _ _ h => h) (Or.inl ⟨by rfl, ?_⟩) ?_ ?_
  rotate_left
  · intro w'
    go_simp
    with_reducible rfl
  rotate_left
  · simp only [Act.put, List.setIfInBounds_toArray, List.set_cons_zero, List.set_cons_succ, i64_w, i32_w]
    rfl
  refine pure_ (i := 13) (N := some 50) (v := ?_) (a' := ?_) #[true, true, true, true, true, true, true, true, true, true, true, false, true, true, false, false, false, false] rfl rfl (any_of HT_.out (by kernel_rfl)) (fun _ _ _ h => h) (Or.inl ⟨by rfl, ?_⟩) ?_ ?_
  rotate_left
  · intro w'
    go_simp
    with_reducible rfl
  rotate_left
  · simp only [Act.put, List.setIfInBounds_toArray, List.set_cons_zero, List.set_cons_succ, i64_w, i32_w]
    rfl
  refine take_ (i := 14) (N := some 51) (v := ?_) (a' := ?_) #[true, true, true, true, true, true, true, true, true, true, true, false, true, true, true, false, false, false] rfl rfl (take_ofW HT_.out HW_.out (by kernel_rfl)) (fun _ _ _ h => h) (Or.inl ⟨by rfl, ?_⟩) hHeld ?_ ?_
  rotate_left
  · rintro w' ⟨s0, s1, s2, s3, s4, s5, s6, s7⟩
    go_simp
    with_reducible rfl
  rotate_left
  · simp only [Act.put, List.setIfInBounds_toArray, List.set_cons_zero, List.set_cons_succ, i64_w, i32_w]
    rfl
  refine pure_ (i := 15) (N := some 52) (v := ?_) (a' := ?_) #[true, true, true, true, true, true, true, true, true, true, true, false, true, true, true, true, false, false] rfl rfl (any_of HT_.out (by kernel_rfl)) (fun _ _ _ h => h) (Or.inl ⟨by rfl, ?_⟩) ?_ ?_
  rotate_left
  · intro w'
    go_simp
    with_reducible rfl
  rotate_left
  · simp only [Act.put, List.setIfInBounds_toArray, List.set_cons_zero, List.set_cons_succ, i64_w, i32_w]
    rfl
  refine one_ (i := 11) (N := some 48) #[true, true, true, true, true, true, true, true, true, true, true, true, true, true, true, true, false, false] rfl rfl (one_of HT_.out (by kernel_rfl)) (by decide) (fun K hK => ?_)
  refine goes_ Tryd.func30 (by kernel_rfl) rfl #[.agg #[.int .i64 o.f0, .slice AR o.f1.length cR, .int .i64 o.f2, .int .i64 o.f3, .slice AN o.f4.length cN, .int .i64 o.f5, .string o.f6, .string o.f7]] (by rfl) rfl rfl (by (try simp only [List.map_toArray, List.map_cons, List.map_nil]); first | done | rfl | (simp only [List.length_drop, List.length_take]; rfl)) ?_
  refine (HNEED.out _ (Kd.C_below HR.out HB5.below) (Kd.C_below HN.out HB5.below)).mono ?_
  rintro e w6 ⟨rfl, hb⟩
  have HB6 := HB5.on hb
  have HRB6 := Aside0.mk (blk_on HRB5.out hb)
  have HKF6 := Aside0.mk (Kd.F_below HKF5.out hb)
  clear hb HB5 HRB5 HKF5 hHeld
  refine ⟨_, rfl, ?_⟩
  refine hK.out _ _ ⟨blk_cell HB6.snd 0, blk_cell HB6.snd 1, blk_cell HB6.snd 2, blk_cell HB6.snd 3, blk_cell HB6.snd 4, blk_cell HB6.snd 5, blk_cell HB6.snd 6, blk_cell HB6.snd 7⟩ (fun hHeld => ?_)
  clear hK K
  refine norm_ (a' := ?_) ?_ ?_
  rotate_left
  · show Act.put _ (some 48) _ = _
    simp only [Act.put, List.setIfInBounds_toArray, List.set_cons_zero, List.set_cons_succ, i64_w, i32_w]
    rfl
  refine pure_ (i := 16) (N := some 53) (v := ?_) (a' := ?_) #[true, true, true, true, true, true, true, true, true, true, true, true, true, true, true, true, true, false] rfl rfl (any_of HT_.out (by kernel_rfl)) (fun _ _ _ h => h) (Or.inl ⟨by rfl, ?_⟩) ?_ ?_
  rotate_left
  · intro w'
    go_simp
    with_reducible rfl
  rotate_left
  · simp only [Act.put, List.setIfInBounds_toArray, List.set_cons_zero, List.set_cons_succ, i64_w, i32_w]
    rfl
  refine pure_ (i := 17) (N := some 54) (v := ?_) (a' := ?_) #[true, true, true, true, true, true, true, true, true, true, true, true, true, true, true, true, true, true] rfl rfl (any_of HT_.out (by kernel_rfl)) (fun _ _ _ h => h) (Or.inl ⟨by rfl, ?_⟩) ?_ ?_
  rotate_left
  · intro w'
    go_simp
    with_reducible rfl
  rotate_left
  · simp only [Act.put, List.setIfInBounds_toArray, List.set_cons_zero, List.set_cons_succ, i64_w, i32_w]
    rfl
  refine done_ (done_of HT_.out (by kernel_rfl)) ?_
  have z0 := (blk_cell HB6.trd 0 : w6.cell? ⟨w.heap.size + 1 + 1, 0, none⟩ = _)
  have z1 := (blk_cell HB6.trd 1 : w6.cell? ⟨w.heap.size + 1 + 1, 1, none⟩ = _)
  have z2 := (blk_cell HB6.trd 2 : w6.cell? ⟨w.heap.size + 1 + 1, 2, none⟩ = _)
  have z3 := (blk_cell HB6.trd 3 : w6.cell? ⟨w.heap.size + 1 + 1, 3, none⟩ = _)
  have y0 := (blk_frozen HB6.trd 0 : w6.frozen? ⟨w.heap.size + 1 + 1, 0, none⟩ = false)
  have y1 := (blk_frozen HB6.trd 1 : w6.frozen? ⟨w.heap.size + 1 + 1, 1, none⟩ = false)
  have y2 := (blk_frozen HB6.trd 2 : w6.frozen? ⟨w.heap.size + 1 + 1, 2, none⟩ = false)
  have y3 := (blk_frozen HB6.trd 3 : w6.frozen? ⟨w.heap.size + 1 + 1, 3, none⟩ = false)
  try go_wp2
  refine bodyPost_ret (results_ct rfl _ _ (w.heap.size + 1 + 1) 24 #[.int .i64 0, .string ⟨#[]⟩, .int .i64 0, .slice none 0 0] (0, 0) _ rfl (blk_put4 HB6.trd) Tryd.underlying24 rfl (by kernel_rfl)) rfl ?_
  exact ⟨rfl, below_set4 HB6.below (by omega)⟩
set_option maxRecDepth 100000 in
set_option maxHeartbeats 4000000 in
theorem apply_e5 (pre old post ch kids : List S24) (en : Int) (r : S24) (nn : Int) (x : S24) (o : S27) (A AR AN : Option Addr) (c cR cN : Nat) (w : World) (HA : Aside0 (Kd.C k24 w A x.f3.length x.f3)) (HR : Aside0 (Kd.C (Kd.int .i64) w AR o.f1.length o.f1)) (HN : Aside0 (Kd.C k24 w AN o.f4.length o.f4)) (HV : Aside0 (∀ W : World, Kd.C k24 W A x.f3.length x.f3 → Calls Tryd.prog 27 #[.agg #[.int .i64 x.f0, .string x.f1, .int .i64 x.f2, .slice A x.f3.length c]] W fun e w' => e = .returned (.bool true) ∧ Below W.heap.size W w')) (HF : Aside0 (∀ W : World, Kd.C (Kd.int .i64) W AR o.f1.length o.f1 → Kd.C k24 W AN o.f4.length o.f4 → Calls Tryd.prog 28 #[.agg #[.int .i64 o.f0, .slice AR o.f1.length cR, .int .i64 o.f2, .int .i64 o.f3, .slice AN o.f4.length cN, .int .i64 o.f5, .string o.f6, .string o.f7]] W fun e w' => e = .returned (.bool true) ∧ Below W.heap.size W w')) (HROW : Aside0 (∀ W : World, Kd.C k24 W A x.f3.length x.f3 → Kd.C (Kd.int .i64) W AR o.f1.length o.f1 → Calls Tryd.prog 29 #[.agg #[.int .i64 x.f0, .string x.f1, .int .i64 x.f2, .slice A x.f3.length c], .slice AR o.f1.length cR] W fun e w' => ∃ v : Value, e = .returned (.tuple #[.agg #[.int .i64 r.f0, .string r.f1, .int .i64 r.f2, v], .int .i64 0]) ∧ Kd.R k24 24 w' W.heap.size (fun _ => True) v r.f3 ∧ Below W.heap.size W w')) (HNEED : Aside0 (∀ W : World, Kd.C (Kd.int .i64) W AR o.f1.length o.f1 → Kd.C k24 W AN o.f4.length o.f4 → Calls Tryd.prog 30 #[.agg #[.int .i64 o.f0, .slice AR o.f1.length cR, .int .i64 o.f2, .int .i64 o.f3, .slice AN o.f4.length cN, .int .i64 o.f5, .string o.f6, .string o.f7]] W fun e w' => e = .returned (.int .i64 nn) ∧ Below W.heap.size W w')) (h39 : decide (o.f2 < 0) = false) (h44 : decide ((r.f3.length : Int) < o.f2) = false) (h53 : decide (wrap64 ((r.f3.length : Int) - o.f2) < nn) = false) (hen : wrap64 (o.f2 + nn) = en) (h0 : 0 ≤ o.f2) (h1 : o.f2 ≤ en) (h2 : en ≤ r.f3.length) (Hold : Aside0 ((r.f3.take en.toNat).drop o.f2.toNat = old)) (HCOPY : Aside0 (∀ (P : Nat → Prop) (W : World), Kd.C (Kd.int .i64) W AR o.f1.length o.f1 → Kd.F k24 W P AN o.f4.length o.f4 → Calls Tryd.prog 32 #[.agg #[.int .i64 o.f0, .slice AR o.f1.length cR, .int .i64 o.f2, .int .i64 o.f3, .slice AN o.f4.length cN, .int .i64 o.f5, .string o.f6, .string o.f7]] W fun e w' => ∃ v1 v4 : Value, e = .returned (.agg #[.int .i64 o.f0, v1, .int .i64 o.f2, .int .i64 o.f3, v4, .int .i64 o.f5, .string o.f6, .string o.f7]) ∧ (Kd.int .i64).R 3 w' W.heap.size (fun k => W.heap.size ≤ k) v1 o.f1 ∧ Kd.N k24 24 w' W.heap.size (fun k => (P k ∨ W.heap.size ≤ k) ∧ some k ≠ v1.ownBlock) v4 o.f4 ∧ Below W.heap.size W w')) (HCH : Aside0 (∀ (A2 AR2 AN2 : Option Addr) (c2 cR2 cN2 : Nat) (P : Nat → Prop) (W : World), old.length ≤ c2 → o.f4.length ≤ cN2 → Kd.F k24 W P A2 old.length old → Kd.F k24 W P AN2 o.f4.length o.f4 → Calls Tryd.prog 31 #[.agg #[.int .i64 o.f0, .slice AR2 o.f1.length cR2, .int .i64 o.f2, .int .i64 o.f3, .slice AN2 o.f4.length cN2, .int .i64 o.f5, .string o.f6, .string o.f7], .slice A2 old.length c2] W fun e w' => ∃ (A' : Option Addr) (c' : Nat), e = .returned (.tuple #[.slice A' ch.length c', .bool false]) ∧ ch.length ≤ c' ∧ Kd.F k24 w' (fun j => P j ∨ W.heap.size ≤ j) A' ch.length ch ∧ Below W.heap.size W w')) :
    Calls Tryd.prog 11 #[.agg #[.int .i64 x.f0, .string x.f1, .int .i64 x.f2, .slice A x.f3.length c], .agg #[.int .i64 o.f0, .slice AR o.f1.length cR, .int .i64 o.f2, .int .i64 o.f3, .slice AN o.f4.length cN, .int .i64 o.f5, .string o.f6, .string o.f7]] w (ErrPost w 7) := by
  go_enter Tryd.func11, Tryd.ntmps11
  go_wp2_with (first | (go_at_call 27; go_loud (refine (HV.out _ (Kd.C_below HA.out (Boxes.new w _ _ _).below)).mono ?_; rintro e w1 ⟨rfl, hB1⟩; have HB1 := (Boxes.new w _ _ _).on hB1; clear hB1; have o0 := (blk_cell HB1.snd 0 : w1.cell? ⟨w.heap.size + 1, 0, none⟩ = _); have o1 := (blk_cell HB1.snd 1 : w1.cell? ⟨w.heap.size + 1, 1, none⟩ = _); have o2 := (blk_cell HB1.snd 2 : w1.cell? ⟨w.heap.size + 1, 2, none⟩ = _); have o3 := (blk_cell HB1.snd 3 : w1.cell? ⟨w.heap.size + 1, 3, none⟩ = _); have o4 := (blk_cell HB1.snd 4 : w1.cell? ⟨w.heap.size + 1, 4, none⟩ = _); have o5 := (blk_cell HB1.snd 5 : w1.cell? ⟨w.heap.size + 1, 5, none⟩ = _); have o6 := (blk_cell HB1.snd 6 : w1.cell? ⟨w.heap.size + 1, 6, none⟩ = _); have o7 := (blk_cell HB1.snd 7 : w1.cell? ⟨w.heap.size + 1, 7, none⟩ = _))) | (go_at_call 28; go_loud (refine (HF.out _ (Kd.C_below HR.out HB1.below) (Kd.C_below HN.out HB1.below)).mono ?_; rintro e w2 ⟨rfl, hB2⟩; have HB2 := HB1.on hB2; clear hB2 HB1; clear o0 o1 o2 o3 o4 o5 o6 o7; have x0 := (blk_cell HB2.fst 0 : w2.cell? ⟨w.heap.size, 0, none⟩ = _); have x1 := (blk_cell HB2.fst 1 : w2.cell? ⟨w.heap.size, 1, none⟩ = _); have x2 := (blk_cell HB2.fst 2 : w2.cell? ⟨w.heap.size, 2, none⟩ = _); have x3 := (blk_cell HB2.fst 3 : w2.cell? ⟨w.heap.size, 3, none⟩ = _); have o0 := (blk_cell HB2.snd 0 : w2.cell? ⟨w.heap.size + 1, 0, none⟩ = _); have o1 := (blk_cell HB2.snd 1 : w2.cell? ⟨w.heap.size + 1, 1, none⟩ = _); have o2 := (blk_cell HB2.snd 2 : w2.cell? ⟨w.heap.size + 1, 2, none⟩ = _); have o3 := (blk_cell HB2.snd 3 : w2.cell? ⟨w.heap.size + 1, 3, none⟩ = _); have o4 := (blk_cell HB2.snd 4 : w2.cell? ⟨w.heap.size + 1, 4, none⟩ = _); have o5 := (blk_cell HB2.snd 5 : w2.cell? ⟨w.heap.size + 1, 5, none⟩ = _); have o6 := (blk_cell HB2.snd 6 : w2.cell? ⟨w.heap.size + 1, 6, none⟩ = _); have o7 := (blk_cell HB2.snd 7 : w2.cell? ⟨w.heap.size + 1, 7, none⟩ = _))) | (go_at_call 29; go_loud (refine (HROW.out _ (Kd.C_below HA.out HB2.below) (Kd.C_below HR.out HB2.below)).mono ?_; rintro e w3 ⟨v, rfl, hRR, hB3⟩; obtain ⟨A1, c1, rfl⟩ := Kd.R_slice hRR; have HB3 := HB2.on hB3; clear hB3 HB2; clear x0 x1 x2 x3 o0 o1 o2 o3 o4 o5 o6 o7; have HRR := Aside0.mk hRR; clear hRR; skip)))
  have HG := Aside0.mk HB3.big
  have HCR := Aside0.mk (Kd.R_reads' HRR.out).2.1
  have HKF : Aside0 (Kd.F k24 (w3.alloc (.cells #[.int .i64 r.f0, .string r.f1, .int .i64 r.f2, .slice A1 r.f3.length c1] 24)) (fun k => k ≠ w3.heap.size) A1 r.f3.length r.f3) := ⟨Kd.F_mono (Kd.F_alloc (Kd.F_bound (Kd.R_F HRR.out)) _) (fun k hk => by have := hk.2; omega)⟩
  have HRB4 := Aside0.mk (heap_alloc_new w3 (.cells #[.int .i64 r.f0, .string r.f1, .int .i64 r.f2, .slice A1 r.f3.length c1] 24))
  have HB4 := HB3.alloc (.cells #[.int .i64 r.f0, .string r.f1, .int .i64 r.f2, .slice A1 r.f3.length c1] 24)
  clear HB3 HRR
  refine start_ (n := 18) (S := fun w' => w'.cell? ⟨w.heap.size + 1, 0, none⟩ = some (.int .i64 o.f0) ∧ w'.cell? ⟨w.heap.size + 1, 1, none⟩ = some (.slice AR o.f1.length cR) ∧ w'.cell? ⟨w.heap.size + 1, 2, none⟩ = some (.int .i64 o.f2) ∧ w'.cell? ⟨w.heap.size + 1, 3, none⟩ = some (.int .i64 o.f3) ∧ w'.cell? ⟨w.heap.size + 1, 4, none⟩ = some (.slice AN o.f4.length cN) ∧ w'.cell? ⟨w.heap.size + 1, 5, none⟩ = some (.int .i64 o.f5) ∧ w'.cell? ⟨w.heap.size + 1, 6, none⟩ = some (.string o.f6) ∧ w'.cell? ⟨w.heap.size + 1, 7, none⟩ = some (.string o.f7)) (ds := []) #[false, false, false, false, false, false, false, false, false, false, false, false, false, false, false, false, false, false] (by kernel_rfl) rfl rfl ⟨blk_cell HB4.drew.snd 0, blk_cell HB4.drew.snd 1, blk_cell HB4.drew.snd 2, blk_cell HB4.drew.snd 3, blk_cell HB4.drew.snd 4, blk_cell HB4.drew.snd 5, blk_cell HB4.drew.snd 6, blk_cell HB4.drew.snd 7⟩ (fun hHeld => ?_); refine with_tabW apply9.tab apply9.bits (fun HT_ HW_ => ?_)
  have HB5 := HB4.drew
  have HRB5 : Aside0 ((w3.alloc (.cells #[.int .i64 r.f0, .string r.f1, .int .i64 r.f2, .slice A1 r.f3.length c1] 24)).drew.heap[w3.heap.size]? = some (.cells #[.int .i64 r.f0, .string r.f1, .int .i64 r.f2, .slice A1 r.f3.length c1] 24)) := ⟨HRB4.out⟩
  have HKF5 := Aside0.mk (Kd.F_drew HKF.out)
  clear HB4 HRB4 HKF
  generalize (w3.alloc (.cells #[.int .i64 r.f0, .string r.f1, .int .i64 r.f2, .slice A1 r.f3.length c1] 24)).drew = W5 at HB5 HRB5 HKF5 hHeld ⊢
  generalize w3.heap.size = g6 at HG HRB5 HKF5 ⊢
  refine pure_ (i := 0) (N := some 37) (v := ?_) (a' := ?_) #[true, false, false, false, false, false, false, false, false, false, false, false, false, false, false, false, false, false] rfl rfl (any_of HT_.out (by kernel_rfl)) (fun _ _ _ h => h) (Or.inl ⟨by rfl, ?_⟩) ?_ ?_
  rotate_left
  · intro w'
    go_simp
    with_reducible rfl
  rotate_left
  · simp only [Act.put, List.setIfInBounds_toArray, List.set_cons_zero, List.set_cons_succ, i64_w, i32_w]
    rfl
  refine take_ (i := 1) (N := some 38) (v := ?_) (a' := ?_) #[true, true, false, false, false, false, false, false, false, false, false, false, false, false, false, false, false, false] rfl rfl (take_ofW HT_.out HW_.out (by kernel_rfl)) (fun _ _ _ h => h) (Or.inl ⟨by rfl, ?_⟩) hHeld ?_ ?_
  rotate_left
  · rintro w' ⟨s0, s1, s2, s3, s4, s5, s6, s7⟩
    go_simp
    with_reducible rfl
  rotate_left
  · simp only [Act.put, List.setIfInBounds_toArray, List.set_cons_zero, List.set_cons_succ, i64_w, i32_w]
    rfl
  refine pure_ (i := 2) (N := some 39) (v := ?_) (a' := ?_) #[true, true, true, false, false, false, false, false, false, false, false, false, false, false, false, false, false, false] rfl rfl (any_of HT_.out (by kernel_rfl)) (fun _ _ _ h => h) (Or.inl ⟨by rfl, ?_⟩) ?_ ?_
  rotate_left
  · intro w'
    go_simp
    with_reducible rfl
  rotate_left
  · simp only [Act.put, List.setIfInBounds_toArray, List.set_cons_zero, List.set_cons_succ, i64_w, i32_w]
    rfl
  refine pure_ (i := 3) (N := some 40) (v := ?_) (a' := ?_) #[true, true, true, true, false, false, false, false, false, false, false, false, false, false, false, false, false, false] rfl rfl (any_of HT_.out (by kernel_rfl)) (fun _ _ _ h => h) (Or.inl ⟨by rfl, ?_⟩) ?_ ?_
  rotate_left
  · intro w'
    go_simp
    with_reducible rfl
  rotate_left
  · simp only [Act.put, List.setIfInBounds_toArray, List.set_cons_zero, List.set_cons_succ, i64_w, i32_w]
    rfl
  refine pure_ (i := 4) (N := some 41) (v := ?_) (a' := ?_) #[true, true, true, true, true, false, false, false, false, false, false, false, false, false, false, false, false, false] rfl rfl (any_of HT_.out (by kernel_rfl)) (fun _ _ _ h => h) (Or.inl ⟨by rfl, ?_⟩) ?_ ?_
  rotate_left
  · intro w'
    go_simp
    with_reducible rfl
  rotate_left
  · simp only [Act.put, List.setIfInBounds_toArray, List.set_cons_zero, List.set_cons_succ, i64_w, i32_w]
    rfl
  refine take_ (i := 5) (N := some 42) (v := ?_) (a' := ?_) #[true, true, true, true, true, true, false, false, false, false, false, false, false, false, false, false, false, false] rfl rfl (take_ofW HT_.out HW_.out (by kernel_rfl)) (fun _ _ _ h => h) (Or.inl ⟨by rfl, ?_⟩) hHeld ?_ ?_
  rotate_left
  · rintro w' ⟨s0, s1, s2, s3, s4, s5, s6, s7⟩
    go_simp
    with_reducible rfl
  rotate_left
  · simp only [Act.put, List.setIfInBounds_toArray, List.set_cons_zero, List.set_cons_succ, i64_w, i32_w]
    rfl
  refine pure_ (i := 6) (N := some 43) (v := ?_) (a' := ?_) #[true, true, true, true, true, true, true, false, false, false, false, false, false, false, false, false, false, false] rfl rfl (any_of HT_.out (by kernel_rfl)) (fun _ _ _ h => h) (Or.inl ⟨by rfl, ?_⟩) ?_ ?_
  rotate_left
  · intro w'
    go_simp
    with_reducible rfl
  rotate_left
  · simp only [Act.put, List.setIfInBounds_toArray, List.set_cons_zero, List.set_cons_succ, i64_w, i32_w]
    rfl
  refine pure_ (i := 7) (N := some 44) (v := ?_) (a' := ?_) #[true, true, true, true, true, true, true, true, false, false, false, false, false, false, false, false, false, false] rfl rfl (any_of HT_.out (by kernel_rfl)) (fun _ _ _ h => h) (Or.inl ⟨by rfl, ?_⟩) ?_ ?_
  rotate_left
  · intro w'
    go_simp
    with_reducible rfl
  rotate_left
  · simp only [Act.put, List.setIfInBounds_toArray, List.set_cons_zero, List.set_cons_succ, i64_w, i32_w]
    rfl
  refine pure_ (i := 8) (N := some 45) (v := ?_) (a' := ?_) #[true, true, true, true, true, true, true, true, true, false, false, false, false, false, false, false, false, false] rfl rfl (any_of HT_.out (by kernel_rfl)) (fun _ _ _ h => h) (Or.inl ⟨by rfl, ?_⟩) ?_ ?_
  rotate_left
  · intro w'
    go_simp
    with_reducible rfl
  rotate_left
  · simp only [Act.put, List.setIfInBounds_toArray, List.set_cons_zero, List.set_cons_succ, i64_w, i32_w]
    rfl
  refine pure_ (i := 9) (N := some 46) (v := ?_) (a' := ?_) #[true, true, true, true, true, true, true, true, true, true, false, false, false, false, false, false, false, false] rfl rfl (any_of HT_.out (by kernel_rfl)) (fun _ _ _ h => h) (Or.inl ⟨by rfl, ?_⟩) ?_ ?_
  rotate_left
  · intro w'
    go_simp
    with_reducible rfl
  rotate_left
  · simp only [Act.put, List.setIfInBounds_toArray, List.set_cons_zero, List.set_cons_succ, i64_w, i32_w]
    rfl
  refine take_ (i := 10) (N := some 47) (v := ?_) (a' := ?_) #[true, true, true, true, true, true, true, true, true, true, true, false, false, false, false, false, false, false] rfl rfl (take_ofW HT_.out HW_.out (by kernel_rfl)) (fun _ _ _ h => h) (Or.inl ⟨by rfl, ?_⟩) hHeld ?_ ?_
  rotate_left
  · rintro w' ⟨s0, s1, s2, s3, s4, s5, s6, s7⟩
    go_simp
    with_reducible rfl
  rotate_left
  · simp only [Act.put, List.setIfInBounds_toArray, List.set_cons_zero, List.set_cons_succ, i64_w, i32_w]
    rfl
  refine pure_ (i := 12) (N := some 49) (v := ?_) (a' := ?_) #[true, true, true, true, true, true, true, true, true, true, true, false, true, false, false, false, false, false] rfl rfl (any_of HT_.out (by kernel_rfl)) (fun _ _ _ h => h) (Or.inl ⟨by rfl, ?_⟩) ?_ ?_
  rotate_left
  · intro w'
    go_simp
    with_reducible rfl
  rotate_left
  · simp only [Act.put, List.setIfInBounds_toArray, List.set_cons_zero, List.set_cons_succ, i64_w, i32_w]
    rfl
  refine pure_ (i := 13) (N := some 50) (v := ?_) (a' := ?_) #[true, true, true, true, true, true, true, true, true, true, true, false, true, true, false, false, false, false] rfl rfl (any_of HT_.out (by kernel_rfl)) (fun _ _ _ h => h) (Or.inl ⟨by rfl, ?_⟩) ?_ ?_
  rotate_left
  · intro w'
    go_simp
    with_reducible rfl
  rotate_left
  · simp only [Act.put, List.setIfInBounds_toArray, List.set_cons_zero, List.set_cons_succ, i64_w, i32_w]
    rfl
  refine take_ (i := 14) (N := some 51) (v := ?_) (a' := ?_) #[true, true, true, true, true, true, true, true, true, true, true, false, true, true, true, false, false, false] rfl rfl (take_ofW HT_.out HW_.out (by kernel_rfl)) (fun _ _ _ h => h) (Or.inl ⟨by rfl, ?_⟩) hHeld ?_ ?_
  rotate_left
  · rintro w' ⟨s0, s1, s2, s3, s4, s5, s6, s7⟩
    go_simp
    with_reducible rfl
  rotate_left
  · simp only [Act.put, List.setIfInBounds_toArray, List.set_cons_zero, List.set_cons_succ, i64_w, i32_w]
    rfl
  refine pure_ (i := 15) (N := some 52) (v := ?_) (a' := ?_) #[true, true, true, true, true, true, true, true, true, true, true, false, true, true, true, true, false, false] rfl rfl (any_of HT_.out (by kernel_rfl)) (fun _ _ _ h => h) (Or.inl ⟨by rfl, ?_⟩) ?_ ?_
  rotate_left
  · intro w'
    go_simp
    with_reducible rfl
  rotate_left
  · simp only [Act.put, List.setIfInBounds_toArray, List.set_cons_zero, List.set_cons_succ, i64_w, i32_w]
    rfl
  refine one_ (i := 11) (N := some 48) #[true, true, true, true, true, true, true, true, true, true, true, true, true, true, true, true, false, false] rfl rfl (one_of HT_.out (by kernel_rfl)) (by decide) (fun K hK => ?_)
  refine goes_ Tryd.func30 (by kernel_rfl) rfl #[.agg #[.int .i64 o.f0, .slice AR o.f1.length cR, .int .i64 o.f2, .int .i64 o.f3, .slice AN o.f4.length cN, .int .i64 o.f5, .string o.f6, .string o.f7]] (by rfl) rfl rfl (by (try simp only [List.map_toArray, List.map_cons, List.map_nil]); first | done | rfl | (simp only [List.length_drop, List.length_take]; rfl)) ?_
  refine (HNEED.out _ (Kd.C_below HR.out HB5.below) (Kd.C_below HN.out HB5.below)).mono ?_
  rintro e w6 ⟨rfl, hb⟩
  have HB6 := HB5.on hb
  have HRB6 := Aside0.mk (blk_on HRB5.out hb)
  have HKF6 := Aside0.mk (Kd.F_below HKF5.out hb)
  clear hb HB5 HRB5 HKF5 hHeld
  refine ⟨_, rfl, ?_⟩
  refine hK.out _ _ ⟨blk_cell HB6.snd 0, blk_cell HB6.snd 1, blk_cell HB6.snd 2, blk_cell HB6.snd 3, blk_cell HB6.snd 4, blk_cell HB6.snd 5, blk_cell HB6.snd 6, blk_cell HB6.snd 7⟩ (fun hHeld => ?_)
  clear hK K
  refine norm_ (a' := ?_) ?_ ?_
  rotate_left
  · show Act.put _ (some 48) _ = _
    simp only [Act.put, List.setIfInBounds_toArray, List.set_cons_zero, List.set_cons_succ, i64_w, i32_w]
    rfl
  refine pure_ (i := 16) (N := some 53) (v := ?_) (a' := ?_) #[true, true, true, true, true, true, true, true, true, true, true, true, true, true, true, true, true, false] rfl rfl (any_of HT_.out (by kernel_rfl)) (fun _ _ _ h => h) (Or.inl ⟨by rfl, ?_⟩) ?_ ?_
  rotate_left
  · intro w'
    go_simp
    with_reducible rfl
  rotate_left
  · simp only [Act.put, List.setIfInBounds_toArray, List.set_cons_zero, List.set_cons_succ, i64_w, i32_w]
    rfl
  refine pure_ (i := 17) (N := some 54) (v := ?_) (a' := ?_) #[true, true, true, true, true, true, true, true, true, true, true, true, true, true, true, true, true, true] rfl rfl (any_of HT_.out (by kernel_rfl)) (fun _ _ _ h => h) (Or.inl ⟨by rfl, ?_⟩) ?_ ?_
  rotate_left
  · intro w'
    go_simp
    with_reducible rfl
  rotate_left
  · simp only [Act.put, List.setIfInBounds_toArray, List.set_cons_zero, List.set_cons_succ, i64_w, i32_w]
    rfl
  refine done_ (done_of HT_.out (by kernel_rfl)) ?_
  try go_wp2
  refine start_ (n := 6) (S := fun w' => w'.cell? ⟨w.heap.size + 1, 0, none⟩ = some (.int .i64 o.f0) ∧ w'.cell? ⟨w.heap.size + 1, 1, none⟩ = some (.slice AR o.f1.length cR) ∧ w'.cell? ⟨w.heap.size + 1, 2, none⟩ = some (.int .i64 o.f2) ∧ w'.cell? ⟨w.heap.size + 1, 3, none⟩ = some (.int .i64 o.f3) ∧ w'.cell? ⟨w.heap.size + 1, 4, none⟩ = some (.slice AN o.f4.length cN) ∧ w'.cell? ⟨w.heap.size + 1, 5, none⟩ = some (.int .i64 o.f5) ∧ w'.cell? ⟨w.heap.size + 1, 6, none⟩ = some (.string o.f6) ∧ w'.cell? ⟨w.heap.size + 1, 7, none⟩ = some (.string o.f7)) (ds := []) #[false, false, false, false, false, false] (by kernel_rfl) rfl rfl ⟨blk_cell HB6.drew.snd 0, blk_cell HB6.drew.snd 1, blk_cell HB6.drew.snd 2, blk_cell HB6.drew.snd 3, blk_cell HB6.drew.snd 4, blk_cell HB6.drew.snd 5, blk_cell HB6.drew.snd 6, blk_cell HB6.drew.snd 7⟩ (fun hHeld => ?_); refine with_tabW apply11.tab apply11.bits (fun HT_ HW_ => ?_)
  have HB7 := HB6.drew
  have HRB7 : Aside0 (w6.drew.heap[g6]? = _) := ⟨HRB6.out⟩
  have HKF7 := Aside0.mk (Kd.F_drew HKF6.out)
  clear HB6 HRB6 HKF6
  generalize w6.drew = w7 at HB7 HRB7 HKF7 hHeld ⊢
  refine pure_ (i := 0) (N := some 56) (v := ?_) (a' := ?_) #[true, false, false, false, false, false] rfl rfl (any_of HT_.out (by kernel_rfl)) (fun _ _ _ h => h) (Or.inl ⟨by rfl, ?_⟩) ?_ ?_
  rotate_left
  · intro w'
    go_simp
    with_reducible rfl
  rotate_left
  · simp only [Act.put, List.setIfInBounds_toArray, List.set_cons_zero, List.set_cons_succ, i64_w, i32_w]
    rfl
  refine take_ (i := 1) (N := some 57) (v := ?_) (a' := ?_) #[true, true, false, false, false, false] rfl rfl (take_ofW HT_.out HW_.out (by kernel_rfl)) (fun _ _ _ h => h) (Or.inl ⟨by rfl, ?_⟩) hHeld ?_ ?_
  rotate_left
  · rintro w' ⟨s0, s1, s2, s3, s4, s5, s6, s7⟩
    go_simp
    with_reducible rfl
  rotate_left
  · simp only [Act.put, List.setIfInBounds_toArray, List.set_cons_zero, List.set_cons_succ, i64_w, i32_w]
    rfl
  refine take_ (i := 2) (N := some 58) (v := ?_) (a' := ?_) #[true, true, true, false, false, false] rfl rfl (take_ofW HT_.out HW_.out (by kernel_rfl)) (fun _ _ _ h => h) (Or.inl ⟨by rfl, ?_⟩) hHeld ?_ ?_
  rotate_left
  · rintro w' ⟨s0, s1, s2, s3, s4, s5, s6, s7⟩
    go_simp
    with_reducible rfl
  rotate_left
  · simp only [Act.put, List.setIfInBounds_toArray, List.set_cons_zero, List.set_cons_succ, i64_w, i32_w]
    rfl
  refine one_ (i := 3) (N := some 59) #[true, true, true, true, false, false] rfl rfl (one_of HT_.out (by kernel_rfl)) (by decide) (fun K hK => ?_)
  refine goes_ Tryd.func30 (by kernel_rfl) rfl #[.agg #[.int .i64 o.f0, .slice AR o.f1.length cR, .int .i64 o.f2, .int .i64 o.f3, .slice AN o.f4.length cN, .int .i64 o.f5, .string o.f6, .string o.f7]] (by rfl) rfl rfl (by (try simp only [List.map_toArray, List.map_cons, List.map_nil]); first | done | rfl | (simp only [List.length_drop, List.length_take]; rfl)) ?_
  refine (HNEED.out _ (Kd.C_below HR.out HB7.below) (Kd.C_below HN.out HB7.below)).mono ?_
  rintro e w8 ⟨rfl, hb⟩
  have HB8 := HB7.on hb
  have HRB8 := Aside0.mk (blk_on HRB7.out hb)
  have HKF8 := Aside0.mk (Kd.F_below HKF7.out hb)
  clear hb HB7 HRB7 HKF7 hHeld
  refine ⟨_, rfl, ?_⟩
  refine hK.out _ _ ⟨blk_cell HB8.snd 0, blk_cell HB8.snd 1, blk_cell HB8.snd 2, blk_cell HB8.snd 3, blk_cell HB8.snd 4, blk_cell HB8.snd 5, blk_cell HB8.snd 6, blk_cell HB8.snd 7⟩ (fun hHeld => ?_)
  clear hK K
  refine norm_ (a' := ?_) ?_ ?_
  rotate_left
  · show Act.put _ (some 59) _ = _
    simp only [Act.put, List.setIfInBounds_toArray, List.set_cons_zero, List.set_cons_succ, i64_w, i32_w]
    rfl
  refine pure_ (i := 4) (N := some 60) (v := ?_) (a' := ?_) #[true, true, true, true, true, false] rfl rfl (any_of HT_.out (by kernel_rfl)) (fun _ _ _ h => h) (Or.inl ⟨by rfl, ?_⟩) ?_ ?_
  rotate_left
  · intro w'
    go_simp
    with_reducible rfl
  rotate_left
  · simp only [Act.put, List.setIfInBounds_toArray, List.set_cons_zero, List.set_cons_succ, i64_w, i32_w]
    rfl
  refine pure_ (i := 5) (N := some 9) (v := ?_) (a' := ?_) #[true, true, true, true, true, true] rfl rfl (any_of HT_.out (by kernel_rfl)) (fun _ _ _ h => h) (Or.inl ⟨by rfl, ?_⟩) ?_ ?_
  rotate_left
  · intro w'
    go_simp
    with_reducible rfl
  rotate_left
  · simp only [Act.put, List.setIfInBounds_toArray, List.set_cons_zero, List.set_cons_succ, i64_w, i32_w]
    rfl
  refine done_ (done_of HT_.out (by kernel_rfl)) ?_
  try go_wp2
  obtain ⟨ii, hii, _, hsz, _⟩ := info_parts infoN
  have hcut := cut_mid (P := Tryd.prog) 22 24 .i64 .i64 Tryd.underlying22 hii 4 hsz A1 r.f3.length c1 o.f2 en h0 h1 h2 HCR.out
  have hlo : old.length = en.toNat - o.f2.toNat := by rw [← Hold.out, List.length_drop, List.length_take]; omega
  have hro := Kd.F_mid (lo := o.f2.toNat) (hi := en.toNat) (c := c1) HKF8.out (by omega) (by omega) HCR.out
  rw [Hold.out] at hro
  obtain ⟨A2, hA2⟩ : ∃ A2, A2 = (if c1 = o.f2.toNat then A1 else A1.map (·.add (o.f2.toNat * 4))) := ⟨_, rfl⟩
  obtain ⟨c2, hc2⟩ : ∃ c2, c2 = c1 - o.f2.toNat := ⟨_, rfl⟩
  replace hro : Kd.F k24 w8 (fun k => k ≠ g6) A2 old.length old := by rw [hA2]; exact hro
  rw [← hlo, ← hA2, ← hc2] at hcut
  have hle2 : Aside0 (old.length ≤ c2) := ⟨by have := HCR.out; rw [hlo, hc2]; omega⟩
  have HO8 := Aside0.mk hro
  clear hro hA2 hc2 hlo hii hsz
  refine start_ (n := 14) (S := fun w' => w'.cell? ⟨w.heap.size + 1, 0, none⟩ = some (.int .i64 o.f0) ∧ w'.cell? ⟨w.heap.size + 1, 1, none⟩ = some (.slice AR o.f1.length cR) ∧ w'.cell? ⟨w.heap.size + 1, 2, none⟩ = some (.int .i64 o.f2) ∧ w'.cell? ⟨w.heap.size + 1, 3, none⟩ = some (.int .i64 o.f3) ∧ w'.cell? ⟨w.heap.size + 1, 4, none⟩ = some (.slice AN o.f4.length cN) ∧ w'.cell? ⟨w.heap.size + 1, 5, none⟩ = some (.int .i64 o.f5) ∧ w'.cell? ⟨w.heap.size + 1, 6, none⟩ = some (.string o.f6) ∧ w'.cell? ⟨w.heap.size + 1, 7, none⟩ = some (.string o.f7) ∧ w'.cell? ⟨g6, 0, none⟩ = some (.int .i64 r.f0) ∧ w'.cell? ⟨g6, 1, none⟩ = some (.string r.f1) ∧ w'.cell? ⟨g6, 2, none⟩ = some (.int .i64 r.f2) ∧ w'.cell? ⟨g6, 3, none⟩ = some (.slice A1 r.f3.length c1)) (ds := []) #[false, false, false, false, false, false, false, false, false, false, false, false, false, false] (by kernel_rfl) rfl rfl ⟨blk_cell HB8.drew.snd 0, blk_cell HB8.drew.snd 1, blk_cell HB8.drew.snd 2, blk_cell HB8.drew.snd 3, blk_cell HB8.drew.snd 4, blk_cell HB8.drew.snd 5, blk_cell HB8.drew.snd 6, blk_cell HB8.drew.snd 7, blk_cell HRB8.out 0, blk_cell HRB8.out 1, blk_cell HRB8.out 2, blk_cell HRB8.out 3⟩ (fun hHeld => ?_); refine with_tabW apply12.tab apply12.bits (fun HT_ HW_ => ?_)
  have HB9 := HB8.drew
  have HRB9 : Aside0 (w8.drew.heap[g6]? = _) := ⟨HRB8.out⟩
  have HKF9 := Aside0.mk (Kd.F_drew HKF8.out)
  have HO9 := Aside0.mk (Kd.F_drew HO8.out)
  clear HB8 HRB8 HKF8 HO8
  generalize w8.drew = w9 at HB9 HRB9 HKF9 HO9 hHeld ⊢
  refine pure_ (i := 2) (N := some 64) (v := ?_) (a' := ?_) #[false, false, true, false, false, false, false, false, false, false, false, false, false, false] rfl rfl (any_of HT_.out (by kernel_rfl)) (fun _ _ _ h => h) (Or.inl ⟨by rfl, ?_⟩) ?_ ?_
  rotate_left
  · intro w'
    go_simp
    with_reducible rfl
  rotate_left
  · simp only [Act.put, List.setIfInBounds_toArray, List.set_cons_zero, List.set_cons_succ, i64_w, i32_w]
    rfl
  refine pure_ (i := 4) (N := some 66) (v := ?_) (a' := ?_) #[false, false, true, false, true, false, false, false, false, false, false, false, false, false] rfl rfl (any_of HT_.out (by kernel_rfl)) (fun _ _ _ h => h) (Or.inl ⟨by rfl, ?_⟩) ?_ ?_
  rotate_left
  · intro w'
    go_simp
    with_reducible rfl
  rotate_left
  · simp only [Act.put, List.setIfInBounds_toArray, List.set_cons_zero, List.set_cons_succ, i64_w, i32_w]
    rfl
  refine pure_ (i := 6) (N := some 68) (v := ?_) (a' := ?_) #[false, false, true, false, true, false, true, false, false, false, false, false, false, false] rfl rfl (any_of HT_.out (by kernel_rfl)) (fun _ _ _ h => h) (Or.inl ⟨by rfl, ?_⟩) ?_ ?_
  rotate_left
  · intro w'
    go_simp
    with_reducible rfl
  rotate_left
  · simp only [Act.put, List.setIfInBounds_toArray, List.set_cons_zero, List.set_cons_succ, i64_w, i32_w]
    rfl
  refine take_ (i := 0) (N := some 62) (v := ?_) (a' := ?_) #[true, false, true, false, true, false, true, false, false, false, false, false, false, false] rfl rfl (take_ofW HT_.out HW_.out (by kernel_rfl)) (fun _ _ _ h => h) (Or.inl ⟨by rfl, ?_⟩) hHeld ?_ ?_
  rotate_left
  · rintro w' ⟨s0, s1, s2, s3, s4, s5, s6, s7, s8, s9, s10, s11⟩
    go_simp
    with_reducible rfl
  rotate_left
  · simp only [Act.put, List.setIfInBounds_toArray, List.set_cons_zero, List.set_cons_succ, i64_w, i32_w]
    rfl
  refine take_ (i := 3) (N := some 65) (v := ?_) (a' := ?_) #[true, false, true, true, true, false, true, false, false, false, false, false, false, false] rfl rfl (take_ofW HT_.out HW_.out (by kernel_rfl)) (fun _ _ _ h => h) (Or.inl ⟨by rfl, ?_⟩) hHeld ?_ ?_
  rotate_left
  · rintro w' ⟨s0, s1, s2, s3, s4, s5, s6, s7, s8, s9, s10, s11⟩
    go_simp
    with_reducible rfl
  rotate_left
  · simp only [Act.put, List.setIfInBounds_toArray, List.set_cons_zero, List.set_cons_succ, i64_w, i32_w]
    rfl
  refine take_ (i := 5) (N := some 67) (v := ?_) (a' := ?_) #[true, false, true, true, true, true, true, false, false, false, false, false, false, false] rfl rfl (take_ofW HT_.out HW_.out (by kernel_rfl)) (fun _ _ _ h => h) (Or.inl ⟨by rfl, ?_⟩) hHeld ?_ ?_
  rotate_left
  · rintro w' ⟨s0, s1, s2, s3, s4, s5, s6, s7, s8, s9, s10, s11⟩
    go_simp
    with_reducible rfl
  rotate_left
  · simp only [Act.put, List.setIfInBounds_toArray, List.set_cons_zero, List.set_cons_succ, i64_w, i32_w]
    rfl
  refine pure_ (i := 7) (N := some 69) (v := ?_) (a' := ?_) #[true, false, true, true, true, true, true, true, false, false, false, false, false, false] rfl rfl (any_of HT_.out (by kernel_rfl)) (fun _ _ _ h => h) (Or.inl ⟨by rfl, ?_⟩) ?_ ?_
  rotate_left
  · intro w'
    go_simp
    with_reducible rfl
  rotate_left
  · simp only [Act.put, List.setIfInBounds_toArray, List.set_cons_zero, List.set_cons_succ, i64_w, i32_w]
    rfl
  refine one_ (i := 1) (N := some 63) #[true, true, true, true, true, true, true, true, false, false, false, false, false, false] rfl rfl (one_of HT_.out (by kernel_rfl)) (by decide) (fun K hK => ?_)
  refine goes_ Tryd.func32 (by kernel_rfl) rfl #[.agg #[.int .i64 o.f0, .slice AR o.f1.length cR, .int .i64 o.f2, .int .i64 o.f3, .slice AN o.f4.length cN, .int .i64 o.f5, .string o.f6, .string o.f7]] (by rfl) rfl rfl (by (try simp only [List.map_toArray, List.map_cons, List.map_nil]); first | done | rfl | (simp only [List.length_drop, List.length_take]; rfl)) ?_
  refine (HCOPY.out (fun k => k ≠ g6) _ (Kd.C_below HR.out HB9.below) (Kd.F_mono (Kd.F_below (Kd.C_F k24_heap HN.out) HB9.below) (fun k hk => by have := HG.out; omega))).mono ?_
  rintro e w10 ⟨v1, v4, rfl, hR1, hN4, hb⟩
  obtain ⟨AR2, cR2, rfl⟩ := Kd.R_slice hR1
  obtain ⟨AN2, cN2, rfl⟩ := Kd.N_slice hN4
  have HGL := blk_lt HRB9.out
  have HCN := Aside0.mk (Kd.N_reads' hN4).2.1
  have HN10 : Aside0 (Kd.F k24 w10 (fun k => k ≠ g6) AN2 o.f4.length o.f4) := ⟨Kd.F_mono (Kd.N_F hN4) (fun k hk => by rcases hk.1 with h | h; exact h; omega)⟩
  have HO10 := Aside0.mk (Kd.F_below HO9.out hb)
  have HB10 := HB9.on hb
  have HRB10 := Aside0.mk (blk_on HRB9.out hb)
  have HKF10 := Aside0.mk (Kd.F_below HKF9.out hb)
  clear hb hN4 hR1 HGL HB9 HRB9 HKF9 HO9 hHeld
  refine ⟨_, rfl, ?_⟩
  refine hK.out _ _ ⟨blk_cell HB10.snd 0, blk_cell HB10.snd 1, blk_cell HB10.snd 2, blk_cell HB10.snd 3, blk_cell HB10.snd 4, blk_cell HB10.snd 5, blk_cell HB10.snd 6, blk_cell HB10.snd 7, blk_cell HRB10.out 0, blk_cell HRB10.out 1, blk_cell HRB10.out 2, blk_cell HRB10.out 3⟩ (fun hHeld => ?_)
  clear hK K
  refine norm_ (a' := ?_) ?_ ?_
  rotate_left
  · show Act.put _ (some 63) _ = _
    simp only [Act.put, List.setIfInBounds_toArray, List.set_cons_zero, List.set_cons_succ, i64_w, i32_w]
    rfl
  refine one_ (i := 8) (N := some 70) #[true, true, true, true, true, true, true, true, true, false, false, false, false, false] rfl rfl (one_of HT_.out (by kernel_rfl)) (by decide) (fun K hK => ?_)
  refine goes_ Tryd.func31 (by kernel_rfl) rfl #[.agg #[.int .i64 o.f0, .slice AR2 o.f1.length cR2, .int .i64 o.f2, .int .i64 o.f3, .slice AN2 o.f4.length cN2, .int .i64 o.f5, .string o.f6, .string o.f7], .slice A2 old.length c2] (by rfl) rfl rfl (by (try simp only [List.map_toArray, List.map_cons, List.map_nil]); first | done | rfl | (simp only [List.length_drop, List.length_take]; rfl)) ?_
  refine (HCH.out A2 AR2 AN2 c2 cR2 cN2 (fun k => k ≠ g6) _ hle2.out HCN.out HO10.out HN10.out).mono ?_
  rintro e w11 ⟨A3, c3, rfl, hl3, hF3, hb⟩
  have HGL := blk_lt HRB10.out
  have HC11 : Aside0 (Kd.F k24 w11 (fun k => k ≠ g6) A3 ch.length ch) := ⟨Kd.F_mono hF3 (fun k hk => by rcases hk with h | h; exact h; omega)⟩
  have HL3 := Aside0.mk hl3
  have HB11 := HB10.on hb
  have HRB11 := Aside0.mk (blk_on HRB10.out hb)
  have HKF11 := Aside0.mk (Kd.F_below HKF10.out hb)
  clear hb hF3 hl3 HGL HB10 HRB10 HKF10 HO10 HN10 hHeld
  refine ⟨_, rfl, ?_⟩
  refine hK.out _ _ ⟨blk_cell HB11.snd 0, blk_cell HB11.snd 1, blk_cell HB11.snd 2, blk_cell HB11.snd 3, blk_cell HB11.snd 4, blk_cell HB11.snd 5, blk_cell HB11.snd 6, blk_cell HB11.snd 7, blk_cell HRB11.out 0, blk_cell HRB11.out 1, blk_cell HRB11.out 2, blk_cell HRB11.out 3⟩ (fun hHeld => ?_)
  clear hK K
  refine norm_ (a' := ?_) ?_ ?_
  rotate_left
  · show Act.put _ (some 70) _ = _
    simp only [Act.put, List.setIfInBounds_toArray, List.set_cons_zero, List.set_cons_succ, i64_w, i32_w]
    rfl
  refine pure_ (i := 9) (N := some 61) (v := ?_) (a' := ?_) #[true, true, true, true, true, true, true, true, true, true, false, false, false, false] rfl rfl (any_of HT_.out (by kernel_rfl)) (fun _ _ _ h => h) (Or.inl ⟨by rfl, ?_⟩) ?_ ?_
  rotate_left
  · intro w'
    go_simp
    with_reducible rfl
  rotate_left
  · simp only [Act.put, List.setIfInBounds_toArray, List.set_cons_zero, List.set_cons_succ, i64_w, i32_w]
    rfl
  refine pure_ (i := 10) (N := some 71) (v := ?_) (a' := ?_) #[true, true, true, true, true, true, true, true, true, true, true, false, false, false] rfl rfl (any_of HT_.out (by kernel_rfl)) (fun _ _ _ h => h) (Or.inl ⟨by rfl, ?_⟩) ?_ ?_
  rotate_left
  · intro w'
    go_simp
    with_reducible rfl
  rotate_left
  · simp only [Act.put, List.setIfInBounds_toArray, List.set_cons_zero, List.set_cons_succ, i64_w, i32_w]
    rfl
  refine pure_ (i := 11) (N := some 72) (v := ?_) (a' := ?_) #[true, true, true, true, true, true, true, true, true, true, true, true, false, false] rfl rfl (any_of HT_.out (by kernel_rfl)) (fun _ _ _ h => h) (Or.inl ⟨by rfl, ?_⟩) ?_ ?_
  rotate_left
  · intro w'
    go_simp
    with_reducible rfl
  rotate_left
  · simp only [Act.put, List.setIfInBounds_toArray, List.set_cons_zero, List.set_cons_succ, i64_w, i32_w]
    rfl
  refine pure_ (i := 12) (N := some 10) (v := ?_) (a' := ?_) #[true, true, true, true, true, true, true, true, true, true, true, true, true, false] rfl rfl (any_of HT_.out (by kernel_rfl)) (fun _ _ _ h => h) (Or.inl ⟨by rfl, ?_⟩) ?_ ?_
  rotate_left
  · intro w'
    go_simp
    with_reducible rfl
  rotate_left
  · simp only [Act.put, List.setIfInBounds_toArray, List.set_cons_zero, List.set_cons_succ, i64_w, i32_w]
    rfl
  refine pure_ (i := 13) (N := some 11) (v := ?_) (a' := ?_) #[true, true, true, true, true, true, true, true, true, true, true, true, true, true] rfl rfl (any_of HT_.out (by kernel_rfl)) (fun _ _ _ h => h) (Or.inl ⟨by rfl, ?_⟩) ?_ ?_
  rotate_left
  · intro w'
    go_simp
    with_reducible rfl
  rotate_left
  · simp only [Act.put, List.setIfInBounds_toArray, List.set_cons_zero, List.set_cons_succ, i64_w, i32_w]
    rfl
  refine done_ (done_of HT_.out (by kernel_rfl)) ?_
  have z0 := (blk_cell HB11.trd 0 : w11.cell? ⟨w.heap.size + 1 + 1, 0, none⟩ = _)
  have z1 := (blk_cell HB11.trd 1 : w11.cell? ⟨w.heap.size + 1 + 1, 1, none⟩ = _)
  have z2 := (blk_cell HB11.trd 2 : w11.cell? ⟨w.heap.size + 1 + 1, 2, none⟩ = _)
  have z3 := (blk_cell HB11.trd 3 : w11.cell? ⟨w.heap.size + 1 + 1, 3, none⟩ = _)
  have y0 := (blk_frozen HB11.trd 0 : w11.frozen? ⟨w.heap.size + 1 + 1, 0, none⟩ = false)
  have y1 := (blk_frozen HB11.trd 1 : w11.frozen? ⟨w.heap.size + 1 + 1, 1, none⟩ = false)
  have y2 := (blk_frozen HB11.trd 2 : w11.frozen? ⟨w.heap.size + 1 + 1, 2, none⟩ = false)
  have y3 := (blk_frozen HB11.trd 3 : w11.frozen? ⟨w.heap.size + 1 + 1, 3, none⟩ = false)
  try go_wp2
  refine bodyPost_ret (results_ct rfl _ _ (w.heap.size + 1 + 1) 24 #[.int .i64 0, .string ⟨#[]⟩, .int .i64 0, .slice none 0 0] (0, 0) _ rfl (blk_put4 HB11.trd) Tryd.underlying24 rfl (by kernel_rfl)) rfl ?_
  exact ⟨rfl, below_set4 HB11.below (by omega)⟩
end Go.Proofs.YtgcpfelccfnnbaaDoor.X
