/-
Part 40 of the texts of this proof: the walks through the program's functions.
-/
import Derived.StillTailTactics
import Derived.Test.YtgcpfelccfnnbaaDoorMCounts2
import Derived.Test.YtgcpfelccfnnbaaDoorMCounts18
import Derived.Test.YtgcpfelccfnnbaaDoorMCounts33
import Derived.Test.YtgcpfelccfnnbaaDoorMCounts36
import Derived.Test.YtgcpfelccfnnbaaDoorMCounts37
import Derived.Test.YtgcpfelccfnnbaaDoorMCounts38
namespace Go.Proofs.YtgcpfelccfnnbaaDoor.X
open Go.RowKit Go.Proofs.YtgcpfelccfnnbaaDoorW.PrintWords Go.Proofs.YtgcpfelccfnnbaaDoorW.PrintLast Go.Proofs.YtgcpfelccfnnbaaDoorW.PrintMore
attribute [local go_sem] max2_int min2_int max_two min_two max_three min_three max_four min_four   -- for this text's walks alone
set_option linter.unusedVariables false
set_option linter.unusedSimpArgs false
set_option maxRecDepth 100000 in
set_option maxHeartbeats 4000000 in
theorem apply_ok (u : S24) (pre old post ch kids : List S24) (en : Int) (r : S24) (nn : Int) (x : S24) (o : S27) (A AR AN : Option Addr) (c cR cN : Nat) (w : World) (HA : Aside0 (Kd.C k24 w A x.f3.length x.f3)) (HR : Aside0 (Kd.C (Kd.int .i64) w AR o.f1.length o.f1)) (HN : Aside0 (Kd.C k24 w AN o.f4.length o.f4)) (HV : Aside0 (∀ W : World, Kd.C k24 W A x.f3.length x.f3 → Calls Tryd.prog 27 #[.agg #[.int .i64 x.f0, .string x.f1, .int .i64 x.f2, .slice A x.f3.length c]] W fun e w' => e = .returned (.bool true) ∧ Below W.heap.size W w')) (HF : Aside0 (∀ W : World, Kd.C (Kd.int .i64) W AR o.f1.length o.f1 → Kd.C k24 W AN o.f4.length o.f4 → Calls Tryd.prog 28 #[.agg #[.int .i64 o.f0, .slice AR o.f1.length cR, .int .i64 o.f2, .int .i64 o.f3, .slice AN o.f4.length cN, .int .i64 o.f5, .string o.f6, .string o.f7]] W fun e w' => e = .returned (.bool true) ∧ Below W.heap.size W w')) (HROW : Aside0 (∀ W : World, Kd.C k24 W A x.f3.length x.f3 → Kd.C (Kd.int .i64) W AR o.f1.length o.f1 → Calls Tryd.prog 29 #[.agg #[.int .i64 x.f0, .string x.f1, .int .i64 x.f2, .slice A x.f3.length c], .slice AR o.f1.length cR] W fun e w' => ∃ v : Value, e = .returned (.tuple #[.agg #[.int .i64 r.f0, .string r.f1, .int .i64 r.f2, v], .int .i64 0]) ∧ Kd.R k24 24 w' W.heap.size (fun _ => True) v r.f3 ∧ Below W.heap.size W w')) (HNEED : Aside0 (∀ W : World, Kd.C (Kd.int .i64) W AR o.f1.length o.f1 → Kd.C k24 W AN o.f4.length o.f4 → Calls Tryd.prog 30 #[.agg #[.int .i64 o.f0, .slice AR o.f1.length cR, .int .i64 o.f2, .int .i64 o.f3, .slice AN o.f4.length cN, .int .i64 o.f5, .string o.f6, .string o.f7]] W fun e w' => e = .returned (.int .i64 nn) ∧ Below W.heap.size W w')) (h39 : decide (o.f2 < 0) = false) (h44 : decide ((r.f3.length : Int) < o.f2) = false) (h53 : decide (wrap64 ((r.f3.length : Int) - o.f2) < nn) = false) (hen : wrap64 (o.f2 + nn) = en) (h0 : 0 ≤ o.f2) (h1 : o.f2 ≤ en) (h2 : en ≤ r.f3.length) (Hold : Aside0 ((r.f3.take en.toNat).drop o.f2.toNat = old)) (HCOPY : Aside0 (∀ (P : Nat → Prop) (W : World), Kd.C (Kd.int .i64) W AR o.f1.length o.f1 → Kd.F k24 W P AN o.f4.length o.f4 → Calls Tryd.prog 32 #[.agg #[.int .i64 o.f0, .slice AR o.f1.length cR, .int .i64 o.f2, .int .i64 o.f3, .slice AN o.f4.length cN, .int .i64 o.f5, .string o.f6, .string o.f7]] W fun e w' => ∃ v1 v4 : Value, e = .returned (.agg #[.int .i64 o.f0, v1, .int .i64 o.f2, .int .i64 o.f3, v4, .int .i64 o.f5, .string o.f6, .string o.f7]) ∧ (Kd.int .i64).R 3 w' W.heap.size (fun k => W.heap.size ≤ k) v1 o.f1 ∧ Kd.N k24 24 w' W.heap.size (fun k => (P k ∨ W.heap.size ≤ k) ∧ some k ≠ v1.ownBlock) v4 o.f4 ∧ Below W.heap.size W w')) (HCH : Aside0 (∀ (A2 AR2 AN2 : Option Addr) (c2 cR2 cN2 : Nat) (P : Nat → Prop) (W : World), old.length ≤ c2 → o.f4.length ≤ cN2 → Kd.F k24 W P A2 old.length old → Kd.F k24 W P AN2 o.f4.length o.f4 → Calls Tryd.prog 31 #[.agg #[.int .i64 o.f0, .slice AR2 o.f1.length cR2, .int .i64 o.f2, .int .i64 o.f3, .slice AN2 o.f4.length cN2, .int .i64 o.f5, .string o.f6, .string o.f7], .slice A2 old.length c2] W fun e w' => ∃ (A' : Option Addr) (c' : Nat), e = .returned (.tuple #[.slice A' ch.length c', .bool true]) ∧ ch.length ≤ c' ∧ Kd.F k24 w' (fun j => P j ∨ W.heap.size ≤ j) A' ch.length ch ∧ Below W.heap.size W w')) (Hpre : Aside0 (r.f3.take o.f2.toNat = pre)) (Hpost : Aside0 (r.f3.drop en.toNat = post)) (HCAT : Aside0 (∀ (A2 : Option Addr) (c2 : Nat) (P : Nat → Prop) (W : World), Kd.F (Kd.slice 24 k24) W P A2 3 [pre, ch, post] → Calls Tryd.prog 33 #[.slice A2 3 c2] W fun e w' => ∃ v : Value, e = .returned v ∧ Kd.N k24 24 w' W.heap.size (fun k => P k ∨ W.heap.size ≤ k) v kids ∧ Below W.heap.size W w')) (HWITH : Aside0 (∀ (A2 : Option Addr) (c2 : Nat) (W : World), kids.length ≤ c2 → Kd.C k24 W A x.f3.length x.f3 → Kd.C (Kd.int .i64) W AR o.f1.length o.f1 → Kd.C k24 W A2 kids.length kids → Calls Tryd.prog 34 #[.agg #[.int .i64 x.f0, .string x.f1, .int .i64 x.f2, .slice A x.f3.length c], .slice AR o.f1.length cR, .agg #[.int .i64 r.f0, .string r.f1, .int .i64 r.f2, .slice A2 kids.length c2]] W fun e w' => ∃ (A' : Option Addr) (c' : Nat), e = .returned (.tuple #[.agg #[.int .i64 u.f0, .string u.f1, .int .i64 u.f2, .slice A' u.f3.length c'], .int .i64 0]) ∧ u.f3.length ≤ c' ∧ Kd.F k24 w' (fun k => W.heap.size ≤ k) A' u.f3.length u.f3 ∧ Below W.heap.size W w')) :
    Calls Tryd.prog 11 #[.agg #[.int .i64 x.f0, .string x.f1, .int .i64 x.f2, .slice A x.f3.length c], .agg #[.int .i64 o.f0, .slice AR o.f1.length cR, .int .i64 o.f2, .int .i64 o.f3, .slice AN o.f4.length cN, .int .i64 o.f5, .string o.f6, .string o.f7]] w fun e w' => ∃ (A' : Option Addr) (c' : Nat), e = .returned (.tuple #[.agg #[.int .i64 u.f0, .string u.f1, .int .i64 u.f2, .slice A' u.f3.length c'], .int .i64 0]) ∧ u.f3.length ≤ c' ∧ Kd.F k24 w' (fun k => w.heap.size ≤ k) A' u.f3.length u.f3 ∧ Below w.heap.size w w' := by
  go_enter Tryd.func11, Tryd.ntmps11
  go_wp2_with (first | (go_at_call 27; go_loud (refine (HV.out _ (Kd.C_below HA.out (Boxes.new w _ _ _).below)).mono ?_; rintro e w1 ⟨rfl, hB1⟩; have HB1 := (Boxes.new w _ _ _).on hB1; clear hB1; have o0 := (blk_cell HB1.snd 0 : w1.cell? ⟨w.heap.size + 1, 0, none⟩ = _); have o1 := (blk_cell HB1.snd 1 : w1.cell? ⟨w.heap.size + 1, 1, none⟩ = _); have o2 := (blk_cell HB1.snd 2 : w1.cell? ⟨w.heap.size + 1, 2, none⟩ = _); have o3 := (blk_cell HB1.snd 3 : w1.cell? ⟨w.heap.size + 1, 3, none⟩ = _); have o4 := (blk_cell HB1.snd 4 : w1.cell? ⟨w.heap.size + 1, 4, none⟩ = _); have o5 := (blk_cell HB1.snd 5 : w1.cell? ⟨w.heap.size + 1, 5, none⟩ = _); have o6 := (blk_cell HB1.snd 6 : w1.cell? ⟨w.heap.size + 1, 6, none⟩ = _); have o7 := (blk_cell HB1.snd 7 : w1.cell? ⟨w.heap.size + 1, 7, none⟩ = _))) | (go_at_call 28; go_loud (refine (HF.out _ (Kd.C_below HR.out HB1.below) (Kd.C_below HN.out HB1.below)).mono ?_; rintro e w2 ⟨rfl, hB2⟩; have HB2 := HB1.on hB2; clear hB2 HB1; clear o0 o1 o2 o3 o4 o5 o6 o7; have x0 := (blk_cell HB2.fst 0 : w2.cell? ⟨w.heap.size, 0, none⟩ = _); have x1 := (blk_cell HB2.fst 1 : w2.cell? ⟨w.heap.size, 1, none⟩ = _); have x2 := (blk_cell HB2.fst 2 : w2.cell? ⟨w.heap.size, 2, none⟩ = _); have x3 := (blk_cell HB2.fst 3 : w2.cell? ⟨w.heap.size, 3, none⟩ = _); have o0 := (blk_cell HB2.snd 0 : w2.cell? ⟨w.heap.size + 1, 0, none⟩ = _); have o1 := (blk_cell HB2.snd 1 : w2.cell? ⟨w.heap.size + 1, 1, none⟩ = _); have o2 := (blk_cell HB2.snd 2 : w2.cell? ⟨w.heap.size + 1, 2, none⟩ = _); have o3 := (blk_cell HB2.snd 3 : w2.cell? ⟨w.heap.size + 1, 3, none⟩ = _); have o4 := (blk_cell HB2.snd 4 : w2.cell? ⟨w.heap.size + 1, 4, none⟩ = _); have o5 := (blk_cell HB2.snd 5 : w2.cell? ⟨w.heap.size + 1, 5, none⟩ = _); have o6 := (blk_cell HB2.snd 6 : w2.cell? ⟨w.heap.size + 1, 6, none⟩ = _); have o7 := (blk_cell HB2.snd 7 : w2.cell? ⟨w.heap.size + 1, 7, none⟩ = _))) | (go_at_call 29; go_loud (refine (HROW.out _ (Kd.C_below HA.out HB2.below) (Kd.C_below HR.out HB2.below)).mono ?_; rintro e w3 ⟨v, rfl, hRR, hB3⟩; obtain ⟨A1, c1, rfl⟩ := Kd.R_slice hRR; have HB3 := HB2.on hB3; clear hB3 HB2; clear x0 x1 x2 x3 o0 o1 o2 o3 o4 o5 o6 o7; have HRR := Aside0.mk hRR; clear hRR; skip)))
  have HG := Aside0.mk HB3.big
  have HCR := Aside0.mk (Kd.R_reads' HRR.out).2.1
  have HKF : Aside0 (Kd.F k24 (w3.alloc (.cells #[.int .i64 r.f0, .string r.f1, .int .i64 r.f2, .slice A1 r.f3.length c1] 24)) (fun k => k ≠ w3.heap.size) A1 r.f3.length r.f3) := ⟨Kd.F_mono (Kd.F_alloc (Kd.F_bound (Kd.R_F HRR.out)) _) (fun k hk => by have := hk.2; omega)⟩
  have HRB4 := Aside0.mk (heap_alloc_new w3 (.cells #[.int .i64 r.f0, .string r.f1, .int .i64 r.f2, .slice A1 r.f3.length c1] 24))
  have HB4 := HB3.alloc (.cells #[.int .i64 r.f0, .string r.f1, .int .i64 r.f2, .slice A1 r.f3.length c1] 24)
  clear HB3 HRR
  refine start_ (n := 18) (S := fun w' => w'.cell? ⟨w.heap.size + 1, 0, none⟩ = some (.int .i64 o.f0) ∧ w'.cell? ⟨w.heap.size + 1, 1, none⟩ = some (.slice AR o.f1.length cR) ∧ w'.cell? ⟨w.heap.size + 1, 2, none⟩ = some (.int .i64 o.f2) ∧ w'.cell? ⟨w.heap.size + 1, 3, none⟩ = some (.int .i64 o.f3) ∧ w'.cell? ⟨w.heap.size + 1, 4, none⟩ = some (.slice AN o.f4.length cN) ∧ w'.cell? ⟨w.heap.size + 1, 5, none⟩ = some (.int .i64 o.f5) ∧ w'.cell? ⟨w.heap.size + 1, 6, none⟩ = some (.string o.f6) ∧ w'.cell? ⟨w.heap.size + 1, 7, none⟩ = some (.string o.f7)) (ds := []) #[false, false, false, false, false, false, false, false, false, false, false, false, false, false, false, false, false, false] (by kernel_rfl) rfl rfl ⟨blk_cell HB4.drew.snd 0, blk_cell HB4.drew.snd 1, blk_cell HB4.drew.snd 2, blk_cell HB4.drew.snd 3, blk_cell HB4.drew.snd 4, blk_cell HB4.drew.snd 5, blk_cell HB4.drew.snd 6, blk_cell HB4.drew.snd 7⟩ (fun hHeld => ?_); refine with_tabW apply9.tab apply9.bits (fun HT_ HW_ => ?_)
  have HB5 := HB4.drew
  have HRB5 : Aside0 ((w3.alloc (.cells #[.int .i64 r.f0, .string r.f1, .int .i64 r.f2, .slice A1 r.f3.length c1] 24)).drew.heap[w3.heap.size]? = some (.cells #[.int .i64 r.f0, .string r.f1, .int .i64 r.f2, .slice A1 r.f3.length c1] 24)) := ⟨HRB4.out⟩
  have HKF5 := Aside0.mk (Kd.F_drew HKF.out)
  clear HB4 HRB4 HKF
  generalize (w3.alloc (.cells #[.int .i64 r.f0, .string r.f1, .int .i64 r.f2, .slice A1 r.f3.length c1] 24)).drew = W5 at HB5 HRB5 HKF5 hHeld ⊢
  generalize w3.heap.size = g6 at HG HRB5 HKF5 ⊢
  refine pure_ (i := 0) (N := some 37) (v := ?_) (a' := ?_) #[true, false, false, false, false, false, false, false, false, false, false, false, false, false, false, false, false, false] rfl rfl (any_of HT_.out (by kernel_rfl)) (fun _ _ _ h => h) (Or.inl ⟨by rfl, ?_⟩) ?_ ?_
  rotate_left
  · intro w'
    go_simp
    with_reducible rfl
  rotate_left
  · simp only [Act.put, List.setIfInBounds_toArray, List.set_cons_zero, List.set_cons_succ, i64_w, i32_w]
    rfl
  refine take_ (i := 1) (N := some 38) (v := ?_) (a' := ?_) #[true, true, false, false, false, false, false, false, false, false, false, false, false, false, false, false, false, false] rfl rfl (take_ofW HT_.out HW_.out (by kernel_rfl)) (fun _ _ _ h => h) (Or.inl ⟨by rfl, ?_⟩) hHeld ?_ ?_
  rotate_left
  · rintro w' ⟨s0, s1, s2, s3, s4, s5, s6, s7⟩
    go_simp
    with_reducible rfl
  rotate_left
  · simp only [Act.put, List.setIfInBounds_toArray, List.set_cons_zero, List.set_cons_succ, i64_w, i32_w]
    rfl
  refine pure_ (i := 2) (N := some 39) (v := ?_) (a' := ?_) #[true, true, true, false, false, false, false, false, false, false, false, false, false, false, false, false, false, false] rfl rfl (any_of HT_.out (by kernel_rfl)) (fun _ _ _ h => h) (Or.inl ⟨by rfl, ?_⟩) ?_ ?_
  rotate_left
  · intro w'
    go_simp
    with_reducible rfl
  rotate_left
  · simp only [Act.put, List.setIfInBounds_toArray, List.set_cons_zero, List.set_cons_succ, i64_w, i32_w]
    rfl
  refine pure_ (i := 3) (N := some 40) (v := ?_) (a' := ?_) #[true, true, true, true, false, false, false, false, false, false, false, false, false, false, false, false, false, false] rfl rfl (any_of HT_.out (by kernel_rfl)) (fun _ _ _ h => h) (Or.inl ⟨by rfl, ?_⟩) ?_ ?_
  rotate_left
  · intro w'
    go_simp
    with_reducible rfl
  rotate_left
  · simp only [Act.put, List.setIfInBounds_toArray, List.set_cons_zero, List.set_cons_succ, i64_w, i32_w]
    rfl
  refine pure_ (i := 4) (N := some 41) (v := ?_) (a' := ?_) #[true, true, true, true, true, false, false, false, false, false, false, false, false, false, false, false, false, false] rfl rfl (any_of HT_.out (by kernel_rfl)) (fun _ _ _ h => h) (Or.inl ⟨by rfl, ?_⟩) ?_ ?_
  rotate_left
  · intro w'
    go_simp
    with_reducible rfl
  rotate_left
  · simp only [Act.put, List.setIfInBounds_toArray, List.set_cons_zero, List.set_cons_succ, i64_w, i32_w]
    rfl
  refine take_ (i := 5) (N := some 42) (v := ?_) (a' := ?_) #[true, true, true, true, true, true, false, false, false, false, false, false, false, false, false, false, false, false] rfl rfl (take_ofW HT_.out HW_.out (by kernel_rfl)) (fun _ _ _ h => h) (Or.inl ⟨by rfl, ?_⟩) hHeld ?_ ?_
  rotate_left
  · rintro w' ⟨s0, s1, s2, s3, s4, s5, s6, s7⟩
    go_simp
    with_reducible rfl
  rotate_left
  · simp only [Act.put, List.setIfInBounds_toArray, List.set_cons_zero, List.set_cons_succ, i64_w, i32_w]
    rfl
  refine pure_ (i := 6) (N := some 43) (v := ?_) (a' := ?_) #[true, true, true, true, true, true, true, false, false, false, false, false, false, false, false, false, false, false] rfl rfl (any_of HT_.out (by kernel_rfl)) (fun _ _ _ h => h) (Or.inl ⟨by rfl, ?_⟩) ?_ ?_
  rotate_left
  · intro w'
    go_simp
    with_reducible rfl
  rotate_left
  · simp only [Act.put, List.setIfInBounds_toArray, List.set_cons_zero, List.set_cons_succ, i64_w, i32_w]
    rfl
  refine pure_ (i := 7) (N := some 44) (v := ?_) (a' := ?_) #[true, true, true, true, true, true, true, true, false, false, false, false, false, false, false, false, false, false] rfl rfl (any_of HT_.out (by kernel_rfl)) (fun _ _ _ h => h) (Or.inl ⟨by rfl, ?_⟩) ?_ ?_
  rotate_left
  · intro w'
    go_simp
    with_reducible rfl
  rotate_left
  · simp only [Act.put, List.setIfInBounds_toArray, List.set_cons_zero, List.set_cons_succ, i64_w, i32_w]
    rfl
  refine pure_ (i := 8) (N := some 45) (v := ?_) (a' := ?_) #[true, true, true, true, true, true, true, true, true, false, false, false, false, false, false, false, false, false] rfl rfl (any_of HT_.out (by kernel_rfl)) (fun _ _ _ h => h) (Or.inl ⟨by rfl, ?_⟩) ?_ ?_
  rotate_left
  · intro w'
    go_simp
    with_reducible rfl
  rotate_left
  · simp only [Act.put, List.setIfInBounds_toArray, List.set_cons_zero, List.set_cons_succ, i64_w, i32_w]
    rfl
  refine pure_ (i := 9) (N := some 46) (v := ?_) (a' := ?_) #[true, true, true, true, true, true, true, true, true, true, false, false, false, false, false, false, false, false] rfl rfl (any_of HT_.out (by kernel_rfl)) (fun _ _ _ h => h) (Or.inl ⟨by rfl, ?_⟩) ?_ ?_
  rotate_left
  · intro w'
    go_simp
    with_reducible rfl
  rotate_left
  · simp only [Act.put, List.setIfInBounds_toArray, List.set_cons_zero, List.set_cons_succ, i64_w, i32_w]
    rfl
  refine take_ (i := 10) (N := some 47) (v := ?_) (a' := ?_) #[true, true, true, true, true, true, true, true, true, true, true, false, false, false, false, false, false, false] rfl rfl (take_ofW HT_.out HW_.out (by kernel_rfl)) (fun _ _ _ h => h) (Or.inl ⟨by rfl, ?_⟩) hHeld ?_ ?_
  rotate_left
  · rintro w' ⟨s0, s1, s2, s3, s4, s5, s6, s7⟩
    go_simp
    with_reducible rfl
  rotate_left
  · simp only [Act.put, List.setIfInBounds_toArray, List.set_cons_zero, List.set_cons_succ, i64_w, i32_w]
    rfl
  refine pure_ (i := 12) (N := some 49) (v := ?_) (a' := ?_) #[true, true, true, true, true, true, true, true, true, true, true, false, true, false, false, false, false, false] rfl rfl (any_of HT_.out (by kernel_rfl)) (fun _ _ _ h => h) (Or.inl ⟨by rfl, ?_⟩) ?_ ?_
  rotate_left
  · intro w'
    go_simp
    with_reducible rfl
  rotate_left
  · simp only [Act.put, List.setIfInBounds_toArray, List.set_cons_zero, List.set_cons_succ, i64_w, i32_w]
    rfl
  refine pure_ (i := 13) (N := some 50) (v := ?_) (a' := ?_) #[true, true, true, true, true, true, true, true, true, true, true, false, true, true, false, false, false, false] rfl rfl (any_of HT_.out (by kernel_rfl)) (fun _ _ _ h => h) (Or.inl ⟨by rfl, ?_⟩) ?_ ?_
  rotate_left
  · intro w'
    go_simp
    with_reducible rfl
  rotate_left
  · simp only [Act.put, List.setIfInBounds_toArray, List.set_cons_zero, List.set_cons_succ, i64_w, i32_w]
    rfl
  refine take_ (i := 14) (N := some 51) (v := ?_) (a' := ?_) #[true, true, true, true, true, true, true, true, true, true, true, false, true, true, true, false, false, false] rfl rfl (take_ofW HT_.out HW_.out (by kernel_rfl)) (fun _ _ _ h => h) (Or.inl ⟨by rfl, ?_⟩) hHeld ?_ ?_
  rotate_left
  · rintro w' ⟨s0, s1, s2, s3, s4, s5, s6, s7⟩
    go_simp
    with_reducible rfl
  rotate_left
  · simp only [Act.put, List.setIfInBounds_toArray, List.set_cons_zero, List.set_cons_succ, i64_w, i32_w]
    rfl
  refine pure_ (i := 15) (N := some 52) (v := ?_) (a' := ?_) #[true, true, true, true, true, true, true, true, true, true, true, false, true, true, true, true, false, false] rfl rfl (any_of HT_.out (by kernel_rfl)) (fun _ _ _ h => h) (Or.inl ⟨by rfl, ?_⟩) ?_ ?_
  rotate_left
  · intro w'
    go_simp
    with_reducible rfl
  rotate_left
  · simp only [Act.put, List.setIfInBounds_toArray, List.set_cons_zero, List.set_cons_succ, i64_w, i32_w]
    rfl
  refine one_ (i := 11) (N := some 48) #[true, true, true, true, true, true, true, true, true, true, true, true, true, true, true, true, false, false] rfl rfl (one_of HT_.out (by kernel_rfl)) (by decide) (fun K hK => ?_)
  refine goes_ Tryd.func30 (by kernel_rfl) rfl #[.agg #[.int .i64 o.f0, .slice AR o.f1.length cR, .int .i64 o.f2, .int .i64 o.f3, .slice AN o.f4.length cN, .int .i64 o.f5, .string o.f6, .string o.f7]] (by rfl) rfl rfl (by (try simp only [List.map_toArray, List.map_cons, List.map_nil]); first | done | rfl | (simp only [List.length_drop, List.length_take]; rfl)) ?_
  refine (HNEED.out _ (Kd.C_below HR.out HB5.below) (Kd.C_below HN.out HB5.below)).mono ?_
  rintro e w6 ⟨rfl, hb⟩
  have HB6 := HB5.on hb
  have HRB6 := Aside0.mk (blk_on HRB5.out hb)
  have HKF6 := Aside0.mk (Kd.F_below HKF5.out hb)
  clear hb HB5 HRB5 HKF5 hHeld
  refine ⟨_, rfl, ?_⟩
  refine hK.out _ _ ⟨blk_cell HB6.snd 0, blk_cell HB6.snd 1, blk_cell HB6.snd 2, blk_cell HB6.snd 3, blk_cell HB6.snd 4, blk_cell HB6.snd 5, blk_cell HB6.snd 6, blk_cell HB6.snd 7⟩ (fun hHeld => ?_)
  clear hK K
  refine norm_ (a' := ?_) ?_ ?_
  rotate_left
  · show Act.put _ (some 48) _ = _
    simp only [Act.put, List.setIfInBounds_toArray, List.set_cons_zero, List.set_cons_succ, i64_w, i32_w]
    rfl
  refine pure_ (i := 16) (N := some 53) (v := ?_) (a' := ?_) #[true, true, true, true, true, true, true, true, true, true, true, true, true, true, true, true, true, false] rfl rfl (any_of HT_.out (by kernel_rfl)) (fun _ _ _ h => h) (Or.inl ⟨by rfl, ?_⟩) ?_ ?_
  rotate_left
  · intro w'
    go_simp
    with_reducible rfl
  rotate_left
  · simp only [Act.put, List.setIfInBounds_toArray, List.set_cons_zero, List.set_cons_succ, i64_w, i32_w]
    rfl
  refine pure_ (i := 17) (N := some 54) (v := ?_) (a' := ?_) #[true, true, true, true, true, true, true, true, true, true, true, true, true, true, true, true, true, true] rfl rfl (any_of HT_.out (by kernel_rfl)) (fun _ _ _ h => h) (Or.inl ⟨by rfl, ?_⟩) ?_ ?_
  rotate_left
  · intro w'
    go_simp
    with_reducible rfl
  rotate_left
  · simp only [Act.put, List.setIfInBounds_toArray, List.set_cons_zero, List.set_cons_succ, i64_w, i32_w]
    rfl
  refine done_ (done_of HT_.out (by kernel_rfl)) ?_
  try go_wp2
  refine start_ (n := 6) (S := fun w' => w'.cell? ⟨w.heap.size + 1, 0, none⟩ = some (.int .i64 o.f0) ∧ w'.cell? ⟨w.heap.size + 1, 1, none⟩ = some (.slice AR o.f1.length cR) ∧ w'.cell? ⟨w.heap.size + 1, 2, none⟩ = some (.int .i64 o.f2) ∧ w'.cell? ⟨w.heap.size + 1, 3, none⟩ = some (.int .i64 o.f3) ∧ w'.cell? ⟨w.heap.size + 1, 4, none⟩ = some (.slice AN o.f4.length cN) ∧ w'.cell? ⟨w.heap.size + 1, 5, none⟩ = some (.int .i64 o.f5) ∧ w'.cell? ⟨w.heap.size + 1, 6, none⟩ = some (.string o.f6) ∧ w'.cell? ⟨w.heap.size + 1, 7, none⟩ = some (.string o.f7)) (ds := []) #[false, false, false, false, false, false] (by kernel_rfl) rfl rfl ⟨blk_cell HB6.drew.snd 0, blk_cell HB6.drew.snd 1, blk_cell HB6.drew.snd 2, blk_cell HB6.drew.snd 3, blk_cell HB6.drew.snd 4, blk_cell HB6.drew.snd 5, blk_cell HB6.drew.snd 6, blk_cell HB6.drew.snd 7⟩ (fun hHeld => ?_); refine with_tabW apply11.tab apply11.bits (fun HT_ HW_ => ?_)
  have HB7 := HB6.drew
  have HRB7 : Aside0 (w6.drew.heap[g6]? = _) := ⟨HRB6.out⟩
  have HKF7 := Aside0.mk (Kd.F_drew HKF6.out)
  clear HB6 HRB6 HKF6
  generalize w6.drew = w7 at HB7 HRB7 HKF7 hHeld ⊢
  refine pure_ (i := 0) (N := some 56) (v := ?_) (a' := ?_) #[true, false, false, false, false, false] rfl rfl (any_of HT_.out (by kernel_rfl)) (fun _ _ _ h => h) (Or.inl ⟨by rfl, ?_⟩) ?_ ?_
  rotate_left
  · intro w'
    go_simp
    with_reducible rfl
  rotate_left
  · simp only [Act.put, List.setIfInBounds_toArray, List.set_cons_zero, List.set_cons_succ, i64_w, i32_w]
    rfl
  refine take_ (i := 1) (N := some 57) (v := ?_) (a' := ?_) #[true, true, false, false, false, false] rfl rfl (take_ofW HT_.out HW_.out (by kernel_rfl)) (fun _ _ _ h => h) (Or.inl ⟨by rfl, ?_⟩) hHeld ?_ ?_
  rotate_left
  · rintro w' ⟨s0, s1, s2, s3, s4, s5, s6, s7⟩
    go_simp
    with_reducible rfl
  rotate_left
  · simp only [Act.put, List.setIfInBounds_toArray, List.set_cons_zero, List.set_cons_succ, i64_w, i32_w]
    rfl
  refine take_ (i := 2) (N := some 58) (v := ?_) (a' := ?_) #[true, true, true, false, false, false] rfl rfl (take_ofW HT_.out HW_.out (by kernel_rfl)) (fun _ _ _ h => h) (Or.inl ⟨by rfl, ?_⟩) hHeld ?_ ?_
  rotate_left
  · rintro w' ⟨s0, s1, s2, s3, s4, s5, s6, s7⟩
    go_simp
    with_reducible rfl
  rotate_left
  · simp only [Act.put, List.setIfInBounds_toArray, List.set_cons_zero, List.set_cons_succ, i64_w, i32_w]
    rfl
  refine one_ (i := 3) (N := some 59) #[true, true, true, true, false, false] rfl rfl (one_of HT_.out (by kernel_rfl)) (by decide) (fun K hK => ?_)
  refine goes_ Tryd.func30 (by kernel_rfl) rfl #[.agg #[.int .i64 o.f0, .slice AR o.f1.length cR, .int .i64 o.f2, .int .i64 o.f3, .slice AN o.f4.length cN, .int .i64 o.f5, .string o.f6, .string o.f7]] (by rfl) rfl rfl (by (try simp only [List.map_toArray, List.map_cons, List.map_nil]); first | done | rfl | (simp only [List.length_drop, List.length_take]; rfl)) ?_
  refine (HNEED.out _ (Kd.C_below HR.out HB7.below) (Kd.C_below HN.out HB7.below)).mono ?_
  rintro e w8 ⟨rfl, hb⟩
  have HB8 := HB7.on hb
  have HRB8 := Aside0.mk (blk_on HRB7.out hb)
  have HKF8 := Aside0.mk (Kd.F_below HKF7.out hb)
  clear hb HB7 HRB7 HKF7 hHeld
  refine ⟨_, rfl, ?_⟩
  refine hK.out _ _ ⟨blk_cell HB8.snd 0, blk_cell HB8.snd 1, blk_cell HB8.snd 2, blk_cell HB8.snd 3, blk_cell HB8.snd 4, blk_cell HB8.snd 5, blk_cell HB8.snd 6, blk_cell HB8.snd 7⟩ (fun hHeld => ?_)
  clear hK K
  refine norm_ (a' := ?_) ?_ ?_
  rotate_left
  · show Act.put _ (some 59) _ = _
    simp only [Act.put, List.setIfInBounds_toArray, List.set_cons_zero, List.set_cons_succ, i64_w, i32_w]
    rfl
  refine pure_ (i := 4) (N := some 60) (v := ?_) (a' := ?_) #[true, true, true, true, true, false] rfl rfl (any_of HT_.out (by kernel_rfl)) (fun _ _ _ h => h) (Or.inl ⟨by rfl, ?_⟩) ?_ ?_
  rotate_left
  · intro w'
    go_simp
    with_reducible rfl
  rotate_left
  · simp only [Act.put, List.setIfInBounds_toArray, List.set_cons_zero, List.set_cons_succ, i64_w, i32_w]
    rfl
  refine pure_ (i := 5) (N := some 9) (v := ?_) (a' := ?_) #[true, true, true, true, true, true] rfl rfl (any_of HT_.out (by kernel_rfl)) (fun _ _ _ h => h) (Or.inl ⟨by rfl, ?_⟩) ?_ ?_
  rotate_left
  · intro w'
    go_simp
    with_reducible rfl
  rotate_left
  · simp only [Act.put, List.setIfInBounds_toArray, List.set_cons_zero, List.set_cons_succ, i64_w, i32_w]
    rfl
  refine done_ (done_of HT_.out (by kernel_rfl)) ?_
  try go_wp2
  obtain ⟨ii, hii, _, hsz, _⟩ := info_parts infoN
  have hcut := cut_mid (P := Tryd.prog) 22 24 .i64 .i64 Tryd.underlying22 hii 4 hsz A1 r.f3.length c1 o.f2 en h0 h1 h2 HCR.out
  have hlo : old.length = en.toNat - o.f2.toNat := by rw [← Hold.out, List.length_drop, List.length_take]; omega
  have hro := Kd.F_mid (lo := o.f2.toNat) (hi := en.toNat) (c := c1) HKF8.out (by omega) (by omega) HCR.out
  rw [Hold.out] at hro
  obtain ⟨A2, hA2⟩ : ∃ A2, A2 = (if c1 = o.f2.toNat then A1 else A1.map (·.add (o.f2.toNat * 4))) := ⟨_, rfl⟩
  obtain ⟨c2, hc2⟩ : ∃ c2, c2 = c1 - o.f2.toNat := ⟨_, rfl⟩
  replace hro : Kd.F k24 w8 (fun k => k ≠ g6) A2 old.length old := by rw [hA2]; exact hro
  rw [← hlo, ← hA2, ← hc2] at hcut
  have hle2 : Aside0 (old.length ≤ c2) := ⟨by have := HCR.out; rw [hlo, hc2]; omega⟩
  have HO8 := Aside0.mk hro
  clear hro hA2 hc2 hlo hii hsz
  refine start_ (n := 14) (S := fun w' => w'.cell? ⟨w.heap.size + 1, 0, none⟩ = some (.int .i64 o.f0) ∧ w'.cell? ⟨w.heap.size + 1, 1, none⟩ = some (.slice AR o.f1.length cR) ∧ w'.cell? ⟨w.heap.size + 1, 2, none⟩ = some (.int .i64 o.f2) ∧ w'.cell? ⟨w.heap.size + 1, 3, none⟩ = some (.int .i64 o.f3) ∧ w'.cell? ⟨w.heap.size + 1, 4, none⟩ = some (.slice AN o.f4.length cN) ∧ w'.cell? ⟨w.heap.size + 1, 5, none⟩ = some (.int .i64 o.f5) ∧ w'.cell? ⟨w.heap.size + 1, 6, none⟩ = some (.string o.f6) ∧ w'.cell? ⟨w.heap.size + 1, 7, none⟩ = some (.string o.f7) ∧ w'.cell? ⟨g6, 0, none⟩ = some (.int .i64 r.f0) ∧ w'.cell? ⟨g6, 1, none⟩ = some (.string r.f1) ∧ w'.cell? ⟨g6, 2, none⟩ = some (.int .i64 r.f2) ∧ w'.cell? ⟨g6, 3, none⟩ = some (.slice A1 r.f3.length c1)) (ds := []) #[false, false, false, false, false, false, false, false, false, false, false, false, false, false] (by kernel_rfl) rfl rfl ⟨blk_cell HB8.drew.snd 0, blk_cell HB8.drew.snd 1, blk_cell HB8.drew.snd 2, blk_cell HB8.drew.snd 3, blk_cell HB8.drew.snd 4, blk_cell HB8.drew.snd 5, blk_cell HB8.drew.snd 6, blk_cell HB8.drew.snd 7, blk_cell HRB8.out 0, blk_cell HRB8.out 1, blk_cell HRB8.out 2, blk_cell HRB8.out 3⟩ (fun hHeld => ?_); refine with_tabW apply12.tab apply12.bits (fun HT_ HW_ => ?_)
  have HB9 := HB8.drew
  have HRB9 : Aside0 (w8.drew.heap[g6]? = _) := ⟨HRB8.out⟩
  have HKF9 := Aside0.mk (Kd.F_drew HKF8.out)
  have HO9 := Aside0.mk (Kd.F_drew HO8.out)
  clear HB8 HRB8 HKF8 HO8
  generalize w8.drew = w9 at HB9 HRB9 HKF9 HO9 hHeld ⊢
  refine pure_ (i := 2) (N := some 64) (v := ?_) (a' := ?_) #[false, false, true, false, false, false, false, false, false, false, false, false, false, false] rfl rfl (any_of HT_.out (by kernel_rfl)) (fun _ _ _ h => h) (Or.inl ⟨by rfl, ?_⟩) ?_ ?_
  rotate_left
  · intro w'
    go_simp
    with_reducible rfl
  rotate_left
  · simp only [Act.put, List.setIfInBounds_toArray, List.set_cons_zero, List.set_cons_succ, i64_w, i32_w]
    rfl
  refine pure_ (i := 4) (N := some 66) (v := ?_) (a' := ?_) #[false, false, true, false, true, false, false, false, false, false, false, false, false, false] rfl rfl (any_of HT_.out (by kernel_rfl)) (fun _ _ _ h => h) (Or.inl ⟨by rfl, ?_⟩) ?_ ?_
  rotate_left
  · intro w'
    go_simp
    with_reducible rfl
  rotate_left
  · simp only [Act.put, List.setIfInBounds_toArray, List.set_cons_zero, List.set_cons_succ, i64_w, i32_w]
    rfl
  refine pure_ (i := 6) (N := some 68) (v := ?_) (a' := ?_) #[false, false, true, false, true, false, true, false, false, false, false, false, false, false] rfl rfl (any_of HT_.out (by kernel_rfl)) (fun _ _ _ h => h) (Or.inl ⟨by rfl, ?_⟩) ?_ ?_
  rotate_left
  · intro w'
    go_simp
    with_reducible rfl
  rotate_left
  · simp only [Act.put, List.setIfInBounds_toArray, List.set_cons_zero, List.set_cons_succ, i64_w, i32_w]
    rfl
  refine take_ (i := 0) (N := some 62) (v := ?_) (a' := ?_) #[true, false, true, false, true, false, true, false, false, false, false, false, false, false] rfl rfl (take_ofW HT_.out HW_.out (by kernel_rfl)) (fun _ _ _ h => h) (Or.inl ⟨by rfl, ?_⟩) hHeld ?_ ?_
  rotate_left
  · rintro w' ⟨s0, s1, s2, s3, s4, s5, s6, s7, s8, s9, s10, s11⟩
    go_simp
    with_reducible rfl
  rotate_left
  · simp only [Act.put, List.setIfInBounds_toArray, List.set_cons_zero, List.set_cons_succ, i64_w, i32_w]
    rfl
  refine take_ (i := 3) (N := some 65) (v := ?_) (a' := ?_) #[true, false, true, true, true, false, true, false, false, false, false, false, false, false] rfl rfl (take_ofW HT_.out HW_.out (by kernel_rfl)) (fun _ _ _ h => h) (Or.inl ⟨by rfl, ?_⟩) hHeld ?_ ?_
  rotate_left
  · rintro w' ⟨s0, s1, s2, s3, s4, s5, s6, s7, s8, s9, s10, s11⟩
    go_simp
    with_reducible rfl
  rotate_left
  · simp only [Act.put, List.setIfInBounds_toArray, List.set_cons_zero, List.set_cons_succ, i64_w, i32_w]
    rfl
  refine take_ (i := 5) (N := some 67) (v := ?_) (a' := ?_) #[true, false, true, true, true, true, true, false, false, false, false, false, false, false] rfl rfl (take_ofW HT_.out HW_.out (by kernel_rfl)) (fun _ _ _ h => h) (Or.inl ⟨by rfl, ?_⟩) hHeld ?_ ?_
  rotate_left
  · rintro w' ⟨s0, s1, s2, s3, s4, s5, s6, s7, s8, s9, s10, s11⟩
    go_simp
    with_reducible rfl
  rotate_left
  · simp only [Act.put, List.setIfInBounds_toArray, List.set_cons_zero, List.set_cons_succ, i64_w, i32_w]
    rfl
  refine pure_ (i := 7) (N := some 69) (v := ?_) (a' := ?_) #[true, false, true, true, true, true, true, true, false, false, false, false, false, false] rfl rfl (any_of HT_.out (by kernel_rfl)) (fun _ _ _ h => h) (Or.inl ⟨by rfl, ?_⟩) ?_ ?_
  rotate_left
  · intro w'
    go_simp
    with_reducible rfl
  rotate_left
  · simp only [Act.put, List.setIfInBounds_toArray, List.set_cons_zero, List.set_cons_succ, i64_w, i32_w]
    rfl
  refine one_ (i := 1) (N := some 63) #[true, true, true, true, true, true, true, true, false, false, false, false, false, false] rfl rfl (one_of HT_.out (by kernel_rfl)) (by decide) (fun K hK => ?_)
  refine goes_ Tryd.func32 (by kernel_rfl) rfl #[.agg #[.int .i64 o.f0, .slice AR o.f1.length cR, .int .i64 o.f2, .int .i64 o.f3, .slice AN o.f4.length cN, .int .i64 o.f5, .string o.f6, .string o.f7]] (by rfl) rfl rfl (by (try simp only [List.map_toArray, List.map_cons, List.map_nil]); first | done | rfl | (simp only [List.length_drop, List.length_take]; rfl)) ?_
  refine (HCOPY.out (fun k => k ≠ g6) _ (Kd.C_below HR.out HB9.below) (Kd.F_mono (Kd.F_below (Kd.C_F k24_heap HN.out) HB9.below) (fun k hk => by have := HG.out; omega))).mono ?_
  rintro e w10 ⟨v1, v4, rfl, hR1, hN4, hb⟩
  obtain ⟨AR2, cR2, rfl⟩ := Kd.R_slice hR1
  obtain ⟨AN2, cN2, rfl⟩ := Kd.N_slice hN4
  have HGL := blk_lt HRB9.out
  have HCN := Aside0.mk (Kd.N_reads' hN4).2.1
  have HN10 : Aside0 (Kd.F k24 w10 (fun k => k ≠ g6) AN2 o.f4.length o.f4) := ⟨Kd.F_mono (Kd.N_F hN4) (fun k hk => by rcases hk.1 with h | h; exact h; omega)⟩
  have HO10 := Aside0.mk (Kd.F_below HO9.out hb)
  have HB10 := HB9.on hb
  have HRB10 := Aside0.mk (blk_on HRB9.out hb)
  have HKF10 := Aside0.mk (Kd.F_below HKF9.out hb)
  clear hb hN4 hR1 HGL HB9 HRB9 HKF9 HO9 hHeld
  refine ⟨_, rfl, ?_⟩
  refine hK.out _ _ ⟨blk_cell HB10.snd 0, blk_cell HB10.snd 1, blk_cell HB10.snd 2, blk_cell HB10.snd 3, blk_cell HB10.snd 4, blk_cell HB10.snd 5, blk_cell HB10.snd 6, blk_cell HB10.snd 7, blk_cell HRB10.out 0, blk_cell HRB10.out 1, blk_cell HRB10.out 2, blk_cell HRB10.out 3⟩ (fun hHeld => ?_)
  clear hK K
  refine norm_ (a' := ?_) ?_ ?_
  rotate_left
  · show Act.put _ (some 63) _ = _
    simp only [Act.put, List.setIfInBounds_toArray, List.set_cons_zero, List.set_cons_succ, i64_w, i32_w]
    rfl
  refine one_ (i := 8) (N := some 70) #[true, true, true, true, true, true, true, true, true, false, false, false, false, false] rfl rfl (one_of HT_.out (by kernel_rfl)) (by decide) (fun K hK => ?_)
  refine goes_ Tryd.func31 (by kernel_rfl) rfl #[.agg #[.int .i64 o.f0, .slice AR2 o.f1.length cR2, .int .i64 o.f2, .int .i64 o.f3, .slice AN2 o.f4.length cN2, .int .i64 o.f5, .string o.f6, .string o.f7], .slice A2 old.length c2] (by rfl) rfl rfl (by (try simp only [List.map_toArray, List.map_cons, List.map_nil]); first | done | rfl | (simp only [List.length_drop, List.length_take]; rfl)) ?_
  refine (HCH.out A2 AR2 AN2 c2 cR2 cN2 (fun k => k ≠ g6) _ hle2.out HCN.out HO10.out HN10.out).mono ?_
  rintro e w11 ⟨A3, c3, rfl, hl3, hF3, hb⟩
  have HGL := blk_lt HRB10.out
  have HC11 : Aside0 (Kd.F k24 w11 (fun k => k ≠ g6) A3 ch.length ch) := ⟨Kd.F_mono hF3 (fun k hk => by rcases hk with h | h; exact h; omega)⟩
  have HL3 := Aside0.mk hl3
  have HB11 := HB10.on hb
  have HRB11 := Aside0.mk (blk_on HRB10.out hb)
  have HKF11 := Aside0.mk (Kd.F_below HKF10.out hb)
  clear hb hF3 hl3 HGL HB10 HRB10 HKF10 HO10 HN10 hHeld
  refine ⟨_, rfl, ?_⟩
  refine hK.out _ _ ⟨blk_cell HB11.snd 0, blk_cell HB11.snd 1, blk_cell HB11.snd 2, blk_cell HB11.snd 3, blk_cell HB11.snd 4, blk_cell HB11.snd 5, blk_cell HB11.snd 6, blk_cell HB11.snd 7, blk_cell HRB11.out 0, blk_cell HRB11.out 1, blk_cell HRB11.out 2, blk_cell HRB11.out 3⟩ (fun hHeld => ?_)
  clear hK K
  refine norm_ (a' := ?_) ?_ ?_
  rotate_left
  · show Act.put _ (some 70) _ = _
    simp only [Act.put, List.setIfInBounds_toArray, List.set_cons_zero, List.set_cons_succ, i64_w, i32_w]
    rfl
  refine pure_ (i := 9) (N := some 61) (v := ?_) (a' := ?_) #[true, true, true, true, true, true, true, true, true, true, false, false, false, false] rfl rfl (any_of HT_.out (by kernel_rfl)) (fun _ _ _ h => h) (Or.inl ⟨by rfl, ?_⟩) ?_ ?_
  rotate_left
  · intro w'
    go_simp
    with_reducible rfl
  rotate_left
  · simp only [Act.put, List.setIfInBounds_toArray, List.set_cons_zero, List.set_cons_succ, i64_w, i32_w]
    rfl
  refine pure_ (i := 10) (N := some 71) (v := ?_) (a' := ?_) #[true, true, true, true, true, true, true, true, true, true, true, false, false, false] rfl rfl (any_of HT_.out (by kernel_rfl)) (fun _ _ _ h => h) (Or.inl ⟨by rfl, ?_⟩) ?_ ?_
  rotate_left
  · intro w'
    go_simp
    with_reducible rfl
  rotate_left
  · simp only [Act.put, List.setIfInBounds_toArray, List.set_cons_zero, List.set_cons_succ, i64_w, i32_w]
    rfl
  refine pure_ (i := 11) (N := some 72) (v := ?_) (a' := ?_) #[true, true, true, true, true, true, true, true, true, true, true, true, false, false] rfl rfl (any_of HT_.out (by kernel_rfl)) (fun _ _ _ h => h) (Or.inl ⟨by rfl, ?_⟩) ?_ ?_
  rotate_left
  · intro w'
    go_simp
    with_reducible rfl
  rotate_left
  · simp only [Act.put, List.setIfInBounds_toArray, List.set_cons_zero, List.set_cons_succ, i64_w, i32_w]
    rfl
  refine pure_ (i := 12) (N := some 10) (v := ?_) (a' := ?_) #[true, true, true, true, true, true, true, true, true, true, true, true, true, false] rfl rfl (any_of HT_.out (by kernel_rfl)) (fun _ _ _ h => h) (Or.inl ⟨by rfl, ?_⟩) ?_ ?_
  rotate_left
  · intro w'
    go_simp
    with_reducible rfl
  rotate_left
  · simp only [Act.put, List.setIfInBounds_toArray, List.set_cons_zero, List.set_cons_succ, i64_w, i32_w]
    rfl
  refine pure_ (i := 13) (N := some 11) (v := ?_) (a' := ?_) #[true, true, true, true, true, true, true, true, true, true, true, true, true, true] rfl rfl (any_of HT_.out (by kernel_rfl)) (fun _ _ _ h => h) (Or.inl ⟨by rfl, ?_⟩) ?_ ?_
  rotate_left
  · intro w'
    go_simp
    with_reducible rfl
  rotate_left
  · simp only [Act.put, List.setIfInBounds_toArray, List.set_cons_zero, List.set_cons_succ, i64_w, i32_w]
    rfl
  refine done_ (done_of HT_.out (by kernel_rfl)) ?_
  try go_wp2
  obtain ⟨ii, hii, _, hsz, _⟩ := info_parts infoN
  have hcut1 := cut_to (P := Tryd.prog) 22 24 .i64 Tryd.underlying22 hii A1 r.f3.length c1 o.f2 h0 (by omega) HCR.out
  have hlp : pre.length = o.f2.toNat := by rw [← Hpre.out, List.length_take]; omega
  have hrp := Kd.F_take (m := o.f2.toNat) HKF11.out (by omega)
  rw [Hpre.out] at hrp
  rw [← hlp] at hcut1
  have HP11 := Aside0.mk hrp
  have hlep : Aside0 (pre.length ≤ c1) := ⟨by have := HCR.out; omega⟩
  have hcut2 := cut_from (P := Tryd.prog) 22 24 .i64 Tryd.underlying22 hii 4 hsz A1 r.f3.length c1 en (by omega) h2
  have hlq : post.length = r.f3.length - en.toNat := by rw [← Hpost.out, List.length_drop]
  have hrq := Kd.F_cut (m := en.toNat) (c := c1) HKF11.out (by omega) HCR.out
  rw [Hpost.out] at hrq
  obtain ⟨A5, hA5⟩ : ∃ A5, A5 = (if c1 = en.toNat then A1 else A1.map (·.add (en.toNat * 4))) := ⟨_, rfl⟩
  obtain ⟨c5, hc5⟩ : ∃ c5, c5 = c1 - en.toNat := ⟨_, rfl⟩
  replace hrq : Kd.F k24 w11 (fun k => k ≠ g6) A5 post.length post := by rw [hA5]; exact hrq
  rw [← hlq, ← hA5, ← hc5] at hcut2
  have hleq : Aside0 (post.length ≤ c5) := ⟨by have := HCR.out; rw [hlq, hc5]; omega⟩
  have HQ11 := Aside0.mk hrq
  clear hrp hrq hA5 hc5 hlp hlq hii hsz
  refine start_ (n := 14) (S := fun w' => w'.cell? ⟨w.heap.size + 1, 0, none⟩ = some (.int .i64 o.f0) ∧ w'.cell? ⟨w.heap.size + 1, 1, none⟩ = some (.slice AR o.f1.length cR) ∧ w'.cell? ⟨w.heap.size + 1, 2, none⟩ = some (.int .i64 o.f2) ∧ w'.cell? ⟨w.heap.size + 1, 3, none⟩ = some (.int .i64 o.f3) ∧ w'.cell? ⟨w.heap.size + 1, 4, none⟩ = some (.slice AN o.f4.length cN) ∧ w'.cell? ⟨w.heap.size + 1, 5, none⟩ = some (.int .i64 o.f5) ∧ w'.cell? ⟨w.heap.size + 1, 6, none⟩ = some (.string o.f6) ∧ w'.cell? ⟨w.heap.size + 1, 7, none⟩ = some (.string o.f7) ∧ w'.cell? ⟨g6, 0, none⟩ = some (.int .i64 r.f0) ∧ w'.cell? ⟨g6, 1, none⟩ = some (.string r.f1) ∧ w'.cell? ⟨g6, 2, none⟩ = some (.int .i64 r.f2) ∧ w'.cell? ⟨g6, 3, none⟩ = some (.slice A1 r.f3.length c1)) (ds := [13]) #[false, false, false, false, false, false, false, false, false, false, false, false, false, false] (by kernel_rfl) rfl rfl ⟨blk_cell HB11.drew.snd 0, blk_cell HB11.drew.snd 1, blk_cell HB11.drew.snd 2, blk_cell HB11.drew.snd 3, blk_cell HB11.drew.snd 4, blk_cell HB11.drew.snd 5, blk_cell HB11.drew.snd 6, blk_cell HB11.drew.snd 7, blk_cell HRB11.out 0, blk_cell HRB11.out 1, blk_cell HRB11.out 2, blk_cell HRB11.out 3⟩ (fun hHeld => ?_); refine with_tabW apply15.tab apply15.bits (fun HT_ HW_ => ?_)
  have HB12 := HB11.drew
  have HRB12 : Aside0 (w11.drew.heap[g6]? = _) := ⟨HRB11.out⟩
  have HKF12 := Aside0.mk (Kd.F_drew HKF11.out)
  have HP12 := Aside0.mk (Kd.F_drew HP11.out)
  have HQ12 := Aside0.mk (Kd.F_drew HQ11.out)
  have HC12 := Aside0.mk (Kd.F_drew HC11.out)
  clear HB11 HRB11 HKF11 HP11 HQ11 HC11
  generalize w11.drew = w12 at HB12 HRB12 HKF12 HP12 HQ12 HC12 hHeld ⊢
  refine pure_ (i := 0) (N := some 76) (v := ?_) (a' := ?_) #[true, false, false, false, false, false, false, false, false, false, false, false, false, false] rfl rfl (any_of HT_.out (by kernel_rfl)) (fun _ _ _ h => h) (Or.inl ⟨by rfl, ?_⟩) ?_ ?_
  rotate_left
  · intro w'
    go_simp
    with_reducible rfl
  rotate_left
  · simp only [Act.put, List.setIfInBounds_toArray, List.set_cons_zero, List.set_cons_succ, i64_w, i32_w]
    rfl
  refine pure_ (i := 2) (N := some 78) (v := ?_) (a' := ?_) #[true, false, true, false, false, false, false, false, false, false, false, false, false, false] rfl rfl (any_of HT_.out (by kernel_rfl)) (fun _ _ _ h => h) (Or.inl ⟨by rfl, ?_⟩) ?_ ?_
  rotate_left
  · intro w'
    go_simp
    with_reducible rfl
  rotate_left
  · simp only [Act.put, List.setIfInBounds_toArray, List.set_cons_zero, List.set_cons_succ, i64_w, i32_w]
    rfl
  refine pure_ (i := 5) (N := some 81) (v := ?_) (a' := ?_) #[true, false, true, false, false, true, false, false, false, false, false, false, false, false] rfl rfl (any_of HT_.out (by kernel_rfl)) (fun _ _ _ h => h) (Or.inl ⟨by rfl, ?_⟩) ?_ ?_
  rotate_left
  · intro w'
    go_simp
    with_reducible rfl
  rotate_left
  · simp only [Act.put, List.setIfInBounds_toArray, List.set_cons_zero, List.set_cons_succ, i64_w, i32_w]
    rfl
  refine pure_ (i := 6) (N := some 82) (v := ?_) (a' := ?_) #[true, false, true, false, false, true, true, false, false, false, false, false, false, false] rfl rfl (any_of HT_.out (by kernel_rfl)) (fun _ _ _ h => h) (Or.inl ⟨by rfl, ?_⟩) ?_ ?_
  rotate_left
  · intro w'
    go_simp
    with_reducible rfl
  rotate_left
  · simp only [Act.put, List.setIfInBounds_toArray, List.set_cons_zero, List.set_cons_succ, i64_w, i32_w]
    rfl
  refine pure_ (i := 8) (N := some 84) (v := ?_) (a' := ?_) #[true, false, true, false, false, true, true, false, true, false, false, false, false, false] rfl rfl (any_of HT_.out (by kernel_rfl)) (fun _ _ _ h => h) (Or.inl ⟨by rfl, ?_⟩) ?_ ?_
  rotate_left
  · intro w'
    go_simp
    with_reducible rfl
  rotate_left
  · simp only [Act.put, List.setIfInBounds_toArray, List.set_cons_zero, List.set_cons_succ, i64_w, i32_w]
    rfl
  refine take_ (i := 1) (N := some 77) (v := ?_) (a' := ?_) #[true, true, true, false, false, true, true, false, true, false, false, false, false, false] rfl rfl (take_ofW HT_.out HW_.out (by kernel_rfl)) (fun _ _ _ h => h) (Or.inl ⟨by rfl, ?_⟩) hHeld ?_ ?_
  rotate_left
  · rintro w' ⟨s0, s1, s2, s3, s4, s5, s6, s7, s8, s9, s10, s11⟩
    go_simp
    with_reducible rfl
  rotate_left
  · simp only [Act.put, List.setIfInBounds_toArray, List.set_cons_zero, List.set_cons_succ, i64_w, i32_w]
    rfl
  refine take_ (i := 3) (N := some 79) (v := ?_) (a' := ?_) #[true, true, true, true, false, true, true, false, true, false, false, false, false, false] rfl rfl (take_ofW HT_.out HW_.out (by kernel_rfl)) (fun _ _ _ h => h) (Or.inl ⟨by rfl, ?_⟩) hHeld ?_ ?_
  rotate_left
  · rintro w' ⟨s0, s1, s2, s3, s4, s5, s6, s7, s8, s9, s10, s11⟩
    go_simp
    with_reducible rfl
  rotate_left
  · simp only [Act.put, List.setIfInBounds_toArray, List.set_cons_zero, List.set_cons_succ, i64_w, i32_w]
    rfl
  refine pure_ (i := 4) (N := some 80) (v := ?_) (a' := ?_) #[true, true, true, true, true, true, true, false, true, false, false, false, false, false] rfl rfl (any_of HT_.out (by kernel_rfl)) (fun _ _ _ h => h) (Or.inl ⟨by rfl, ?_⟩) ?_ ?_
  rotate_left
  · intro w'
    go_simp
    with_reducible rfl
  rotate_left
  · simp only [Act.put, List.setIfInBounds_toArray, List.set_cons_zero, List.set_cons_succ, i64_w, i32_w]
    rfl
  refine take_ (i := 7) (N := some 83) (v := ?_) (a' := ?_) #[true, true, true, true, true, true, true, true, true, false, false, false, false, false] rfl rfl (take_ofW HT_.out HW_.out (by kernel_rfl)) (fun _ _ _ h => h) (Or.inl ⟨by rfl, ?_⟩) hHeld ?_ ?_
  rotate_left
  · rintro w' ⟨s0, s1, s2, s3, s4, s5, s6, s7, s8, s9, s10, s11⟩
    go_simp
    with_reducible rfl
  rotate_left
  · simp only [Act.put, List.setIfInBounds_toArray, List.set_cons_zero, List.set_cons_succ, i64_w, i32_w]
    rfl
  refine pure_ (i := 9) (N := some 85) (v := ?_) (a' := ?_) #[true, true, true, true, true, true, true, true, true, true, false, false, false, false] rfl rfl (any_of HT_.out (by kernel_rfl)) (fun _ _ _ h => h) (Or.inl ⟨by rfl, ?_⟩) ?_ ?_
  rotate_left
  · intro w'
    go_simp
    with_reducible rfl
  rotate_left
  · simp only [Act.put, List.setIfInBounds_toArray, List.set_cons_zero, List.set_cons_succ, i64_w, i32_w]
    rfl
  refine one_ (i := 10) (N := some 86) #[true, true, true, true, true, true, true, true, true, true, true, false, false, false] rfl rfl (one_of HT_.out (by kernel_rfl)) (by decide) (fun K hK => ?_)
  refine value_ (v := .slice (some ⟨w12.heap.size, 0, none⟩) 3 3) (w1 := (w12.alloc (.cells #[.slice A1 pre.length c1, .slice A3 ch.length c3, .slice A5 post.length c5] 22))) (by rfl) rfl ?_ ?_
  · go_simp
  refine hK.out _ _ ⟨blk_cell (HB12.alloc (.cells #[.slice A1 pre.length c1, .slice A3 ch.length c3, .slice A5 post.length c5] 22)).snd 0, blk_cell (HB12.alloc (.cells #[.slice A1 pre.length c1, .slice A3 ch.length c3, .slice A5 post.length c5] 22)).snd 1, blk_cell (HB12.alloc (.cells #[.slice A1 pre.length c1, .slice A3 ch.length c3, .slice A5 post.length c5] 22)).snd 2, blk_cell (HB12.alloc (.cells #[.slice A1 pre.length c1, .slice A3 ch.length c3, .slice A5 post.length c5] 22)).snd 3, blk_cell (HB12.alloc (.cells #[.slice A1 pre.length c1, .slice A3 ch.length c3, .slice A5 post.length c5] 22)).snd 4, blk_cell (HB12.alloc (.cells #[.slice A1 pre.length c1, .slice A3 ch.length c3, .slice A5 post.length c5] 22)).snd 5, blk_cell (HB12.alloc (.cells #[.slice A1 pre.length c1, .slice A3 ch.length c3, .slice A5 post.length c5] 22)).snd 6, blk_cell (HB12.alloc (.cells #[.slice A1 pre.length c1, .slice A3 ch.length c3, .slice A5 post.length c5] 22)).snd 7, blk_cell (blk_allocO HRB12.out (.cells #[.slice A1 pre.length c1, .slice A3 ch.length c3, .slice A5 post.length c5] 22)) 0, blk_cell (blk_allocO HRB12.out (.cells #[.slice A1 pre.length c1, .slice A3 ch.length c3, .slice A5 post.length c5] 22)) 1, blk_cell (blk_allocO HRB12.out (.cells #[.slice A1 pre.length c1, .slice A3 ch.length c3, .slice A5 post.length c5] 22)) 2, blk_cell (blk_allocO HRB12.out (.cells #[.slice A1 pre.length c1, .slice A3 ch.length c3, .slice A5 post.length c5] 22)) 3⟩ (fun hHeld => ?_)
  clear hK K
  refine norm_ (a' := ?_) ?_ ?_
  rotate_left
  · show Act.put _ (some 86) _ = _
    simp only [Act.put, List.setIfInBounds_toArray, List.set_cons_zero, List.set_cons_succ, i64_w, i32_w]
    rfl
  have H3 : Aside0 (Kd.F (Kd.slice 24 k24) (w12.alloc (.cells #[.slice A1 pre.length c1, .slice A3 ch.length c3, .slice A5 post.length c5] 22)) (fun k => k ≠ g6) (some ⟨w12.heap.size, 0, none⟩) 3 [pre, ch, post]) := ⟨Kd.F_mono (threeF hlep.out HL3.out hleq.out HP12.out HC12.out HQ12.out) (fun k hk => by have := blk_lt HRB12.out; rcases hk with h | h; exact h; omega)⟩
  have HB13 := HB12.alloc (.cells #[.slice A1 pre.length c1, .slice A3 ch.length c3, .slice A5 post.length c5] 22)
  have HRB13 := Aside0.mk (blk_allocO HRB12.out (.cells #[.slice A1 pre.length c1, .slice A3 ch.length c3, .slice A5 post.length c5] 22))
  clear HB12 HRB12 HKF12 HP12 HQ12 HC12
  generalize w12.heap.size = g13 at H3 ⊢
  generalize (w12.alloc (.cells #[.slice A1 pre.length c1, .slice A3 ch.length c3, .slice A5 post.length c5] 22)) = w13 at HB13 HRB13 H3 hHeld ⊢
  refine one_ (i := 11) (N := some 87) #[true, true, true, true, true, true, true, true, true, true, true, true, false, false] rfl rfl (one_of HT_.out (by kernel_rfl)) (by decide) (fun K hK => ?_)
  refine goes_ Tryd.func33 (by kernel_rfl) rfl #[.slice (some ⟨g13, 0, none⟩) 3 3] (by rfl) rfl rfl (by (try simp only [List.map_toArray, List.map_cons, List.map_nil]); first | done | rfl | (simp only [List.length_drop, List.length_take]; rfl)) ?_
  refine (HCAT.out _ _ _ _ H3.out).mono ?_
  rintro e w14 ⟨v, rfl, hNv, hb⟩
  obtain ⟨A6, c6, rfl⟩ := Kd.N_slice hNv
  have HGL := blk_lt HRB13.out
  have HL6 := Aside0.mk (Kd.N_reads' hNv).2.1
  have HK14 : Aside0 (Kd.F k24 w14 (fun k => k ≠ g6) A6 kids.length kids) := ⟨Kd.F_mono (Kd.N_F hNv) (fun k hk => by rcases hk with h | h; exact h; omega)⟩
  have HB14 := HB13.on hb
  have HRB14 := Aside0.mk (blk_on HRB13.out hb)
  clear hb hNv HGL HB13 HRB13 H3 hHeld
  refine ⟨_, rfl, ?_⟩
  refine hK.out _ _ ⟨blk_cell HB14.snd 0, blk_cell HB14.snd 1, blk_cell HB14.snd 2, blk_cell HB14.snd 3, blk_cell HB14.snd 4, blk_cell HB14.snd 5, blk_cell HB14.snd 6, blk_cell HB14.snd 7, blk_cell HRB14.out 0, blk_cell HRB14.out 1, blk_cell HRB14.out 2, blk_cell HRB14.out 3⟩ (fun hHeld => ?_)
  clear hK K
  refine norm_ (a' := ?_) ?_ ?_
  rotate_left
  · show Act.put _ (some 87) _ = _
    simp only [Act.put, List.setIfInBounds_toArray, List.set_cons_zero, List.set_cons_succ, i64_w, i32_w]
    rfl
  have g3 := (blk_cell HRB14.out 3 : w14.cell? ⟨g6, 3, none⟩ = _)
  have gf := (blk_frozen HRB14.out 3 : w14.frozen? ⟨g6, 3, none⟩ = false)
  refine pure_ (i := 12) (N := some 88) (v := ?_) (a' := ?_) #[true, true, true, true, true, true, true, true, true, true, true, true, true, false] rfl rfl (any_of HT_.out (by kernel_rfl)) (fun _ _ _ h => h) (Or.inl ⟨by rfl, ?_⟩) ?_ ?_
  rotate_left
  · intro w'
    go_simp
    with_reducible rfl
  rotate_left
  · simp only [Act.put, List.setIfInBounds_toArray, List.set_cons_zero, List.set_cons_succ, i64_w, i32_w]
    rfl
  refine last_ (i := 13) (N := none) #[true, true, true, true, true, true, true, true, true, true, true, true, true, true] rfl rfl (one_of HT_.out (by kernel_rfl)) (by decide) (fun K hK => ?_)
  refine skip_ (w1 := ?_) (by rfl) rfl ?_ ?_
  rotate_left
  · go_simp
    rfl
  refine hK.out _ _ ?_
  clear hK K
  refine done_ (done_of HT_.out (by kernel_rfl)) ?_
  have HB15 := HB14.put (g := g6) (i := 3) HG.out (.slice A6 kids.length c6)
  have HRB15 := Aside0.mk (blk_put HRB14.out 3 (.slice A6 kids.length c6) rfl)
  have HK15 := Aside0.mk (Kd.F_far (p := ⟨g6, 3, none⟩) HK14.out (fun k hk => hk) (.slice A6 kids.length c6))
  clear HB14 HRB14 HK14 g3 gf
  generalize w14.setCell ⟨g6, 3, none⟩ (.slice A6 kids.length c6) = w15 at HB15 HRB15 HK15 ⊢
  have x0 := (blk_cell HB15.fst 0 : w15.cell? ⟨w.heap.size, 0, none⟩ = _)
  have x1 := (blk_cell HB15.fst 1 : w15.cell? ⟨w.heap.size, 1, none⟩ = _)
  have x2 := (blk_cell HB15.fst 2 : w15.cell? ⟨w.heap.size, 2, none⟩ = _)
  have x3 := (blk_cell HB15.fst 3 : w15.cell? ⟨w.heap.size, 3, none⟩ = _)
  have o0 := (blk_cell HB15.snd 0 : w15.cell? ⟨w.heap.size + 1, 0, none⟩ = _)
  have o1 := (blk_cell HB15.snd 1 : w15.cell? ⟨w.heap.size + 1, 1, none⟩ = _)
  have o2 := (blk_cell HB15.snd 2 : w15.cell? ⟨w.heap.size + 1, 2, none⟩ = _)
  have o3 := (blk_cell HB15.snd 3 : w15.cell? ⟨w.heap.size + 1, 3, none⟩ = _)
  have o4 := (blk_cell HB15.snd 4 : w15.cell? ⟨w.heap.size + 1, 4, none⟩ = _)
  have o5 := (blk_cell HB15.snd 5 : w15.cell? ⟨w.heap.size + 1, 5, none⟩ = _)
  have o6 := (blk_cell HB15.snd 6 : w15.cell? ⟨w.heap.size + 1, 6, none⟩ = _)
  have o7 := (blk_cell HB15.snd 7 : w15.cell? ⟨w.heap.size + 1, 7, none⟩ = _)
  have r0 := (blk_cell HRB15.out 0 : w15.cell? ⟨g6, 0, none⟩ = _)
  have r1 := (blk_cell HRB15.out 1 : w15.cell? ⟨g6, 1, none⟩ = _)
  have r2 := (blk_cell HRB15.out 2 : w15.cell? ⟨g6, 2, none⟩ = _)
  have r3 := (blk_cell HRB15.out 3 : w15.cell? ⟨g6, 3, none⟩ = _)
  go_wp2_with (go_at_call 34; go_loud (refine (HWITH.out A6 c6 _ HL6.out (Kd.C_below HA.out HB15.below) (Kd.C_below HR.out HB15.below) (Kd.F_now HK15.out)).mono ?_; rintro e w16 ⟨A7, c7, rfl, hl7, hF7, hb⟩; have HF7 := Aside0.mk hF7; have HB16 := HB15.on hb; have hsz15 := Aside0.mk HB15.big; clear hF7 hb HB15 HRB15 HK15; clear x0 x1 x2 x3 o0 o1 o2 o3 o4 o5 o6 o7 r0 r1 r2 r3; have z0 := fun o => (blk_cell (blk_allocO HB16.trd o) 0 : (w16.alloc o).cell? ⟨w.heap.size + 1 + 1, 0, none⟩ = _); have z1 := fun o => (blk_cell (blk_allocO HB16.trd o) 1 : (w16.alloc o).cell? ⟨w.heap.size + 1 + 1, 1, none⟩ = _); have z2 := fun o => (blk_cell (blk_allocO HB16.trd o) 2 : (w16.alloc o).cell? ⟨w.heap.size + 1 + 1, 2, none⟩ = _); have z3 := fun o => (blk_cell (blk_allocO HB16.trd o) 3 : (w16.alloc o).cell? ⟨w.heap.size + 1 + 1, 3, none⟩ = _); have y0 := fun o => (blk_frozen (blk_allocO HB16.trd o) 0 : (w16.alloc o).frozen? ⟨w.heap.size + 1 + 1, 0, none⟩ = false); have y1 := fun o => (blk_frozen (blk_allocO HB16.trd o) 1 : (w16.alloc o).frozen? ⟨w.heap.size + 1 + 1, 1, none⟩ = false); have y2 := fun o => (blk_frozen (blk_allocO HB16.trd o) 2 : (w16.alloc o).frozen? ⟨w.heap.size + 1 + 1, 2, none⟩ = false); have y3 := fun o => (blk_frozen (blk_allocO HB16.trd o) 3 : (w16.alloc o).frozen? ⟨w.heap.size + 1 + 1, 3, none⟩ = false)))
  refine bodyPost_ret (results_ct rfl _ _ (w.heap.size + 1 + 1) 24 #[.int .i64 u.f0, .string u.f1, .int .i64 u.f2, .slice A7 u.f3.length c7] (0, 0) _ rfl (blk_put4 (HB16.alloc _).trd) Tryd.underlying24 rfl (by kernel_rfl)) rfl ?_
  exact ⟨A7, c7, rfl, hl7, Kd.F_mono (F_set4 (Kd.F_alloc HF7.out _) (fun k hk => by have := hsz15.out; omega)) (fun k hk => by have := hsz15.out; omega), below_set4 (HB16.alloc _).below (by omega)⟩
end Go.Proofs.YtgcpfelccfnnbaaDoor.X
