/-
Part 34 of the texts of this proof: the walks through the program's functions.
-/
import Derived.Test.YtgcpfelccfnnbaaDoorMCounts2
import Derived.Test.YtgcpfelccfnnbaaDoorMCounts15
import Derived.Test.YtgcpfelccfnnbaaDoorMCounts18
import Derived.Test.YtgcpfelccfnnbaaDoorMCounts19
import Derived.Test.YtgcpfelccfnnbaaDoorMCounts31
import Derived.Test.YtgcpfelccfnnbaaDoorMCounts32
import Derived.Test.YtgcpfelccfnnbaaDoorMCounts33
namespace Go.Proofs.YtgcpfelccfnnbaaDoor.X
open Go.RowKit Go.Proofs.YtgcpfelccfnnbaaDoorW.PrintWords Go.Proofs.YtgcpfelccfnnbaaDoorW.PrintLast Go.Proofs.YtgcpfelccfnnbaaDoorW.PrintMore
attribute [local go_sem] max2_int min2_int max_two min_two max_three min_three max_four min_four   -- for this text's walks alone
set_option linter.unusedVariables false
set_option linter.unusedSimpArgs false
set_option maxRecDepth 100000 in
set_option maxHeartbeats 4000000 in
theorem withE_ok (x r y : S24) (p : List Int) (vb : Bool) (A B AR : Option Addr) (c d cR : Nat) (w : World) (hA : Kd.C k24 w A x.f3.length x.f3) (hB : Kd.C (Kd.int .i64) w B p.length p) (hC : Kd.C k24 w AR r.f3.length r.f3)
    (HROW : Aside0 (∀ W : World, Kd.C k24 W A x.f3.length x.f3 → Kd.C (Kd.int .i64) W B p.length p → Calls Tryd.prog 29 #[.agg #[.int .i64 x.f0, .string x.f1, .int .i64 x.f2, .slice A x.f3.length c], .slice B p.length d] W fun e w' => ∃ v : Value, e = .returned (.tuple #[.agg #[.int .i64 (rowE x p).1.f0, .string (rowE x p).1.f1, .int .i64 (rowE x p).1.f2, v], .int .i64 0]) ∧ Kd.R k24 24 w' W.heap.size (fun _ => True) v (rowE x p).1.f3 ∧ Below W.heap.size W w'))
    (HVR : Aside0 (∀ W : World, Kd.C k24 W AR r.f3.length r.f3 → Calls Tryd.prog 27 #[.agg #[.int .i64 r.f0, .string r.f1, .int .i64 r.f2, .slice AR r.f3.length cR]] W fun e w' => e = .returned (.bool true) ∧ Below W.heap.size W w'))
    (HWITH : Aside0 (∀ W : World, Kd.C k24 W A x.f3.length x.f3 → Kd.C (Kd.int .i64) W B p.length p → Kd.C k24 W AR r.f3.length r.f3 → Calls Tryd.prog 56 #[.agg #[.int .i64 x.f0, .string x.f1, .int .i64 x.f2, .slice A x.f3.length c], .slice B p.length d, .agg #[.int .i64 r.f0, .string r.f1, .int .i64 r.f2, .slice AR r.f3.length cR]] W fun e w' => ∃ (A' : Option Addr) (c' : Nat), e = .returned (.agg #[.int .i64 y.f0, .string y.f1, .int .i64 y.f2, .slice A' y.f3.length c']) ∧ y.f3.length ≤ c' ∧ Kd.F k24 w' (fun k => W.heap.size ≤ k) A' y.f3.length y.f3 ∧ Below W.heap.size W w'))
    (HVY : Aside0 (∀ (A' : Option Addr) (c' : Nat) (W : World), y.f3.length ≤ c' → Kd.C k24 W A' y.f3.length y.f3 → Calls Tryd.prog 27 #[.agg #[.int .i64 y.f0, .string y.f1, .int .i64 y.f2, .slice A' y.f3.length c']] W fun e w' => e = .returned (.bool vb) ∧ Below W.heap.size W w')) :
    Calls Tryd.prog 34 #[.agg #[.int .i64 x.f0, .string x.f1, .int .i64 x.f2, .slice A x.f3.length c], .slice B p.length d, .agg #[.int .i64 r.f0, .string r.f1, .int .i64 r.f2, .slice AR r.f3.length cR]] w fun e w' => ∃ (A' : Option Addr) (c' : Nat), e = .returned (.tuple #[.agg #[.int .i64 (if vb = true then y else z24).f0, .string (if vb = true then y else z24).f1, .int .i64 (if vb = true then y else z24).f2, .slice A' (if vb = true then y else z24).f3.length c'], .int .i64 (if vb = true then 0 else 6)]) ∧ (if vb = true then y else z24).f3.length ≤ c' ∧ Kd.F k24 w' (fun k => w.heap.size ≤ k) A' (if vb = true then y else z24).f3.length (if vb = true then y else z24).f3 ∧ Below w.heap.size w w' := by
  have HA := Aside0.mk hA
  have HPB := Aside0.mk hB
  have HC := Aside0.mk hC
  clear hA hB hC
  have HB3 : ∀ a b e : Obj, Aside0 (Below w.heap.size w (((w.alloc a).alloc b).alloc e)) := fun a b e => ⟨below_alloc (below_alloc (below_alloc (Below.refl _ _) _) _) _⟩
  cases vb with
  | true =>
    rw [if_pos rfl, if_pos rfl]
    go_enter Tryd.func34, Tryd.ntmps34
    go_wp2_with (first | (go_at_call 29; go_loud (refine (HROW.out _ (Kd.C_below HA.out (HB3 _ _ _).out) (Kd.C_below HPB.out (HB3 _ _ _).out)).mono ?_; rintro e w1 ⟨v, rfl, hRR, hB1⟩; obtain ⟨A1, c1, rfl⟩ := Kd.R_slice hRR; obtain ⟨HX, HR0, HZ, HBW, HSZ⟩ := withBoxes hB1; clear hRR hB1; have r0 := fun o => (blk_cell (blk_allocO HR0.out o) 0 : (w1.alloc o).cell? ⟨w.heap.size + 1, 0, none⟩ = _); have r1 := fun o => (blk_cell (blk_allocO HR0.out o) 1 : (w1.alloc o).cell? ⟨w.heap.size + 1, 1, none⟩ = _); have r2 := fun o => (blk_cell (blk_allocO HR0.out o) 2 : (w1.alloc o).cell? ⟨w.heap.size + 1, 2, none⟩ = _); have r3 := fun o => (blk_cell (blk_allocO HR0.out o) 3 : (w1.alloc o).cell? ⟨w.heap.size + 1, 3, none⟩ = _))) | (go_at_call 27; have hg := HF7; clear hg; go_loud (refine (HVY.out A7 c7 _ hl7 (Kd.C_below (Kd.F_now HF7.out) (below_alloc (Below.refl _ _) _))).mono ?_; rintro e w4 ⟨rfl, hB6⟩; have HZ4 := Aside0.mk (blk_over HZ3.out hB6); have H10 := Aside0.mk ((hB6.block w3.heap.size (by simp)).trans (heap_alloc_new w3 _)); have HBW4 := Aside0.mk (below_then (below_alloc HBW3.out _) (below_alloc HBW3.out _).size hB6); have HB34 := Aside0.mk hB6; clear hB6; have z0 := (blk_cell HZ4.out 0 : w4.cell? ⟨w.heap.size + 1 + 1, 0, none⟩ = _); have z1 := (blk_cell HZ4.out 1 : w4.cell? ⟨w.heap.size + 1 + 1, 1, none⟩ = _); have z2 := (blk_cell HZ4.out 2 : w4.cell? ⟨w.heap.size + 1 + 1, 2, none⟩ = _); have z3 := (blk_cell HZ4.out 3 : w4.cell? ⟨w.heap.size + 1 + 1, 3, none⟩ = _); have y0 := (blk_frozen HZ4.out 0 : w4.frozen? ⟨w.heap.size + 1 + 1, 0, none⟩ = false); have y1 := (blk_frozen HZ4.out 1 : w4.frozen? ⟨w.heap.size + 1 + 1, 1, none⟩ = false); have y2 := (blk_frozen HZ4.out 2 : w4.frozen? ⟨w.heap.size + 1 + 1, 2, none⟩ = false); have y3 := (blk_frozen HZ4.out 3 : w4.frozen? ⟨w.heap.size + 1 + 1, 3, none⟩ = false); have x0 := (blk_cell H10.out 0 : w4.cell? ⟨w3.heap.size, 0, none⟩ = _); have x1 := (blk_cell H10.out 1 : w4.cell? ⟨w3.heap.size, 1, none⟩ = _); have x2 := (blk_cell H10.out 2 : w4.cell? ⟨w3.heap.size, 2, none⟩ = _); have x3 := (blk_cell H10.out 3 : w4.cell? ⟨w3.heap.size, 3, none⟩ = _))) | (go_at_call 27; go_loud (refine (HVR.out _ (Kd.C_below HC.out (below_alloc HBW.out _))).mono ?_; rintro e w2 ⟨rfl, hB2⟩; have HX2 := Aside0.mk (blk_over HX.out hB2); have HR2 := Aside0.mk (blk_over HR0.out hB2); have HZ2 := Aside0.mk (blk_over HZ.out hB2); have HBW2 := Aside0.mk (below_then (below_alloc HBW.out _) (below_alloc HBW.out _).size hB2); clear hB2 r0 r1 r2 r3; have x0 := (blk_cell HX2.out 0 : w2.cell? ⟨w.heap.size, 0, none⟩ = _); have x1 := (blk_cell HX2.out 1 : w2.cell? ⟨w.heap.size, 1, none⟩ = _); have x2 := (blk_cell HX2.out 2 : w2.cell? ⟨w.heap.size, 2, none⟩ = _); have x3 := (blk_cell HX2.out 3 : w2.cell? ⟨w.heap.size, 3, none⟩ = _); have r0 := (blk_cell HR2.out 0 : w2.cell? ⟨w.heap.size + 1, 0, none⟩ = _); have r1 := (blk_cell HR2.out 1 : w2.cell? ⟨w.heap.size + 1, 1, none⟩ = _); have r2 := (blk_cell HR2.out 2 : w2.cell? ⟨w.heap.size + 1, 2, none⟩ = _); have r3 := (blk_cell HR2.out 3 : w2.cell? ⟨w.heap.size + 1, 3, none⟩ = _); have z0 := (blk_cell HZ2.out 0 : w2.cell? ⟨w.heap.size + 1 + 1, 0, none⟩ = _); have z1 := (blk_cell HZ2.out 1 : w2.cell? ⟨w.heap.size + 1 + 1, 1, none⟩ = _); have z2 := (blk_cell HZ2.out 2 : w2.cell? ⟨w.heap.size + 1 + 1, 2, none⟩ = _); have z3 := (blk_cell HZ2.out 3 : w2.cell? ⟨w.heap.size + 1 + 1, 3, none⟩ = _); have y0 := (blk_frozen HZ2.out 0 : w2.frozen? ⟨w.heap.size + 1 + 1, 0, none⟩ = false); have y1 := (blk_frozen HZ2.out 1 : w2.frozen? ⟨w.heap.size + 1 + 1, 1, none⟩ = false); have y2 := (blk_frozen HZ2.out 2 : w2.frozen? ⟨w.heap.size + 1 + 1, 2, none⟩ = false); have y3 := (blk_frozen HZ2.out 3 : w2.frozen? ⟨w.heap.size + 1 + 1, 3, none⟩ = false))) | (go_at_call 56; go_loud (refine (HWITH.out _ (Kd.C_below HA.out HBW2.out) (Kd.C_below HPB.out HBW2.out) (Kd.C_below HC.out HBW2.out)).mono ?_; rintro e w3 ⟨A7, c7, rfl, hl7, hF7, hB5⟩; have HF7 := Aside0.mk hF7; have HZ3 := Aside0.mk (blk_on HZ2.out hB5); have HBW3 := Aside0.mk (below_then HBW2.out HBW2.out.size hB5); clear hF7 hB5 x0 x1 x2 x3 r0 r1 r2 r3 z0 z1 z2 z3 y0 y1 y2 y3)))
    refine bodyPost_ret (results_ct rfl _ _ (w.heap.size + 1 + 1) 24 #[.int .i64 y.f0, .string y.f1, .int .i64 y.f2, .slice A7 y.f3.length c7] (0, 0) _ rfl (blk_put4 HZ4.out) Tryd.underlying24 rfl (by kernel_rfl)) rfl ?_
    have hsz2 := HBW2.out.size
    have hlt2 := blk_lt HZ2.out
    exact ⟨A7, c7, rfl, hl7, Kd.F_mono (F_set4 (Kd.F_below (Kd.F_alloc HF7.out _) HB34.out) (fun k hk => by omega)) (fun k hk => by omega), below_set4 HBW4.out (by omega)⟩
  | false =>
    rw [if_neg (by decide), if_neg (by decide)]
    go_enter Tryd.func34, Tryd.ntmps34
    go_wp2_with (first | (go_at_call 29; go_loud (refine (HROW.out _ (Kd.C_below HA.out (HB3 _ _ _).out) (Kd.C_below HPB.out (HB3 _ _ _).out)).mono ?_; rintro e w1 ⟨v, rfl, hRR, hB1⟩; obtain ⟨A1, c1, rfl⟩ := Kd.R_slice hRR; obtain ⟨HX, HR0, HZ, HBW, HSZ⟩ := withBoxes hB1; clear hRR hB1; have r0 := fun o => (blk_cell (blk_allocO HR0.out o) 0 : (w1.alloc o).cell? ⟨w.heap.size + 1, 0, none⟩ = _); have r1 := fun o => (blk_cell (blk_allocO HR0.out o) 1 : (w1.alloc o).cell? ⟨w.heap.size + 1, 1, none⟩ = _); have r2 := fun o => (blk_cell (blk_allocO HR0.out o) 2 : (w1.alloc o).cell? ⟨w.heap.size + 1, 2, none⟩ = _); have r3 := fun o => (blk_cell (blk_allocO HR0.out o) 3 : (w1.alloc o).cell? ⟨w.heap.size + 1, 3, none⟩ = _))) | (go_at_call 27; have hg := HF7; clear hg; go_loud (refine (HVY.out A7 c7 _ hl7 (Kd.C_below (Kd.F_now HF7.out) (below_alloc (Below.refl _ _) _))).mono ?_; rintro e w4 ⟨rfl, hB6⟩; have HZ4 := Aside0.mk (blk_over HZ3.out hB6); have H10 := Aside0.mk ((hB6.block w3.heap.size (by simp)).trans (heap_alloc_new w3 _)); have HBW4 := Aside0.mk (below_then (below_alloc HBW3.out _) (below_alloc HBW3.out _).size hB6); have HB34 := Aside0.mk hB6; clear hB6; have z0 := (blk_cell HZ4.out 0 : w4.cell? ⟨w.heap.size + 1 + 1, 0, none⟩ = _); have z1 := (blk_cell HZ4.out 1 : w4.cell? ⟨w.heap.size + 1 + 1, 1, none⟩ = _); have z2 := (blk_cell HZ4.out 2 : w4.cell? ⟨w.heap.size + 1 + 1, 2, none⟩ = _); have z3 := (blk_cell HZ4.out 3 : w4.cell? ⟨w.heap.size + 1 + 1, 3, none⟩ = _); have y0 := (blk_frozen HZ4.out 0 : w4.frozen? ⟨w.heap.size + 1 + 1, 0, none⟩ = false); have y1 := (blk_frozen HZ4.out 1 : w4.frozen? ⟨w.heap.size + 1 + 1, 1, none⟩ = false); have y2 := (blk_frozen HZ4.out 2 : w4.frozen? ⟨w.heap.size + 1 + 1, 2, none⟩ = false); have y3 := (blk_frozen HZ4.out 3 : w4.frozen? ⟨w.heap.size + 1 + 1, 3, none⟩ = false); have x0 := (blk_cell H10.out 0 : w4.cell? ⟨w3.heap.size, 0, none⟩ = _); have x1 := (blk_cell H10.out 1 : w4.cell? ⟨w3.heap.size, 1, none⟩ = _); have x2 := (blk_cell H10.out 2 : w4.cell? ⟨w3.heap.size, 2, none⟩ = _); have x3 := (blk_cell H10.out 3 : w4.cell? ⟨w3.heap.size, 3, none⟩ = _))) | (go_at_call 27; go_loud (refine (HVR.out _ (Kd.C_below HC.out (below_alloc HBW.out _))).mono ?_; rintro e w2 ⟨rfl, hB2⟩; have HX2 := Aside0.mk (blk_over HX.out hB2); have HR2 := Aside0.mk (blk_over HR0.out hB2); have HZ2 := Aside0.mk (blk_over HZ.out hB2); have HBW2 := Aside0.mk (below_then (below_alloc HBW.out _) (below_alloc HBW.out _).size hB2); clear hB2 r0 r1 r2 r3; have x0 := (blk_cell HX2.out 0 : w2.cell? ⟨w.heap.size, 0, none⟩ = _); have x1 := (blk_cell HX2.out 1 : w2.cell? ⟨w.heap.size, 1, none⟩ = _); have x2 := (blk_cell HX2.out 2 : w2.cell? ⟨w.heap.size, 2, none⟩ = _); have x3 := (blk_cell HX2.out 3 : w2.cell? ⟨w.heap.size, 3, none⟩ = _); have r0 := (blk_cell HR2.out 0 : w2.cell? ⟨w.heap.size + 1, 0, none⟩ = _); have r1 := (blk_cell HR2.out 1 : w2.cell? ⟨w.heap.size + 1, 1, none⟩ = _); have r2 := (blk_cell HR2.out 2 : w2.cell? ⟨w.heap.size + 1, 2, none⟩ = _); have r3 := (blk_cell HR2.out 3 : w2.cell? ⟨w.heap.size + 1, 3, none⟩ = _); have z0 := (blk_cell HZ2.out 0 : w2.cell? ⟨w.heap.size + 1 + 1, 0, none⟩ = _); have z1 := (blk_cell HZ2.out 1 : w2.cell? ⟨w.heap.size + 1 + 1, 1, none⟩ = _); have z2 := (blk_cell HZ2.out 2 : w2.cell? ⟨w.heap.size + 1 + 1, 2, none⟩ = _); have z3 := (blk_cell HZ2.out 3 : w2.cell? ⟨w.heap.size + 1 + 1, 3, none⟩ = _); have y0 := (blk_frozen HZ2.out 0 : w2.frozen? ⟨w.heap.size + 1 + 1, 0, none⟩ = false); have y1 := (blk_frozen HZ2.out 1 : w2.frozen? ⟨w.heap.size + 1 + 1, 1, none⟩ = false); have y2 := (blk_frozen HZ2.out 2 : w2.frozen? ⟨w.heap.size + 1 + 1, 2, none⟩ = false); have y3 := (blk_frozen HZ2.out 3 : w2.frozen? ⟨w.heap.size + 1 + 1, 3, none⟩ = false))) | (go_at_call 56; go_loud (refine (HWITH.out _ (Kd.C_below HA.out HBW2.out) (Kd.C_below HPB.out HBW2.out) (Kd.C_below HC.out HBW2.out)).mono ?_; rintro e w3 ⟨A7, c7, rfl, hl7, hF7, hB5⟩; have HF7 := Aside0.mk hF7; have HZ3 := Aside0.mk (blk_on HZ2.out hB5); have HBW3 := Aside0.mk (below_then HBW2.out HBW2.out.size hB5); clear hF7 hB5 x0 x1 x2 x3 r0 r1 r2 r3 z0 z1 z2 z3 y0 y1 y2 y3)))
    refine bodyPost_ret (results_ct rfl _ _ (w.heap.size + 1 + 1) 24 #[.int .i64 0, .string ⟨#[]⟩, .int .i64 0, .slice none 0 0] (0, 0) _ rfl (blk_put4 HZ4.out) Tryd.underlying24 rfl (by kernel_rfl)) rfl ?_
    exact ⟨none, 0, rfl, Nat.le_refl _, Kd.F_nil _ _ _, below_set4 HBW4.out (by omega)⟩
set_option maxRecDepth 100000 in
set_option maxHeartbeats 2000000 in
theorem withE_any (x r : S24) (p : List Int) (A B AR : Option Addr) (c d cR : Nat) (w : World) (hfx : fine x = true) (hfr : fine r = true) (hc : x.f3.length ≤ c) (hd : p.length ≤ d) (hR : r.f3.length ≤ cR) (hA : Kd.C k24 w A x.f3.length x.f3) (hB : Kd.C (Kd.int .i64) w B p.length p) (hC : Kd.C k24 w AR r.f3.length r.f3) :
    Calls Tryd.prog 34 #[.agg #[.int .i64 x.f0, .string x.f1, .int .i64 x.f2, .slice A x.f3.length c], .slice B p.length d, .agg #[.int .i64 r.f0, .string r.f1, .int .i64 r.f2, .slice AR r.f3.length cR]] w fun e w' => ∃ (A' : Option Addr) (c' : Nat), e = .returned (.tuple #[.agg #[.int .i64 (withE x p r).1.f0, .string (withE x p r).1.f1, .int .i64 (withE x p r).1.f2, .slice A' (withE x p r).1.f3.length c'], .int .i64 (withE x p r).2]) ∧ (withE x p r).1.f3.length ≤ c' ∧ Kd.F k24 w' (fun k => w.heap.size ≤ k) A' (withE x p r).1.f3.length (withE x p r).1.f3 ∧ Below w.heap.size w w' := by
  have HA := Aside0.mk hA
  have HPB := Aside0.mk hB
  have HC := Aside0.mk hC
  clear hA hB hC
  have HB3 : ∀ a b e : Obj, Aside0 (Below w.heap.size w (((w.alloc a).alloc b).alloc e)) := fun a b e => ⟨below_alloc (below_alloc (below_alloc (Below.refl _ _) _) _) _⟩
  obtain ⟨ev, hev⟩ : ∃ ev, (rowE x p).2 = ev := ⟨_, rfl⟩
  have HEV := Aside0.mk hev
  clear hev
  by_cases he : ev = 0
  · subst he
    have HG : Aside0 (validB x = true ∧ (rowG x p).2 = true) := ⟨by
      have h1 := HEV.out
      unfold rowE at h1
      by_cases hv : validB x = true
      · rw [if_pos hv] at h1
        by_cases hr : (rowG x p).2 = true
        · exact ⟨hv, hr⟩
        · rw [if_neg hr] at h1; simp at h1
      · rw [if_neg hv] at h1; simp at h1⟩
    have hrow := fun W hA hB => rowE_any x p A B c d W hfx hc hd hA hB
    rw [HEV.out] at hrow
    have HROW := Aside0.mk hrow
    clear hrow
    by_cases hvr : validB r = true
    · have hcx : cnt x ≤ 1000000 := by have := valid_cnt HG.out.1; omega
      have hcr : cnt r ≤ 1000000 := by have := valid_cnt hvr; omega
      have HOK := Aside0.mk (row_ok p.length x p (Nat.le_refl _) HG.out.2)
      have hfw : fine (withG x p r) = true := with_fine p.length x p r (Nat.le_refl _) HOK.out hfx hfr
      have hR2 : withE x p r = (if validB (withG x p r) = true then withG x p r else z24, if validB (withG x p r) = true then 0 else 6) := by
        unfold withE; rw [if_pos HG.out.1, if_pos HG.out.2, if_pos hvr]; split <;> rfl
      rw [hR2]
      exact withE_ok x r (withG x p r) p (validB (withG x p r)) A B AR c d cR w HA.out HPB.out HC.out HROW ⟨fun W h => by rw [← hvr]; exact valid_any r AR cR W hfr hR h⟩ ⟨fun W h1 h2 h3 => with_any p.length x p r A B AR c d cR W (Nat.le_refl _) HOK.out hcx hcr hc hd hR h1 h2 h3⟩ ⟨fun A' c' W h1 h2 => valid_any (withG x p r) A' c' W hfw h1 h2⟩
    · have HR : Aside0 (withE x p r = (z24, 4)) := ⟨by unfold withE; rw [if_pos HG.out.1, if_pos HG.out.2, if_neg hvr]⟩
      have hvr2 : validB r = false := by simpa using hvr
      clear hvr
      go_enter Tryd.func34, Tryd.ntmps34
      go_wp2_with (first | (go_at_call 29; go_loud (refine (HROW.out _ (Kd.C_below HA.out (HB3 _ _ _).out) (Kd.C_below HPB.out (HB3 _ _ _).out)).mono ?_; rintro e w1 ⟨v, rfl, hRR, hB1⟩; obtain ⟨A1, c1, rfl⟩ := Kd.R_slice hRR; obtain ⟨HX, HR0, HZ, HBW, HSZ⟩ := withBoxes hB1; clear hRR hB1; have r0 := fun o => (blk_cell (blk_allocO HR0.out o) 0 : (w1.alloc o).cell? ⟨w.heap.size + 1, 0, none⟩ = _); have r1 := fun o => (blk_cell (blk_allocO HR0.out o) 1 : (w1.alloc o).cell? ⟨w.heap.size + 1, 1, none⟩ = _); have r2 := fun o => (blk_cell (blk_allocO HR0.out o) 2 : (w1.alloc o).cell? ⟨w.heap.size + 1, 2, none⟩ = _); have r3 := fun o => (blk_cell (blk_allocO HR0.out o) 3 : (w1.alloc o).cell? ⟨w.heap.size + 1, 3, none⟩ = _))) | (go_at_call 27; go_loud (refine (valid_any r AR cR _ hfr hR (Kd.C_below HC.out (below_alloc HBW.out _))).mono ?_; rintro e w2 ⟨rfl, hB2⟩; have HX2 := Aside0.mk (blk_over HX.out hB2); have HR2 := Aside0.mk (blk_over HR0.out hB2); have HZ2 := Aside0.mk (blk_over HZ.out hB2); have HBW2 := Aside0.mk (below_then (below_alloc HBW.out _) (below_alloc HBW.out _).size hB2); clear hB2 r0 r1 r2 r3; have x0 := (blk_cell HX2.out 0 : w2.cell? ⟨w.heap.size, 0, none⟩ = _); have x1 := (blk_cell HX2.out 1 : w2.cell? ⟨w.heap.size, 1, none⟩ = _); have x2 := (blk_cell HX2.out 2 : w2.cell? ⟨w.heap.size, 2, none⟩ = _); have x3 := (blk_cell HX2.out 3 : w2.cell? ⟨w.heap.size, 3, none⟩ = _); have r0 := (blk_cell HR2.out 0 : w2.cell? ⟨w.heap.size + 1, 0, none⟩ = _); have r1 := (blk_cell HR2.out 1 : w2.cell? ⟨w.heap.size + 1, 1, none⟩ = _); have r2 := (blk_cell HR2.out 2 : w2.cell? ⟨w.heap.size + 1, 2, none⟩ = _); have r3 := (blk_cell HR2.out 3 : w2.cell? ⟨w.heap.size + 1, 3, none⟩ = _); have z0 := (blk_cell HZ2.out 0 : w2.cell? ⟨w.heap.size + 1 + 1, 0, none⟩ = _); have z1 := (blk_cell HZ2.out 1 : w2.cell? ⟨w.heap.size + 1 + 1, 1, none⟩ = _); have z2 := (blk_cell HZ2.out 2 : w2.cell? ⟨w.heap.size + 1 + 1, 2, none⟩ = _); have z3 := (blk_cell HZ2.out 3 : w2.cell? ⟨w.heap.size + 1 + 1, 3, none⟩ = _); have y0 := (blk_frozen HZ2.out 0 : w2.frozen? ⟨w.heap.size + 1 + 1, 0, none⟩ = false); have y1 := (blk_frozen HZ2.out 1 : w2.frozen? ⟨w.heap.size + 1 + 1, 1, none⟩ = false); have y2 := (blk_frozen HZ2.out 2 : w2.frozen? ⟨w.heap.size + 1 + 1, 2, none⟩ = false); have y3 := (blk_frozen HZ2.out 3 : w2.frozen? ⟨w.heap.size + 1 + 1, 3, none⟩ = false))))
      refine bodyPost_ret (results_ct rfl _ _ (w.heap.size + 1 + 1) 24 #[.int .i64 0, .string ⟨#[]⟩, .int .i64 0, .slice none 0 0] (0, 0) _ rfl (blk_put4 HZ2.out) Tryd.underlying24 rfl (by kernel_rfl)) rfl ?_
      exact ⟨none, 0, by rw [HR.out]; rfl, by rw [HR.out]; exact Nat.le_refl _, by rw [HR.out]; exact Kd.F_nil _ _ _, below_set4 HBW2.out (by omega)⟩
  · have HR : Aside0 (withE x p r = (z24, ev)) := ⟨by
      have h1 := HEV.out
      unfold rowE at h1
      unfold withE
      by_cases hv : validB x = true
      · rw [if_pos hv] at h1 ⊢
        by_cases hr : (rowG x p).2 = true
        · rw [if_pos hr] at h1; exact absurd h1.symm he
        · rw [if_neg hr] at h1 ⊢; rw [← h1]
      · rw [if_neg hv] at h1 ⊢; rw [← h1]⟩
    have hrow := fun W hA hB => rowE_any x p A B c d W hfx hc hd hA hB
    rw [HEV.out] at hrow
    have HROW := Aside0.mk hrow
    clear hrow
    go_enter Tryd.func34, Tryd.ntmps34
    go_wp2_with (go_at_call 29; go_loud (refine (HROW.out _ (Kd.C_below HA.out (HB3 _ _ _).out) (Kd.C_below HPB.out (HB3 _ _ _).out)).mono ?_; rintro e w1 ⟨v, rfl, hRR, hB1⟩; obtain ⟨A1, c1, rfl⟩ := Kd.R_slice hRR; obtain ⟨HX, HR0, HZ, HBW, HSZ⟩ := withBoxes hB1; clear hRR hB1; have z0 := fun o => (blk_cell (blk_allocO HZ.out o) 0 : (w1.alloc o).cell? ⟨w.heap.size + 1 + 1, 0, none⟩ = _); have z1 := fun o => (blk_cell (blk_allocO HZ.out o) 1 : (w1.alloc o).cell? ⟨w.heap.size + 1 + 1, 1, none⟩ = _); have z2 := fun o => (blk_cell (blk_allocO HZ.out o) 2 : (w1.alloc o).cell? ⟨w.heap.size + 1 + 1, 2, none⟩ = _); have z3 := fun o => (blk_cell (blk_allocO HZ.out o) 3 : (w1.alloc o).cell? ⟨w.heap.size + 1 + 1, 3, none⟩ = _); have y0 := fun o => (blk_frozen (blk_allocO HZ.out o) 0 : (w1.alloc o).frozen? ⟨w.heap.size + 1 + 1, 0, none⟩ = false); have y1 := fun o => (blk_frozen (blk_allocO HZ.out o) 1 : (w1.alloc o).frozen? ⟨w.heap.size + 1 + 1, 1, none⟩ = false); have y2 := fun o => (blk_frozen (blk_allocO HZ.out o) 2 : (w1.alloc o).frozen? ⟨w.heap.size + 1 + 1, 2, none⟩ = false); have y3 := fun o => (blk_frozen (blk_allocO HZ.out o) 3 : (w1.alloc o).frozen? ⟨w.heap.size + 1 + 1, 3, none⟩ = false)))
    refine bodyPost_ret (results_ct rfl _ _ (w.heap.size + 1 + 1) 24 #[.int .i64 0, .string ⟨#[]⟩, .int .i64 0, .slice none 0 0] (0, 0) _ rfl (blk_put4 (blk_allocO HZ.out _)) Tryd.underlying24 rfl (by kernel_rfl)) rfl ?_
    exact ⟨none, 0, by rw [HR.out]; rfl, by rw [HR.out]; exact Nat.le_refl _, by rw [HR.out]; exact Kd.F_nil _ _ _, below_set4 (below_alloc HBW.out _) (by omega)⟩
end Go.Proofs.YtgcpfelccfnnbaaDoor.X
