/-
Part 20 of the texts of this proof: the walks through the program's functions.
-/
import Derived.Test.YtgcpfelccfnnbaaDoorMCounts2
namespace Go.Proofs.YtgcpfelccfnnbaaDoor.X
open Go.RowKit Go.Proofs.YtgcpfelccfnnbaaDoorW.PrintWords Go.Proofs.YtgcpfelccfnnbaaDoorW.PrintLast Go.Proofs.YtgcpfelccfnnbaaDoorW.PrintMore
attribute [local go_sem] max2_int min2_int max_two min_two max_three min_three max_four min_four   -- for this text's walks alone
set_option linter.unusedVariables false
set_option linter.unusedSimpArgs false
def edit_needs.f (a0_0 : Int) (l0_1 : List Int) (a0_2 : Int) (a0_3 : Int) (l0_4 : List (S24)) (a0_5 : Int) (a0_6 : ByteArray) (a0_7 : ByteArray) : Option (Int) := if a0_0 = 1 then (some 0) else (if a0_0 = 2 then (some (l0_4.length : Int)) else (if a0_0 = 3 then (some a0_3) else (some 1)))
set_option maxHeartbeats 8000000 in
set_option maxRecDepth 100000 in
theorem edit_needs.calls (a0_0 : Int) (A0_1 : Option Addr) (c0_1 : Nat) (l0_1 : List Int) (a0_2 : Int) (a0_3 : Int) (A0_4 : Option Addr) (c0_4 : Nat) (l0_4 : List (S24)) (a0_5 : Int) (a0_6 : ByteArray) (a0_7 : ByteArray) (r : Int) (w : World) (hr0_1 : Kd.C (Kd.int .i64) w A0_1 l0_1.length l0_1) (hc0_1 : l0_1.length ≤ c0_1) (hr0_4 : Kd.C k24 w A0_4 l0_4.length l0_4) (hc0_4 : l0_4.length ≤ c0_4) (h : edit_needs.f a0_0 l0_1 a0_2 a0_3 l0_4 a0_5 a0_6 a0_7 = some r) :
    Calls Tryd.prog 30 #[.agg #[.int .i64 a0_0, .slice A0_1 l0_1.length c0_1, .int .i64 a0_2, .int .i64 a0_3, .slice A0_4 l0_4.length c0_4, .int .i64 a0_5, .string a0_6, .string a0_7]] w fun e w' => e = .returned (.int .i64 r) ∧ Below w.heap.size w w' := by
  have hu27 := Tryd.underlying27
  have HR0_1 := Aside0.mk hr0_1
  have HC0_1 := Aside0.mk hc0_1
  clear hr0_1 hc0_1
  have HR0_4 := Aside0.mk hr0_4
  have HC0_4 := Aside0.mk hc0_4
  clear hr0_4 hc0_4
  have HB := Aside0.mk (Below.refl w.heap.size w)
  have H : (if a0_0 = 1 then (some 0) else (if a0_0 = 2 then (some (l0_4.length : Int)) else (if a0_0 = 3 then (some a0_3) else (some 1)))) = some r := h
  clear h
  by_cases c2 : a0_0 = 1
  · rw [if_pos c2] at H
    have c2b0 : (a0_0 == 1) = true := beq_iff_eq.mpr c2
    have c2b1 : (a0_0 != 1) = false := bne_eq_false_iff_eq.mpr c2
    clear c2
    obtain rfl := Option.some.inj H
    go_enter Tryd.func30, Tryd.ntmps30
    go_wp2_with (first | ((with_reducible refine gate_dst (N := 1) rfl ?_); refine box_event ?hg (N := 1) ?hd (cs := #[.int .i64 a0_0, .slice A0_1 l0_1.length c0_1, .int .i64 a0_2, .int .i64 a0_3, .slice A0_4 l0_4.length c0_4, .int .i64 a0_5, .string a0_6, .string a0_7]) (t := 27) ?hr ?_; (case hd => rfl); (case hg => rfl); (case hr => first | (go_simp; done) | (go_simp; rfl)); intro gb158 hg w3 hbox hb; have n0_ := Aside0.mk (below_step (by repeat (first | (with_reducible first | exact HB.out | apply below_alloc | apply pw_below_drewN | apply below_drew1) | exact HB.out)) hb); have n1_ := Aside0.mk (hbox); have n2_ := Aside0.mk ((by rw [hg]; exact (below_size (by repeat (first | (with_reducible first | exact HB.out | apply below_alloc | apply pw_below_drewN | apply below_drew1) | exact HB.out))) : w.heap.size ≤ gb158)); have n3_ := Aside0.mk ((by rw [hg]; exact (below_size (by repeat (first | (with_reducible first | exact HB.out | apply below_alloc | apply pw_below_drewN | apply below_drew1) | exact HB.out))) : w.heap.size ≤ gb158)); clear HB; have HB := n0_; have BK158 := n1_; have GW158 := n2_; have GE158 := n3_; clear n0_ n1_ n2_ n3_; clear hb hbox hg; have hcz4_0 : w3.cell? ⟨gb158, 0, none⟩ = some (.int .i64 a0_0) := (blk_cell BK158.out 0).trans rfl; have hcz4_1 : w3.cell? ⟨gb158, 1, none⟩ = some (.slice A0_1 l0_1.length c0_1) := (blk_cell BK158.out 1).trans rfl; have hcz4_2 : w3.cell? ⟨gb158, 2, none⟩ = some (.int .i64 a0_2) := (blk_cell BK158.out 2).trans rfl; have hcz4_3 : w3.cell? ⟨gb158, 3, none⟩ = some (.int .i64 a0_3) := (blk_cell BK158.out 3).trans rfl; have hcz4_4 : w3.cell? ⟨gb158, 4, none⟩ = some (.slice A0_4 l0_4.length c0_4) := (blk_cell BK158.out 4).trans rfl; have hcz4_5 : w3.cell? ⟨gb158, 5, none⟩ = some (.int .i64 a0_5) := (blk_cell BK158.out 5).trans rfl; have hcz4_6 : w3.cell? ⟨gb158, 6, none⟩ = some (.string a0_6) := (blk_cell BK158.out 6).trans rfl; have hcz4_7 : w3.cell? ⟨gb158, 7, none⟩ = some (.string a0_7) := (blk_cell BK158.out 7).trans rfl; have hfz4_0 := blk_frozen BK158.out 0; have hfz4_1 := blk_frozen BK158.out 1; have hfz4_2 := blk_frozen BK158.out 2; have hfz4_3 := blk_frozen BK158.out 3; have hfz4_4 := blk_frozen BK158.out 4; have hfz4_5 := blk_frozen BK158.out 5; have hfz4_6 := blk_frozen BK158.out 6; have hfz4_7 := blk_frozen BK158.out 7))
    go_ret
    exact ⟨by first | rfl | (simp [errW_none, errW_some] <;> rfl) | (simp [*, errW_none, errW_some] <;> rfl), by repeat (first | (with_reducible first | exact HB.out | apply below_alloc | apply pw_below_drewN | apply below_drew1 | refine below_set ?_ GE158.out) | exact HB.out)⟩
  · rw [if_neg c2] at H
    have c2b0 : (a0_0 == 1) = false := beq_eq_false_iff_ne.mpr c2
    have c2b1 : (a0_0 != 1) = true := bne_iff_ne.mpr c2
    by_cases c5 : a0_0 = 2
    · rw [if_pos c5] at H
      have c5b0 : (a0_0 == 2) = true := beq_iff_eq.mpr c5
      have c5b1 : (a0_0 != 2) = false := bne_eq_false_iff_eq.mpr c5
      clear c5
      obtain rfl := Option.some.inj H
      go_enter Tryd.func30, Tryd.ntmps30
      go_wp2_with (first | ((with_reducible refine gate_dst (N := 1) rfl ?_); refine box_event ?hg (N := 1) ?hd (cs := #[.int .i64 a0_0, .slice A0_1 l0_1.length c0_1, .int .i64 a0_2, .int .i64 a0_3, .slice A0_4 l0_4.length c0_4, .int .i64 a0_5, .string a0_6, .string a0_7]) (t := 27) ?hr ?_; (case hd => rfl); (case hg => rfl); (case hr => first | (go_simp; done) | (go_simp; rfl)); intro gb158 hg w6 hbox hb; have n0_ := Aside0.mk (below_step (by repeat (first | (with_reducible first | exact HB.out | apply below_alloc | apply pw_below_drewN | apply below_drew1) | exact HB.out)) hb); have n1_ := Aside0.mk (hbox); have n2_ := Aside0.mk ((by rw [hg]; exact (below_size (by repeat (first | (with_reducible first | exact HB.out | apply below_alloc | apply pw_below_drewN | apply below_drew1) | exact HB.out))) : w.heap.size ≤ gb158)); have n3_ := Aside0.mk ((by rw [hg]; exact (below_size (by repeat (first | (with_reducible first | exact HB.out | apply below_alloc | apply pw_below_drewN | apply below_drew1) | exact HB.out))) : w.heap.size ≤ gb158)); clear HB; have HB := n0_; have BK158 := n1_; have GW158 := n2_; have GE158 := n3_; clear n0_ n1_ n2_ n3_; clear hb hbox hg; have hcz7_0 : w6.cell? ⟨gb158, 0, none⟩ = some (.int .i64 a0_0) := (blk_cell BK158.out 0).trans rfl; have hcz7_1 : w6.cell? ⟨gb158, 1, none⟩ = some (.slice A0_1 l0_1.length c0_1) := (blk_cell BK158.out 1).trans rfl; have hcz7_2 : w6.cell? ⟨gb158, 2, none⟩ = some (.int .i64 a0_2) := (blk_cell BK158.out 2).trans rfl; have hcz7_3 : w6.cell? ⟨gb158, 3, none⟩ = some (.int .i64 a0_3) := (blk_cell BK158.out 3).trans rfl; have hcz7_4 : w6.cell? ⟨gb158, 4, none⟩ = some (.slice A0_4 l0_4.length c0_4) := (blk_cell BK158.out 4).trans rfl; have hcz7_5 : w6.cell? ⟨gb158, 5, none⟩ = some (.int .i64 a0_5) := (blk_cell BK158.out 5).trans rfl; have hcz7_6 : w6.cell? ⟨gb158, 6, none⟩ = some (.string a0_6) := (blk_cell BK158.out 6).trans rfl; have hcz7_7 : w6.cell? ⟨gb158, 7, none⟩ = some (.string a0_7) := (blk_cell BK158.out 7).trans rfl; have hfz7_0 := blk_frozen BK158.out 0; have hfz7_1 := blk_frozen BK158.out 1; have hfz7_2 := blk_frozen BK158.out 2; have hfz7_3 := blk_frozen BK158.out 3; have hfz7_4 := blk_frozen BK158.out 4; have hfz7_5 := blk_frozen BK158.out 5; have hfz7_6 := blk_frozen BK158.out 6; have hfz7_7 := blk_frozen BK158.out 7))
      go_ret
      exact ⟨by first | rfl | (simp [errW_none, errW_some] <;> rfl) | (simp [*, errW_none, errW_some] <;> rfl), by repeat (first | (with_reducible first | exact HB.out | apply below_alloc | apply pw_below_drewN | apply below_drew1 | refine below_set ?_ GE158.out) | exact HB.out)⟩
    · rw [if_neg c5] at H
      have c5b0 : (a0_0 == 2) = false := beq_eq_false_iff_ne.mpr c5
      have c5b1 : (a0_0 != 2) = true := bne_iff_ne.mpr c5
      by_cases c8 : a0_0 = 3
      · rw [if_pos c8] at H
        have c8b0 : (a0_0 == 3) = true := beq_iff_eq.mpr c8
        have c8b1 : (a0_0 != 3) = false := bne_eq_false_iff_eq.mpr c8
        clear c8
        obtain rfl := Option.some.inj H
        go_enter Tryd.func30, Tryd.ntmps30
        go_wp2_with (first | ((with_reducible refine gate_dst (N := 1) rfl ?_); refine box_event ?hg (N := 1) ?hd (cs := #[.int .i64 a0_0, .slice A0_1 l0_1.length c0_1, .int .i64 a0_2, .int .i64 a0_3, .slice A0_4 l0_4.length c0_4, .int .i64 a0_5, .string a0_6, .string a0_7]) (t := 27) ?hr ?_; (case hd => rfl); (case hg => rfl); (case hr => first | (go_simp; done) | (go_simp; rfl)); intro gb158 hg w9 hbox hb; have n0_ := Aside0.mk (below_step (by repeat (first | (with_reducible first | exact HB.out | apply below_alloc | apply pw_below_drewN | apply below_drew1) | exact HB.out)) hb); have n1_ := Aside0.mk (hbox); have n2_ := Aside0.mk ((by rw [hg]; exact (below_size (by repeat (first | (with_reducible first | exact HB.out | apply below_alloc | apply pw_below_drewN | apply below_drew1) | exact HB.out))) : w.heap.size ≤ gb158)); have n3_ := Aside0.mk ((by rw [hg]; exact (below_size (by repeat (first | (with_reducible first | exact HB.out | apply below_alloc | apply pw_below_drewN | apply below_drew1) | exact HB.out))) : w.heap.size ≤ gb158)); clear HB; have HB := n0_; have BK158 := n1_; have GW158 := n2_; have GE158 := n3_; clear n0_ n1_ n2_ n3_; clear hb hbox hg; have hcz10_0 : w9.cell? ⟨gb158, 0, none⟩ = some (.int .i64 a0_0) := (blk_cell BK158.out 0).trans rfl; have hcz10_1 : w9.cell? ⟨gb158, 1, none⟩ = some (.slice A0_1 l0_1.length c0_1) := (blk_cell BK158.out 1).trans rfl; have hcz10_2 : w9.cell? ⟨gb158, 2, none⟩ = some (.int .i64 a0_2) := (blk_cell BK158.out 2).trans rfl; have hcz10_3 : w9.cell? ⟨gb158, 3, none⟩ = some (.int .i64 a0_3) := (blk_cell BK158.out 3).trans rfl; have hcz10_4 : w9.cell? ⟨gb158, 4, none⟩ = some (.slice A0_4 l0_4.length c0_4) := (blk_cell BK158.out 4).trans rfl; have hcz10_5 : w9.cell? ⟨gb158, 5, none⟩ = some (.int .i64 a0_5) := (blk_cell BK158.out 5).trans rfl; have hcz10_6 : w9.cell? ⟨gb158, 6, none⟩ = some (.string a0_6) := (blk_cell BK158.out 6).trans rfl; have hcz10_7 : w9.cell? ⟨gb158, 7, none⟩ = some (.string a0_7) := (blk_cell BK158.out 7).trans rfl; have hfz10_0 := blk_frozen BK158.out 0; have hfz10_1 := blk_frozen BK158.out 1; have hfz10_2 := blk_frozen BK158.out 2; have hfz10_3 := blk_frozen BK158.out 3; have hfz10_4 := blk_frozen BK158.out 4; have hfz10_5 := blk_frozen BK158.out 5; have hfz10_6 := blk_frozen BK158.out 6; have hfz10_7 := blk_frozen BK158.out 7))
        go_ret
        exact ⟨by first | rfl | (simp [errW_none, errW_some] <;> rfl) | (simp [*, errW_none, errW_some] <;> rfl), by repeat (first | (with_reducible first | exact HB.out | apply below_alloc | apply pw_below_drewN | apply below_drew1 | refine below_set ?_ GE158.out) | exact HB.out)⟩
      · rw [if_neg c8] at H
        have c8b0 : (a0_0 == 3) = false := beq_eq_false_iff_ne.mpr c8
        have c8b1 : (a0_0 != 3) = true := bne_iff_ne.mpr c8
        obtain rfl := Option.some.inj H
        go_enter Tryd.func30, Tryd.ntmps30
        go_wp2_with (first | ((with_reducible refine gate_dst (N := 1) rfl ?_); refine box_event ?hg (N := 1) ?hd (cs := #[.int .i64 a0_0, .slice A0_1 l0_1.length c0_1, .int .i64 a0_2, .int .i64 a0_3, .slice A0_4 l0_4.length c0_4, .int .i64 a0_5, .string a0_6, .string a0_7]) (t := 27) ?hr ?_; (case hd => rfl); (case hg => rfl); (case hr => first | (go_simp; done) | (go_simp; rfl)); intro gb158 hg w11 hbox hb; have n0_ := Aside0.mk (below_step (by repeat (first | (with_reducible first | exact HB.out | apply below_alloc | apply pw_below_drewN | apply below_drew1) | exact HB.out)) hb); have n1_ := Aside0.mk (hbox); have n2_ := Aside0.mk ((by rw [hg]; exact (below_size (by repeat (first | (with_reducible first | exact HB.out | apply below_alloc | apply pw_below_drewN | apply below_drew1) | exact HB.out))) : w.heap.size ≤ gb158)); have n3_ := Aside0.mk ((by rw [hg]; exact (below_size (by repeat (first | (with_reducible first | exact HB.out | apply below_alloc | apply pw_below_drewN | apply below_drew1) | exact HB.out))) : w.heap.size ≤ gb158)); clear HB; have HB := n0_; have BK158 := n1_; have GW158 := n2_; have GE158 := n3_; clear n0_ n1_ n2_ n3_; clear hb hbox hg; have hcz12_0 : w11.cell? ⟨gb158, 0, none⟩ = some (.int .i64 a0_0) := (blk_cell BK158.out 0).trans rfl; have hcz12_1 : w11.cell? ⟨gb158, 1, none⟩ = some (.slice A0_1 l0_1.length c0_1) := (blk_cell BK158.out 1).trans rfl; have hcz12_2 : w11.cell? ⟨gb158, 2, none⟩ = some (.int .i64 a0_2) := (blk_cell BK158.out 2).trans rfl; have hcz12_3 : w11.cell? ⟨gb158, 3, none⟩ = some (.int .i64 a0_3) := (blk_cell BK158.out 3).trans rfl; have hcz12_4 : w11.cell? ⟨gb158, 4, none⟩ = some (.slice A0_4 l0_4.length c0_4) := (blk_cell BK158.out 4).trans rfl; have hcz12_5 : w11.cell? ⟨gb158, 5, none⟩ = some (.int .i64 a0_5) := (blk_cell BK158.out 5).trans rfl; have hcz12_6 : w11.cell? ⟨gb158, 6, none⟩ = some (.string a0_6) := (blk_cell BK158.out 6).trans rfl; have hcz12_7 : w11.cell? ⟨gb158, 7, none⟩ = some (.string a0_7) := (blk_cell BK158.out 7).trans rfl; have hfz12_0 := blk_frozen BK158.out 0; have hfz12_1 := blk_frozen BK158.out 1; have hfz12_2 := blk_frozen BK158.out 2; have hfz12_3 := blk_frozen BK158.out 3; have hfz12_4 := blk_frozen BK158.out 4; have hfz12_5 := blk_frozen BK158.out 5; have hfz12_6 := blk_frozen BK158.out 6; have hfz12_7 := blk_frozen BK158.out 7))
        go_ret
        exact ⟨by first | rfl | (simp [errW_none, errW_some] <;> rfl) | (simp [*, errW_none, errW_some] <;> rfl), by repeat (first | (with_reducible first | exact HB.out | apply below_alloc | apply pw_below_drewN | apply below_drew1 | refine below_set ?_ GE158.out) | exact HB.out)⟩
end Go.Proofs.YtgcpfelccfnnbaaDoor.X
namespace Go.Proofs.YtgcpfelccfnnbaaDoor.X
open Go.RowKit Go.Proofs.YtgcpfelccfnnbaaDoorW.PrintWords Go.Proofs.YtgcpfelccfnnbaaDoorW.PrintLast Go.Proofs.YtgcpfelccfnnbaaDoorW.PrintMore
attribute [local go_sem] max2_int min2_int max_two min_two max_three min_three max_four min_four   -- for this text's walks alone
set_option linter.unusedVariables false
set_option linter.unusedSimpArgs false
mutual
def eqN : S24 → S24 → Bool
  | ⟨k, t, c, l⟩, y => decide (k = y.f0) && (decide (t.data.toList = y.f1.data.toList) && (decide (c = y.f2) && eqL l y.f3))
def eqL : List S24 → List S24 → Bool
  | [], ys => ys.isEmpty
  | x :: xs, [] => false
  | x :: xs, y :: ys => eqN x y && eqL xs ys
end
theorem eqL_len : ∀ {xs ys : List S24}, ¬ xs.length = ys.length → eqL xs ys = false
  | [], [], h => absurd rfl h
  | [], y :: ys, _ => by simp [eqL]
  | x :: xs, [], _ => by simp [eqL]
  | x :: xs, y :: ys, h => by
    simp only [eqL, eqL_len (xs := xs) (ys := ys) (by simpa using h), Bool.and_false]
def EqSpec (f : Nat) (N : Nat) : Prop := ∀ (x y : S24) (A B : Option Addr) (c d : Nat) (w : World), cnt x ≤ N → x.f3.length ≤ c → y.f3.length ≤ d → Kd.C k24 w A x.f3.length x.f3 → Kd.C k24 w B y.f3.length y.f3 →
    Calls Tryd.prog f #[.agg #[.int .i64 x.f0, .string x.f1, .int .i64 x.f2, .slice A x.f3.length c], .agg #[.int .i64 y.f0, .string y.f1, .int .i64 y.f2, .slice B y.f3.length d]] w fun e w' => e = .returned (.bool (eqN x y)) ∧ Below w.heap.size w w'
/-- Element i of a row that came in, where a later world is read. -/
theorem elemAt {w wr : World} {l : List S24} {A : Option Addr} {i : Nat} (h : Kd.C k24 w A l.length l) (hb : Below w.heap.size w wr) (hi : i < l.length) :
    ∃ ad A3 c3, A = some ad ∧ (nth l i).f3.length ≤ c3 ∧ Aside0 (Kd.C k24 wr A3 (nth l i).f3.length (nth l i).f3) ∧
    wr.cell? (ad.add (i * 4)) = some (.int .i64 (nth l i).f0) ∧ wr.cell? ⟨(ad.add (i * 4)).block, (ad.add (i * 4)).off + 1, none⟩ = some (.string (nth l i).f1) ∧ wr.cell? ⟨(ad.add (i * 4)).block, (ad.add (i * 4)).off + 2, none⟩ = some (.int .i64 (nth l i).f2) ∧ wr.cell? ⟨(ad.add (i * 4)).block, (ad.add (i * 4)).off + 3, none⟩ = some (.slice A3 (nth l i).f3.length c3) := by
  obtain ⟨ad, cs, rfl, hcl, hK, hcc⟩ := Kd.C_get (Kd.C_below h hb) z24 (i : Int) (by omega) (by omega)
  simp only [Int.toNat_natCast] at hK hcc
  obtain ⟨A3, c3, rfl, hl3, hF3⟩ := k24_open hK
  have hnx : l.getD i z24 = nth l i := rfl
  rw [hnx] at hcc hl3 hF3
  exact ⟨ad, A3, c3, rfl, hl3, ⟨hF3⟩, hcc 0 _ rfl, by rw [← add_field _ _ 1 (by omega)]; exact hcc 1 _ rfl, by rw [← add_field _ _ 2 (by omega)]; exact hcc 2 _ rfl, by rw [← add_field _ _ 3 (by omega)]; exact hcc 3 _ rfl⟩
theorem cell_alloc {w : World} {a : Addr} {v : Value} (h : w.cell? a = some v) (o : Obj) : (w.alloc o).cell? a = some v := pw_cell_below (below_alloc (Below.refl _ _) o) h
theorem drop_nth {l : List S24} {i : Nat} (hi : i < l.length) : l.drop i = nth l i :: l.drop (i + 1) := by
  have hx := nth_some hi
  rw [List.drop_eq_getElem_cons hi]
  congr 1
  rw [List.getElem?_eq_getElem hi] at hx
  injection hx
set_option maxRecDepth 100000 in
set_option maxHeartbeats 1000000 in
theorem equalFunc_step (N : Nat) (hE : EqSpec 49 N) (l ys : List S24) (A B : Option Addr) (c d : Nat) (w : World) (hN : cntL l ≤ N) (hc : l.length ≤ c) (hd : ys.length ≤ d) (hA : Kd.C k24 w A l.length l) (hB : Kd.C k24 w B ys.length ys) :
    Calls Tryd.prog 48 #[.slice A l.length c, .slice B ys.length d, .func (.func 49) #[] #[]] w fun e w' => e = .returned (.bool (eqL l ys)) ∧ Below w.heap.size w w' := by
  have hlA := hA.2.1
  have hlB := hB.2.1
  by_cases hl : l.length = ys.length
  · have HA := Aside0.mk hA
    have HB := Aside0.mk hB
    have HL := Aside0.mk hl
    have q0 : ((l.length : Int) != (ys.length : Int)) = false := by rw [hl]; simp
    have q1 : (l.length != ys.length) = false := by rw [hl]; simp
    have q2 : (l.length == ys.length) = true := by rw [hl]; simp
    clear hl hA hB
    go_enter Tryd.func48, Tryd.ntmps48
    go_wp2_with fail
    go_loopg [17] l.length (fun kq v17 wr => ∃ i : Nat, v17 = .int .i64 i ∧ Aside0 (i + kq = l.length) ∧ Aside0 (Below w.heap.size w wr) ∧ Aside0 (eqL (l.drop i) (ys.drop i) = eqL l ys))
    case atStart => exact ⟨0, rfl, ⟨by omega⟩, ⟨Below.refl _ _⟩, ⟨by rw [List.drop_zero, List.drop_zero]⟩⟩
    case round =>
      obtain ⟨i, rfl, HK, HW, HE⟩ := hrel
      by_cases hlt : i < l.length
      · have hlt2 : i < ys.length := by have := HL.out; omega
        obtain ⟨ad, A3, c3, rfl, hl3, HF3, e0, e1, e2, e3⟩ := elemAt HA.out HW.out hlt
        obtain ⟨bd, B3, d3, rfl, hm3, HG3, g0, g1, g2, g3⟩ := elemAt HB.out HW.out hlt2
        have HC2 : Aside0 (cnt (nth l i) ≤ N) := ⟨Nat.le_trans (cntL_get (nth_some hlt)) hN⟩
        have HE2 : Aside0 ((eqN (nth l i) (nth ys i) && eqL (l.drop (i + 1)) (ys.drop (i + 1))) = eqL l ys) := ⟨by have h2 := HE.out; rw [drop_nth hlt, drop_nth hlt2, eqL] at h2; exact h2⟩
        have hbb : ∀ o1 o2 : Obj, Aside0 (Below wr.heap.size wr ((wr.alloc o1).alloc o2)) := fun o1 o2 => ⟨below_alloc (below_alloc (Below.refl _ _) _) _⟩
        have g0' := fun o => cell_alloc g0 o
        have g1' := fun o => cell_alloc g1 o
        have g2' := fun o => cell_alloc g2 o
        have g3' := fun o => cell_alloc g3 o
        clear HE
        cases he : eqN (nth l i) (nth ys i) with
        | false =>
          have HEN := Aside0.mk he
          clear he
          go_wp2_with (go_at_call 49; go_loud (refine (hE (nth l i) (nth ys i) A3 B3 c3 d3 _ HC2.out hl3 hm3 ?qa ?qb).mono ?_; (case qa => exact Kd.C_below HF3.out (hbb _ _).out); (case qb => exact Kd.C_below HG3.out (hbb _ _).out); rintro e w3 ⟨he, hb3⟩; rw [HEN.out] at he; subst he))
          go_ret
          refine ⟨by rw [← HE2.out, HEN.out]; rfl, below_then (below_then HW.out HW.out.size (hbb _ _).out) ?_ hb3⟩
          exact Nat.le_trans HW.out.size (hbb _ _).out.size
        | true =>
          have HEN := Aside0.mk he
          clear he
          go_wp2_with (go_at_call 49; go_loud (refine (hE (nth l i) (nth ys i) A3 B3 c3 d3 _ HC2.out hl3 hm3 ?qa ?qb).mono ?_; (case qa => exact Kd.C_below HF3.out (hbb _ _).out); (case qb => exact Kd.C_below HG3.out (hbb _ _).out); rintro e w3 ⟨he, hb3⟩; rw [HEN.out] at he; subst he))
          obtain ⟨k', rfl⟩ : ∃ k', gk = k' + 1 := ⟨gk - 1, by have := HK.out; omega⟩
          have HB3 : Aside0 (Below w.heap.size w w3) := ⟨below_then (below_then HW.out HW.out.size (hbb _ _).out) (Nat.le_trans HW.out.size (hbb _ _).out.size) hb3⟩
          go_roundg k'
          case measure => omega
          case rel => exact ⟨i + 1, by go_num, ⟨by have := HK.out; omega⟩, HB3, ⟨by rw [← HE2.out, HEN.out]; rfl⟩⟩
      · have hil : i = l.length := by have := HK.out; omega
        have HR : Aside0 (eqL l ys = true) := ⟨by rw [← HE.out, hil, List.drop_eq_nil_of_le (Nat.le_refl _), List.drop_eq_nil_of_le (by have := HL.out; omega)]; rfl⟩
        clear hil
        go_wp2
        go_ret
        exact ⟨by rw [HR.out]; rfl, HW.out⟩
  · have HR : Aside0 (eqL l ys = false) := ⟨eqL_len hl⟩
    have q0 : ((l.length : Int) != (ys.length : Int)) = true := by rw [bne_iff_ne]; omega
    have q1 : (l.length != ys.length) = true := by rw [bne_iff_ne]; exact hl
    have q2 : (l.length == ys.length) = false := beq_eq_false_iff_ne.2 hl
    clear hl hA hB
    go_enter Tryd.func48, Tryd.ntmps48
    go_wp2_with fail
    go_ret
    exact ⟨by rw [HR.out]; rfl, Below.refl _ _⟩
end Go.Proofs.YtgcpfelccfnnbaaDoor.X
