/-
Part 17 of the texts of this proof: the walks through the program's functions.
-/
import Derived.Test.YtgcpfelccfnnbaaDoorMCounts2
import Derived.Test.YtgcpfelccfnnbaaDoorMCounts16
namespace Go.Proofs.YtgcpfelccfnnbaaDoor.X
open Go.RowKit Go.Proofs.YtgcpfelccfnnbaaDoorW.PrintWords Go.Proofs.YtgcpfelccfnnbaaDoorW.PrintLast Go.Proofs.YtgcpfelccfnnbaaDoorW.PrintMore
attribute [local go_sem] max2_int min2_int max_two min_two max_three min_three max_four min_four   -- for this text's walks alone
set_option linter.unusedVariables false
set_option linter.unusedSimpArgs false
mutual
def edit_Formed.j0 : Nat → Int → Bool → Int → List Int → Int → Int → List (S24) → Int → ByteArray → ByteArray → Option (Bool)
  | 0, _, _, _, _, _, _, _, _, _, _ => none
  | k + 1, x5, x6, x135000, x135001, x135002, x135003, x135004, x135005, x135006, x135007 => if x6 = true then (if x135003 = 0 then (if x135005 = 0 then ((edit_bare.f x135000 x135001 x135002 x135003 x135004 x135005 x135006 x135007).bind fun t135 => (if t135 = true then (if (x135004.length : Int) > 0 then ((node_ValidItems.f x135004).bind fun t136 => (some t136)) else (some false)) else (some false))) else (some false)) else (some false)) else (if x5 = 3 then (edit_Formed.j1 k x5 (x5 == 3) x135000 x135001 x135002 x135003 x135004 x135005 x135006 x135007) else (edit_Formed.j1 k x5 (x5 == 4) x135000 x135001 x135002 x135003 x135004 x135005 x135006 x135007))
def edit_Formed.j1 : Nat → Int → Bool → Int → List Int → Int → Int → List (S24) → Int → ByteArray → ByteArray → Option (Bool)
  | 0, _, _, _, _, _, _, _, _, _, _ => none
  | k + 1, x5, x32, x135000, x135001, x135002, x135003, x135004, x135005, x135006, x135007 => if x32 = true then ((edit_bare.f x135000 x135001 x135002 x135003 x135004 x135005 x135006 x135007).bind fun t137 => (if t137 = true then (if x135003 < 0 then (some false) else (if (x135004.length : Int) = 1 then ((node_ValidItems.f x135004).bind fun t138 => (if t138 = true then (if 0 < (x135004.length : Int) then (if x135005 ≥ 0 then (if x135005 < (((rd_T24 x135004 0).f3).length : Int) then (if 0 ≤ x135005 then (some ((((rd_T24 ((rd_T24 x135004 0).f3) x135005).f3).length : Int) == 0)) else (none)) else (some false)) else (some false)) else (none)) else (some false))) else (some false))) else (some false))) else (if x5 = 5 then (if x135003 = 0 then (if x135005 = 0 then (if (x135004.length : Int) = 0 then (some (x135006.toList != x135007.toList)) else (some false)) else (some false)) else (some false)) else (some false))
end
def edit_Formed.f (k : Nat) (a0_0 : Int) (l0_1 : List Int) (a0_2 : Int) (a0_3 : Int) (l0_4 : List (S24)) (a0_5 : Int) (a0_6 : ByteArray) (a0_7 : ByteArray) : Option (Bool) := if a0_0 = 1 then (edit_Formed.j0 k a0_0 (a0_0 == 1) a0_0 l0_1 a0_2 a0_3 l0_4 a0_5 a0_6 a0_7) else (edit_Formed.j0 k a0_0 (a0_0 == 2) a0_0 l0_1 a0_2 a0_3 l0_4 a0_5 a0_6 a0_7)
theorem edit_Formed.mono_l : ∀ k, (∀ y0 y1 y2 y3 y4 y5 y6 y7 y8 y9, LeO (edit_Formed.j0 k y0 y1 y2 y3 y4 y5 y6 y7 y8 y9) (edit_Formed.j0 (k + 1) y0 y1 y2 y3 y4 y5 y6 y7 y8 y9)) ∧ (∀ y0 y1 y2 y3 y4 y5 y6 y7 y8 y9, LeO (edit_Formed.j1 k y0 y1 y2 y3 y4 y5 y6 y7 y8 y9) (edit_Formed.j1 (k + 1) y0 y1 y2 y3 y4 y5 y6 y7 y8 y9))
  | 0 => ⟨fun _ _ _ _ _ _ _ _ _ _ r h => by simp [edit_Formed.j0] at h, fun _ _ _ _ _ _ _ _ _ _ r h => by simp [edit_Formed.j1] at h⟩
  | k + 1 => by
    obtain ⟨ih0, ih1⟩ := edit_Formed.mono_l k
    refine ⟨?_, ?_⟩
    · intro y0 y1 y2 y3 y4 y5 y6 y7 y8 y9
      unfold edit_Formed.j0
      repeat' first
      | (with_reducible exact ih0 _ _ _ _ _ _ _ _ _ _)
      | (with_reducible exact ih1 _ _ _ _ _ _ _ _ _ _)
      | (with_reducible exact LeO.refl _)
      | (with_reducible exact LeO.none _)
      | (with_reducible refine LeO.ite ?_ ?_)
      | (with_reducible refine LeO.bind ?_ (fun _ => ?_))
      | exact ih0 _ _ _ _ _ _ _ _ _ _
      | exact ih1 _ _ _ _ _ _ _ _ _ _
      | exact LeO.none _
      | refine LeO.ite ?_ ?_
      | refine LeO.bind ?_ (fun _ => ?_)
    · intro y0 y1 y2 y3 y4 y5 y6 y7 y8 y9
      unfold edit_Formed.j1
      repeat' first
      | (with_reducible exact ih0 _ _ _ _ _ _ _ _ _ _)
      | (with_reducible exact ih1 _ _ _ _ _ _ _ _ _ _)
      | (with_reducible exact LeO.refl _)
      | (with_reducible exact LeO.none _)
      | (with_reducible refine LeO.ite ?_ ?_)
      | (with_reducible refine LeO.bind ?_ (fun _ => ?_))
      | exact ih0 _ _ _ _ _ _ _ _ _ _
      | exact ih1 _ _ _ _ _ _ _ _ _ _
      | exact LeO.none _
      | refine LeO.ite ?_ ?_
      | refine LeO.bind ?_ (fun _ => ?_)
theorem edit_Formed.mono : ∀ a0 a1 a2 a3 a4 a5 a6 a7 k, LeO (edit_Formed.f k a0 a1 a2 a3 a4 a5 a6 a7) (edit_Formed.f (k + 1) a0 a1 a2 a3 a4 a5 a6 a7) := by
  intro a0 a1 a2 a3 a4 a5 a6 a7 k
  obtain ⟨ih0, ih1⟩ := edit_Formed.mono_l k
  unfold edit_Formed.f
  repeat' first
      | (with_reducible exact ih0 _ _ _ _ _ _ _ _ _ _)
      | (with_reducible exact ih1 _ _ _ _ _ _ _ _ _ _)
      | (with_reducible exact LeO.refl _)
      | (with_reducible exact LeO.none _)
      | (with_reducible refine LeO.ite ?_ ?_)
      | (with_reducible refine LeO.bind ?_ (fun _ => ?_))
      | exact ih0 _ _ _ _ _ _ _ _ _ _
      | exact ih1 _ _ _ _ _ _ _ _ _ _
      | exact LeO.none _
      | refine LeO.ite ?_ ?_
      | refine LeO.bind ?_ (fun _ => ?_)
set_option maxHeartbeats 8000000 in
set_option maxRecDepth 100000 in
theorem edit_Formed.calls (k : Nat) (a0_0 : Int) (A0_1 : Option Addr) (c0_1 : Nat) (l0_1 : List Int) (a0_2 : Int) (a0_3 : Int) (A0_4 : Option Addr) (c0_4 : Nat) (l0_4 : List (S24)) (a0_5 : Int) (a0_6 : ByteArray) (a0_7 : ByteArray) (r : Bool) (w : World) (hr0_1 : Kd.C (Kd.int .i64) w A0_1 l0_1.length l0_1) (hc0_1 : l0_1.length ≤ c0_1) (hr0_4 : Kd.C k24 w A0_4 l0_4.length l0_4) (hc0_4 : l0_4.length ≤ c0_4) (h : edit_Formed.f k a0_0 l0_1 a0_2 a0_3 l0_4 a0_5 a0_6 a0_7 = some r) :
    Calls Tryd.prog 28 #[.agg #[.int .i64 a0_0, .slice A0_1 l0_1.length c0_1, .int .i64 a0_2, .int .i64 a0_3, .slice A0_4 l0_4.length c0_4, .int .i64 a0_5, .string a0_6, .string a0_7]] w fun e w' => e = .returned (.bool r) ∧ Below w.heap.size w w' := by
  have hu27 := Tryd.underlying27
  have HR0_1 := Aside0.mk hr0_1
  have HC0_1 := Aside0.mk hc0_1
  clear hr0_1 hc0_1
  have HR0_4 := Aside0.mk hr0_4
  have HC0_4 := Aside0.mk hc0_4
  clear hr0_4 hc0_4
  have HB := Aside0.mk (Below.refl w.heap.size w)
  have H : (if a0_0 = 1 then (edit_Formed.j0 k a0_0 (a0_0 == 1) a0_0 l0_1 a0_2 a0_3 l0_4 a0_5 a0_6 a0_7) else (edit_Formed.j0 k a0_0 (a0_0 == 2) a0_0 l0_1 a0_2 a0_3 l0_4 a0_5 a0_6 a0_7)) = some r := h
  clear h
  have HC2 := Aside0.mk H
  clear H
  go_enter Tryd.func28, Tryd.ntmps28
  go_upto_if 6 with (first | ((with_reducible refine gate_dst (N := 1) rfl ?_); (try (refine gate_guard (by rfl) ?_; dsimp only)); refine box_event ?hg (N := 1) ?hd (cs := #[.int .i64 a0_0, .slice A0_1 l0_1.length c0_1, .int .i64 a0_2, .int .i64 a0_3, .slice A0_4 l0_4.length c0_4, .int .i64 a0_5, .string a0_6, .string a0_7]) (t := 27) ?hr ?_; (case hd => rfl); (case hg => rfl); (case hr => first | (go_simp; done) | (go_simp; rfl)); intro gb134 hg w3 hbox hb; have n0_ := Aside0.mk (below_step (by repeat (first | (with_reducible first | exact HB.out | apply below_alloc | apply pw_below_drewN | apply below_drew1) | exact HB.out)) hb); have n1_ := Aside0.mk (hbox); have n2_ := Aside0.mk ((by rw [hg]; exact (below_size (by repeat (first | (with_reducible first | exact HB.out | apply below_alloc | apply pw_below_drewN | apply below_drew1) | exact HB.out))) : w.heap.size ≤ gb134)); have n3_ := Aside0.mk ((by rw [hg]; exact (below_size (by repeat (first | (with_reducible first | exact HB.out | apply below_alloc | apply pw_below_drewN | apply below_drew1) | exact HB.out))) : w.heap.size ≤ gb134)); clear HB; have HB := n0_; have BK134 := n1_; have GW134 := n2_; have GE134 := n3_; clear n0_ n1_ n2_ n3_; clear hb hbox hg; have hcz4_0 : w3.cell? ⟨gb134, 0, none⟩ = some (.int .i64 a0_0) := (blk_cell BK134.out 0).trans rfl; have hcz4_1 : w3.cell? ⟨gb134, 1, none⟩ = some (.slice A0_1 l0_1.length c0_1) := (blk_cell BK134.out 1).trans rfl; have hcz4_2 : w3.cell? ⟨gb134, 2, none⟩ = some (.int .i64 a0_2) := (blk_cell BK134.out 2).trans rfl; have hcz4_3 : w3.cell? ⟨gb134, 3, none⟩ = some (.int .i64 a0_3) := (blk_cell BK134.out 3).trans rfl; have hcz4_4 : w3.cell? ⟨gb134, 4, none⟩ = some (.slice A0_4 l0_4.length c0_4) := (blk_cell BK134.out 4).trans rfl; have hcz4_5 : w3.cell? ⟨gb134, 5, none⟩ = some (.int .i64 a0_5) := (blk_cell BK134.out 5).trans rfl; have hcz4_6 : w3.cell? ⟨gb134, 6, none⟩ = some (.string a0_6) := (blk_cell BK134.out 6).trans rfl; have hcz4_7 : w3.cell? ⟨gb134, 7, none⟩ = some (.string a0_7) := (blk_cell BK134.out 7).trans rfl; have hfz4_0 := blk_frozen BK134.out 0; have hfz4_1 := blk_frozen BK134.out 1; have hfz4_2 := blk_frozen BK134.out 2; have hfz4_3 := blk_frozen BK134.out 3; have hfz4_4 := blk_frozen BK134.out 4; have hfz4_5 := blk_frozen BK134.out 5; have hfz4_6 := blk_frozen BK134.out 6; have hfz4_7 := blk_frozen BK134.out 7))
  (try simp only [Act.put, List.setIfInBounds_toArray, List.set_cons_zero, List.set_cons_succ])
  go_cut [6] (fun v6 wc => ∃ (kq : Nat) (x6_1 : Bool), v6 = .bool x6_1 ∧ Aside0 (edit_Formed.j0 kq a0_0 x6_1 a0_0 l0_1 a0_2 a0_3 l0_4 a0_5 a0_6 a0_7 = some r) ∧ Aside0 (kq ≤ k) ∧ Aside0 (wc.heap[gb134]? = some (.cells #[.int .i64 a0_0, (.slice A0_1 l0_1.length c0_1), .int .i64 a0_2, .int .i64 a0_3, (.slice A0_4 l0_4.length c0_4), .int .i64 a0_5, .string a0_6, .string a0_7] 27 (0, 0))) ∧ Aside0 (Below w.heap.size w wc))
  case first =>
    have H := HC2.out
    clear HC2
    by_cases c5 : a0_0 = 1
    · rw [if_pos c5] at H
      have c5b0 : (a0_0 == 1) = true := beq_iff_eq.mpr c5
      have c5b1 : (a0_0 != 1) = false := bne_eq_false_iff_eq.mpr c5
      clear c5
      (first | rw [c5b0] | (simp only [i64_w, i32_w]; rw [c5b0]) | skip)
      have H' := Aside0.mk H
      clear H
      go_wp2
      go_meet
      case rel => exact ⟨_, ((a0_0 == 1)), (by first | rfl | (simp; done) | (simp [*]; done)), H', ⟨by first | omega | exact Nat.le_refl _⟩, ⟨by (with_reducible repeat (first | refine blk_drewN ?_ _ | refine blk_drew ?_ | refine blk_alloc ?_ _)); exact BK134.out⟩, ⟨by repeat (first | (with_reducible first | exact HB.out | apply below_alloc | apply pw_below_drewN | apply below_drew1 | refine below_set ?_ GE134.out) | exact HB.out)⟩⟩
    · rw [if_neg c5] at H
      have c5b0 : (a0_0 == 1) = false := beq_eq_false_iff_ne.mpr c5
      have c5b1 : (a0_0 != 1) = true := bne_iff_ne.mpr c5
      (first | rw [c5b0] | (simp only [i64_w, i32_w]; rw [c5b0]) | skip)
      have H' := Aside0.mk H
      clear H
      go_wp2
      go_meet
      case rel => exact ⟨_, ((a0_0 == 2)), (by first | rfl | (simp; done) | (simp [*]; done)), H', ⟨by first | omega | exact Nat.le_refl _⟩, ⟨by (with_reducible repeat (first | refine blk_drewN ?_ _ | refine blk_drew ?_ | refine blk_alloc ?_ _)); exact BK134.out⟩, ⟨by repeat (first | (with_reducible first | exact HB.out | apply below_alloc | apply pw_below_drewN | apply below_drew1 | refine below_set ?_ GE134.out) | exact HB.out)⟩⟩
  case rest =>
    clear HC2
    try clear c2
    try clear p2
    try clear c5
    try clear c5b0
    try clear c5b1
    try clear hcz4_0
    try clear hcz4_1
    try clear hcz4_2
    try clear hcz4_3
    try clear hcz4_4
    try clear hcz4_5
    try clear hcz4_6
    try clear hcz4_7
    try clear hfz4_0
    try clear hfz4_1
    try clear hfz4_2
    try clear hfz4_3
    try clear hfz4_4
    try clear hfz4_5
    try clear hfz4_6
    try clear hfz4_7
    obtain ⟨kq, x6_1, rfl, HA, HJ1, BK134, HB⟩ := hcut
    cases kq with
    | zero => exact absurd HA.out (by simp [edit_Formed.j0])
    | succ kj1 =>
      have H := HA.out
      clear HA
      simp only [edit_Formed.j0] at H
      by_cases c6 : x6_1 = true
      · subst c6
        have H1 : (if a0_3 = 0 then (if a0_5 = 0 then ((edit_bare.f a0_0 l0_1 a0_2 a0_3 l0_4 a0_5 a0_6 a0_7).bind fun t135 => (if t135 = true then (if (l0_4.length : Int) > 0 then ((node_ValidItems.f l0_4).bind fun t136 => (some t136)) else (some false)) else (some false))) else (some false)) else (some false)) = some r := by rw [if_pos rfl] at H; exact H
        clear H
        have H := H1
        clear H1
        by_cases c7 : a0_3 = 0
        · rw [if_pos c7] at H
          have c7b0 : (a0_3 == 0) = true := beq_iff_eq.mpr c7
          have c7b1 : (a0_3 != 0) = false := bne_eq_false_iff_eq.mpr c7
          clear c7
          by_cases c8 : a0_5 = 0
          · rw [if_pos c8] at H
            have c8b0 : (a0_5 == 0) = true := beq_iff_eq.mpr c8
            have c8b1 : (a0_5 != 0) = false := bne_eq_false_iff_eq.mpr c8
            clear c8
            replace H := Option.bind_eq_some_iff.mp H
            obtain ⟨t135, A90, H⟩ := H
            replace H : (if t135 = true then (if (l0_4.length : Int) > 0 then ((node_ValidItems.f l0_4).bind fun t136 => (some t136)) else (some false)) else (some false)) = some r := H
            have A9 := Aside0.mk A90
            clear A90
            by_cases c10 : t135 = true
            · subst c10
              have H1 : (if (l0_4.length : Int) > 0 then ((node_ValidItems.f l0_4).bind fun t136 => (some t136)) else (some false)) = some r := by rw [if_pos rfl] at H; exact H
              clear H
              have H := H1
              clear H1
              by_cases c11 : (l0_4.length : Int) > 0
              · rw [if_pos c11] at H
                have c11b0 : decide (0 < (l0_4.length : Int)) = true := decide_eq_true c11
                have c11b1 : decide (0 < l0_4.length) = true := decide_eq_true (by omega)
                clear c11
                replace H := Option.bind_eq_some_iff.mp H
                obtain ⟨t136, A120, H⟩ := H
                replace H : (some t136) = some r := H
                have A12 := Aside0.mk A120
                clear A120
                obtain rfl := Option.some.inj H
                have hcz13_0 : wc.cell? ⟨gb134, 0, none⟩ = some (.int .i64 a0_0) := (blk_cell BK134.out 0).trans rfl
                have hcz13_1 : wc.cell? ⟨gb134, 1, none⟩ = some (.slice A0_1 l0_1.length c0_1) := (blk_cell BK134.out 1).trans rfl
                have hcz13_2 : wc.cell? ⟨gb134, 2, none⟩ = some (.int .i64 a0_2) := (blk_cell BK134.out 2).trans rfl
                have hcz13_3 : wc.cell? ⟨gb134, 3, none⟩ = some (.int .i64 a0_3) := (blk_cell BK134.out 3).trans rfl
                have hcz13_4 : wc.cell? ⟨gb134, 4, none⟩ = some (.slice A0_4 l0_4.length c0_4) := (blk_cell BK134.out 4).trans rfl
                have hcz13_5 : wc.cell? ⟨gb134, 5, none⟩ = some (.int .i64 a0_5) := (blk_cell BK134.out 5).trans rfl
                have hcz13_6 : wc.cell? ⟨gb134, 6, none⟩ = some (.string a0_6) := (blk_cell BK134.out 6).trans rfl
                have hcz13_7 : wc.cell? ⟨gb134, 7, none⟩ = some (.string a0_7) := (blk_cell BK134.out 7).trans rfl
                have hfz13_0 := blk_frozen BK134.out 0
                have hfz13_1 := blk_frozen BK134.out 1
                have hfz13_2 := blk_frozen BK134.out 2
                have hfz13_3 := blk_frozen BK134.out 3
                have hfz13_4 := blk_frozen BK134.out 4
                have hfz13_5 := blk_frozen BK134.out 5
                have hfz13_6 := blk_frozen BK134.out 6
                have hfz13_7 := blk_frozen BK134.out 7
                go_wp2_with (first | (go_at_call 44; (with_reducible refine (edit_bare.calls a0_0 _ _ l0_1 a0_2 a0_3 _ _ l0_4 a0_5 a0_6 a0_7 true _ ?side1 ?side2 ?side3 ?side4 A9.out).mono ?_); (case side1 => repeat (first | exact (Kd.C_below HR0_1.out HB.out) | (with_reducible refine Kd.C_alloc ?_ _) | (with_reducible refine Kd.C_drewN ?_ _) | (with_reducible refine Kd.C_drew ?_))); (case side2 => exact HC0_1.out); (case side3 => repeat (first | exact (Kd.C_below HR0_4.out HB.out) | (with_reducible refine Kd.C_alloc ?_ _) | (with_reducible refine Kd.C_drewN ?_ _) | (with_reducible refine Kd.C_drew ?_))); (case side4 => exact HC0_4.out); rintro e w14 ⟨rfl, hb⟩; have n0_ := Aside0.mk (blk_below (g := gb134) (o := .cells #[.int .i64 a0_0, .slice A0_1 l0_1.length c0_1, .int .i64 a0_2, .int .i64 a0_3, .slice A0_4 l0_4.length c0_4, .int .i64 a0_5, .string a0_6, .string a0_7] 27 (0, 0)) (by (with_reducible repeat (first | refine blk_drewN ?_ _ | refine blk_drew ?_ | refine blk_alloc ?_ _)); exact BK134.out) hb); have n1_ := Aside0.mk (below_step (by repeat (first | (with_reducible first | exact HB.out | apply below_alloc | apply pw_below_drewN | apply below_drew1 | refine below_set ?_ GE134.out) | exact HB.out)) hb); clear BK134; clear HB; have BK134 := n0_; have HB := n1_; clear n0_ n1_; (try clear hb); (try clear hb2); (try clear hk); (try clear hi); have hcz15_0 : w14.cell? ⟨gb134, 0, none⟩ = some (.int .i64 a0_0) := (blk_cell BK134.out 0).trans rfl; have hcz15_1 : w14.cell? ⟨gb134, 1, none⟩ = some (.slice A0_1 l0_1.length c0_1) := (blk_cell BK134.out 1).trans rfl; have hcz15_2 : w14.cell? ⟨gb134, 2, none⟩ = some (.int .i64 a0_2) := (blk_cell BK134.out 2).trans rfl; have hcz15_3 : w14.cell? ⟨gb134, 3, none⟩ = some (.int .i64 a0_3) := (blk_cell BK134.out 3).trans rfl; have hcz15_4 : w14.cell? ⟨gb134, 4, none⟩ = some (.slice A0_4 l0_4.length c0_4) := (blk_cell BK134.out 4).trans rfl; have hcz15_5 : w14.cell? ⟨gb134, 5, none⟩ = some (.int .i64 a0_5) := (blk_cell BK134.out 5).trans rfl; have hcz15_6 : w14.cell? ⟨gb134, 6, none⟩ = some (.string a0_6) := (blk_cell BK134.out 6).trans rfl; have hcz15_7 : w14.cell? ⟨gb134, 7, none⟩ = some (.string a0_7) := (blk_cell BK134.out 7).trans rfl; have hfz15_0 := blk_frozen BK134.out 0; have hfz15_1 := blk_frozen BK134.out 1; have hfz15_2 := blk_frozen BK134.out 2; have hfz15_3 := blk_frozen BK134.out 3; have hfz15_4 := blk_frozen BK134.out 4; have hfz15_5 := blk_frozen BK134.out 5; have hfz15_6 := blk_frozen BK134.out 6; have hfz15_7 := blk_frozen BK134.out 7) | (go_at_call 45; (with_reducible refine (node_ValidItems.calls _ _ l0_4 t136 _ ?side1 ?side2 A12.out).mono ?_); (case side1 => repeat (first | exact (Kd.C_below HR0_4.out HB.out) | (with_reducible refine Kd.C_alloc ?_ _) | (with_reducible refine Kd.C_drewN ?_ _) | (with_reducible refine Kd.C_drew ?_))); (case side2 => exact HC0_4.out); rintro e w16 ⟨rfl, hb⟩; have n0_ := Aside0.mk (blk_below (g := gb134) (o := .cells #[.int .i64 a0_0, .slice A0_1 l0_1.length c0_1, .int .i64 a0_2, .int .i64 a0_3, .slice A0_4 l0_4.length c0_4, .int .i64 a0_5, .string a0_6, .string a0_7] 27 (0, 0)) (by (with_reducible repeat (first | refine blk_drewN ?_ _ | refine blk_drew ?_ | refine blk_alloc ?_ _)); exact BK134.out) hb); have n1_ := Aside0.mk (below_step (by repeat (first | (with_reducible first | exact HB.out | apply below_alloc | apply pw_below_drewN | apply below_drew1 | refine below_set ?_ GE134.out) | exact HB.out)) hb); clear BK134; clear HB; have BK134 := n0_; have HB := n1_; clear n0_ n1_; (try clear hb); (try clear hb2); (try clear hk); (try clear hi)))
                go_ret
                exact ⟨by first | rfl | (simp [errW_none, errW_some] <;> rfl) | (simp [*, errW_none, errW_some] <;> rfl), by repeat (first | (with_reducible first | exact HB.out | apply below_alloc | apply pw_below_drewN | apply below_drew1 | refine below_set ?_ GE134.out) | exact HB.out)⟩
              · rw [if_neg c11] at H
                have c11b0 : decide (0 < (l0_4.length : Int)) = false := decide_eq_false c11
                have c11b1 : decide (0 < l0_4.length) = false := decide_eq_false (by omega)
                clear c11
                obtain rfl := Option.some.inj H
                have hcz17_0 : wc.cell? ⟨gb134, 0, none⟩ = some (.int .i64 a0_0) := (blk_cell BK134.out 0).trans rfl
                have hcz17_1 : wc.cell? ⟨gb134, 1, none⟩ = some (.slice A0_1 l0_1.length c0_1) := (blk_cell BK134.out 1).trans rfl
                have hcz17_2 : wc.cell? ⟨gb134, 2, none⟩ = some (.int .i64 a0_2) := (blk_cell BK134.out 2).trans rfl
                have hcz17_3 : wc.cell? ⟨gb134, 3, none⟩ = some (.int .i64 a0_3) := (blk_cell BK134.out 3).trans rfl
                have hcz17_4 : wc.cell? ⟨gb134, 4, none⟩ = some (.slice A0_4 l0_4.length c0_4) := (blk_cell BK134.out 4).trans rfl
                have hcz17_5 : wc.cell? ⟨gb134, 5, none⟩ = some (.int .i64 a0_5) := (blk_cell BK134.out 5).trans rfl
                have hcz17_6 : wc.cell? ⟨gb134, 6, none⟩ = some (.string a0_6) := (blk_cell BK134.out 6).trans rfl
                have hcz17_7 : wc.cell? ⟨gb134, 7, none⟩ = some (.string a0_7) := (blk_cell BK134.out 7).trans rfl
                have hfz17_0 := blk_frozen BK134.out 0
                have hfz17_1 := blk_frozen BK134.out 1
                have hfz17_2 := blk_frozen BK134.out 2
                have hfz17_3 := blk_frozen BK134.out 3
                have hfz17_4 := blk_frozen BK134.out 4
                have hfz17_5 := blk_frozen BK134.out 5
                have hfz17_6 := blk_frozen BK134.out 6
                have hfz17_7 := blk_frozen BK134.out 7
                go_wp2_with (first | (go_at_call 44; (with_reducible refine (edit_bare.calls a0_0 _ _ l0_1 a0_2 a0_3 _ _ l0_4 a0_5 a0_6 a0_7 true _ ?side1 ?side2 ?side3 ?side4 A9.out).mono ?_); (case side1 => repeat (first | exact (Kd.C_below HR0_1.out HB.out) | (with_reducible refine Kd.C_alloc ?_ _) | (with_reducible refine Kd.C_drewN ?_ _) | (with_reducible refine Kd.C_drew ?_))); (case side2 => exact HC0_1.out); (case side3 => repeat (first | exact (Kd.C_below HR0_4.out HB.out) | (with_reducible refine Kd.C_alloc ?_ _) | (with_reducible refine Kd.C_drewN ?_ _) | (with_reducible refine Kd.C_drew ?_))); (case side4 => exact HC0_4.out); rintro e w18 ⟨rfl, hb⟩; have n0_ := Aside0.mk (blk_below (g := gb134) (o := .cells #[.int .i64 a0_0, .slice A0_1 l0_1.length c0_1, .int .i64 a0_2, .int .i64 a0_3, .slice A0_4 l0_4.length c0_4, .int .i64 a0_5, .string a0_6, .string a0_7] 27 (0, 0)) (by (with_reducible repeat (first | refine blk_drewN ?_ _ | refine blk_drew ?_ | refine blk_alloc ?_ _)); exact BK134.out) hb); have n1_ := Aside0.mk (below_step (by repeat (first | (with_reducible first | exact HB.out | apply below_alloc | apply pw_below_drewN | apply below_drew1 | refine below_set ?_ GE134.out) | exact HB.out)) hb); clear BK134; clear HB; have BK134 := n0_; have HB := n1_; clear n0_ n1_; (try clear hb); (try clear hb2); (try clear hk); (try clear hi); have hcz19_0 : w18.cell? ⟨gb134, 0, none⟩ = some (.int .i64 a0_0) := (blk_cell BK134.out 0).trans rfl; have hcz19_1 : w18.cell? ⟨gb134, 1, none⟩ = some (.slice A0_1 l0_1.length c0_1) := (blk_cell BK134.out 1).trans rfl; have hcz19_2 : w18.cell? ⟨gb134, 2, none⟩ = some (.int .i64 a0_2) := (blk_cell BK134.out 2).trans rfl; have hcz19_3 : w18.cell? ⟨gb134, 3, none⟩ = some (.int .i64 a0_3) := (blk_cell BK134.out 3).trans rfl; have hcz19_4 : w18.cell? ⟨gb134, 4, none⟩ = some (.slice A0_4 l0_4.length c0_4) := (blk_cell BK134.out 4).trans rfl; have hcz19_5 : w18.cell? ⟨gb134, 5, none⟩ = some (.int .i64 a0_5) := (blk_cell BK134.out 5).trans rfl; have hcz19_6 : w18.cell? ⟨gb134, 6, none⟩ = some (.string a0_6) := (blk_cell BK134.out 6).trans rfl; have hcz19_7 : w18.cell? ⟨gb134, 7, none⟩ = some (.string a0_7) := (blk_cell BK134.out 7).trans rfl; have hfz19_0 := blk_frozen BK134.out 0; have hfz19_1 := blk_frozen BK134.out 1; have hfz19_2 := blk_frozen BK134.out 2; have hfz19_3 := blk_frozen BK134.out 3; have hfz19_4 := blk_frozen BK134.out 4; have hfz19_5 := blk_frozen BK134.out 5; have hfz19_6 := blk_frozen BK134.out 6; have hfz19_7 := blk_frozen BK134.out 7))
                go_ret
                exact ⟨by first | rfl | (simp [errW_none, errW_some] <;> rfl) | (simp [*, errW_none, errW_some] <;> rfl), by repeat (first | (with_reducible first | exact HB.out | apply below_alloc | apply pw_below_drewN | apply below_drew1 | refine below_set ?_ GE134.out) | exact HB.out)⟩
            · replace c10 := Bool.eq_false_iff.mpr c10
              subst c10
              have H1 : (some false) = some r := by rw [if_neg (show ¬ (false = true) by decide)] at H; exact H
              clear H
              have H := H1
              clear H1
              obtain rfl := Option.some.inj H
              have hcz20_0 : wc.cell? ⟨gb134, 0, none⟩ = some (.int .i64 a0_0) := (blk_cell BK134.out 0).trans rfl
              have hcz20_1 : wc.cell? ⟨gb134, 1, none⟩ = some (.slice A0_1 l0_1.length c0_1) := (blk_cell BK134.out 1).trans rfl
              have hcz20_2 : wc.cell? ⟨gb134, 2, none⟩ = some (.int .i64 a0_2) := (blk_cell BK134.out 2).trans rfl
              have hcz20_3 : wc.cell? ⟨gb134, 3, none⟩ = some (.int .i64 a0_3) := (blk_cell BK134.out 3).trans rfl
              have hcz20_4 : wc.cell? ⟨gb134, 4, none⟩ = some (.slice A0_4 l0_4.length c0_4) := (blk_cell BK134.out 4).trans rfl
              have hcz20_5 : wc.cell? ⟨gb134, 5, none⟩ = some (.int .i64 a0_5) := (blk_cell BK134.out 5).trans rfl
              have hcz20_6 : wc.cell? ⟨gb134, 6, none⟩ = some (.string a0_6) := (blk_cell BK134.out 6).trans rfl
              have hcz20_7 : wc.cell? ⟨gb134, 7, none⟩ = some (.string a0_7) := (blk_cell BK134.out 7).trans rfl
              have hfz20_0 := blk_frozen BK134.out 0
              have hfz20_1 := blk_frozen BK134.out 1
              have hfz20_2 := blk_frozen BK134.out 2
              have hfz20_3 := blk_frozen BK134.out 3
              have hfz20_4 := blk_frozen BK134.out 4
              have hfz20_5 := blk_frozen BK134.out 5
              have hfz20_6 := blk_frozen BK134.out 6
              have hfz20_7 := blk_frozen BK134.out 7
              go_wp2_with (first | (go_at_call 44; (with_reducible refine (edit_bare.calls a0_0 _ _ l0_1 a0_2 a0_3 _ _ l0_4 a0_5 a0_6 a0_7 false _ ?side1 ?side2 ?side3 ?side4 A9.out).mono ?_); (case side1 => repeat (first | exact (Kd.C_below HR0_1.out HB.out) | (with_reducible refine Kd.C_alloc ?_ _) | (with_reducible refine Kd.C_drewN ?_ _) | (with_reducible refine Kd.C_drew ?_))); (case side2 => exact HC0_1.out); (case side3 => repeat (first | exact (Kd.C_below HR0_4.out HB.out) | (with_reducible refine Kd.C_alloc ?_ _) | (with_reducible refine Kd.C_drewN ?_ _) | (with_reducible refine Kd.C_drew ?_))); (case side4 => exact HC0_4.out); rintro e w21 ⟨rfl, hb⟩; have n0_ := Aside0.mk (blk_below (g := gb134) (o := .cells #[.int .i64 a0_0, .slice A0_1 l0_1.length c0_1, .int .i64 a0_2, .int .i64 a0_3, .slice A0_4 l0_4.length c0_4, .int .i64 a0_5, .string a0_6, .string a0_7] 27 (0, 0)) (by (with_reducible repeat (first | refine blk_drewN ?_ _ | refine blk_drew ?_ | refine blk_alloc ?_ _)); exact BK134.out) hb); have n1_ := Aside0.mk (below_step (by repeat (first | (with_reducible first | exact HB.out | apply below_alloc | apply pw_below_drewN | apply below_drew1 | refine below_set ?_ GE134.out) | exact HB.out)) hb); clear BK134; clear HB; have BK134 := n0_; have HB := n1_; clear n0_ n1_; (try clear hb); (try clear hb2); (try clear hk); (try clear hi)))
              go_ret
              exact ⟨by first | rfl | (simp [errW_none, errW_some] <;> rfl) | (simp [*, errW_none, errW_some] <;> rfl), by repeat (first | (with_reducible first | exact HB.out | apply below_alloc | apply pw_below_drewN | apply below_drew1 | refine below_set ?_ GE134.out) | exact HB.out)⟩
          · rw [if_neg c8] at H
            have c8b0 : (a0_5 == 0) = false := beq_eq_false_iff_ne.mpr c8
            have c8b1 : (a0_5 != 0) = true := bne_iff_ne.mpr c8
            obtain rfl := Option.some.inj H
            have hcz22_0 : wc.cell? ⟨gb134, 0, none⟩ = some (.int .i64 a0_0) := (blk_cell BK134.out 0).trans rfl
            have hcz22_1 : wc.cell? ⟨gb134, 1, none⟩ = some (.slice A0_1 l0_1.length c0_1) := (blk_cell BK134.out 1).trans rfl
            have hcz22_2 : wc.cell? ⟨gb134, 2, none⟩ = some (.int .i64 a0_2) := (blk_cell BK134.out 2).trans rfl
            have hcz22_3 : wc.cell? ⟨gb134, 3, none⟩ = some (.int .i64 a0_3) := (blk_cell BK134.out 3).trans rfl
            have hcz22_4 : wc.cell? ⟨gb134, 4, none⟩ = some (.slice A0_4 l0_4.length c0_4) := (blk_cell BK134.out 4).trans rfl
            have hcz22_5 : wc.cell? ⟨gb134, 5, none⟩ = some (.int .i64 a0_5) := (blk_cell BK134.out 5).trans rfl
            have hcz22_6 : wc.cell? ⟨gb134, 6, none⟩ = some (.string a0_6) := (blk_cell BK134.out 6).trans rfl
            have hcz22_7 : wc.cell? ⟨gb134, 7, none⟩ = some (.string a0_7) := (blk_cell BK134.out 7).trans rfl
            have hfz22_0 := blk_frozen BK134.out 0
            have hfz22_1 := blk_frozen BK134.out 1
            have hfz22_2 := blk_frozen BK134.out 2
            have hfz22_3 := blk_frozen BK134.out 3
            have hfz22_4 := blk_frozen BK134.out 4
            have hfz22_5 := blk_frozen BK134.out 5
            have hfz22_6 := blk_frozen BK134.out 6
            have hfz22_7 := blk_frozen BK134.out 7
            go_wp2
            go_ret
            exact ⟨by first | rfl | (simp [errW_none, errW_some] <;> rfl) | (simp [*, errW_none, errW_some] <;> rfl), by repeat (first | (with_reducible first | exact HB.out | apply below_alloc | apply pw_below_drewN | apply below_drew1 | refine below_set ?_ GE134.out) | exact HB.out)⟩
        · rw [if_neg c7] at H
          have c7b0 : (a0_3 == 0) = false := beq_eq_false_iff_ne.mpr c7
          have c7b1 : (a0_3 != 0) = true := bne_iff_ne.mpr c7
          obtain rfl := Option.some.inj H
          have hcz23_0 : wc.cell? ⟨gb134, 0, none⟩ = some (.int .i64 a0_0) := (blk_cell BK134.out 0).trans rfl
          have hcz23_1 : wc.cell? ⟨gb134, 1, none⟩ = some (.slice A0_1 l0_1.length c0_1) := (blk_cell BK134.out 1).trans rfl
          have hcz23_2 : wc.cell? ⟨gb134, 2, none⟩ = some (.int .i64 a0_2) := (blk_cell BK134.out 2).trans rfl
          have hcz23_3 : wc.cell? ⟨gb134, 3, none⟩ = some (.int .i64 a0_3) := (blk_cell BK134.out 3).trans rfl
          have hcz23_4 : wc.cell? ⟨gb134, 4, none⟩ = some (.slice A0_4 l0_4.length c0_4) := (blk_cell BK134.out 4).trans rfl
          have hcz23_5 : wc.cell? ⟨gb134, 5, none⟩ = some (.int .i64 a0_5) := (blk_cell BK134.out 5).trans rfl
          have hcz23_6 : wc.cell? ⟨gb134, 6, none⟩ = some (.string a0_6) := (blk_cell BK134.out 6).trans rfl
          have hcz23_7 : wc.cell? ⟨gb134, 7, none⟩ = some (.string a0_7) := (blk_cell BK134.out 7).trans rfl
          have hfz23_0 := blk_frozen BK134.out 0
          have hfz23_1 := blk_frozen BK134.out 1
          have hfz23_2 := blk_frozen BK134.out 2
          have hfz23_3 := blk_frozen BK134.out 3
          have hfz23_4 := blk_frozen BK134.out 4
          have hfz23_5 := blk_frozen BK134.out 5
          have hfz23_6 := blk_frozen BK134.out 6
          have hfz23_7 := blk_frozen BK134.out 7
          go_wp2
          go_ret
          exact ⟨by first | rfl | (simp [errW_none, errW_some] <;> rfl) | (simp [*, errW_none, errW_some] <;> rfl), by repeat (first | (with_reducible first | exact HB.out | apply below_alloc | apply pw_below_drewN | apply below_drew1 | refine below_set ?_ GE134.out) | exact HB.out)⟩
      · replace c6 := Bool.eq_false_iff.mpr c6
        subst c6
        have H1 : (if a0_0 = 3 then (edit_Formed.j1 kj1 a0_0 (a0_0 == 3) a0_0 l0_1 a0_2 a0_3 l0_4 a0_5 a0_6 a0_7) else (edit_Formed.j1 kj1 a0_0 (a0_0 == 4) a0_0 l0_1 a0_2 a0_3 l0_4 a0_5 a0_6 a0_7)) = some r := by rw [if_neg (show ¬ (false = true) by decide)] at H; exact H
        clear H
        have H := H1
        clear H1
        have HC24 := Aside0.mk H
        clear H
        go_upto_if 32 with (fail)
        go_cut [32] (fun v32 wc => ∃ (kq : Nat) (x32_23 : Bool), v32 = .bool x32_23 ∧ Aside0 (edit_Formed.j1 kq a0_0 x32_23 a0_0 l0_1 a0_2 a0_3 l0_4 a0_5 a0_6 a0_7 = some r) ∧ Aside0 (kq ≤ kj1) ∧ Aside0 (wc.heap[gb134]? = some (.cells #[.int .i64 a0_0, (.slice A0_1 l0_1.length c0_1), .int .i64 a0_2, .int .i64 a0_3, (.slice A0_4 l0_4.length c0_4), .int .i64 a0_5, .string a0_6, .string a0_7] 27 (0, 0))) ∧ Aside0 (Below w.heap.size w wc))
        case first =>
          have H := HC24.out
          clear HC24
          by_cases c25 : a0_0 = 3
          · rw [if_pos c25] at H
            have c25b0 : (a0_0 == 3) = true := beq_iff_eq.mpr c25
            have c25b1 : (a0_0 != 3) = false := bne_eq_false_iff_eq.mpr c25
            clear c25
            (first | rw [c25b0] | (simp only [i64_w, i32_w]; rw [c25b0]) | skip)
            have H' := Aside0.mk H
            clear H
            go_wp2
            go_meet
            case rel => exact ⟨_, ((a0_0 == 3)), (by first | rfl | (simp; done) | (simp [*]; done)), H', ⟨by have := HJ1.out; first | omega | exact Nat.le_refl _⟩, ⟨by (with_reducible repeat (first | refine blk_drewN ?_ _ | refine blk_drew ?_ | refine blk_alloc ?_ _)); exact BK134.out⟩, ⟨by repeat (first | (with_reducible first | exact HB.out | apply below_alloc | apply pw_below_drewN | apply below_drew1 | refine below_set ?_ GE134.out) | exact HB.out)⟩⟩
          · rw [if_neg c25] at H
            have c25b0 : (a0_0 == 3) = false := beq_eq_false_iff_ne.mpr c25
            have c25b1 : (a0_0 != 3) = true := bne_iff_ne.mpr c25
            (first | rw [c25b0] | (simp only [i64_w, i32_w]; rw [c25b0]) | skip)
            have H' := Aside0.mk H
            clear H
            go_wp2
            go_meet
            case rel => exact ⟨_, ((a0_0 == 4)), (by first | rfl | (simp; done) | (simp [*]; done)), H', ⟨by have := HJ1.out; first | omega | exact Nat.le_refl _⟩, ⟨by (with_reducible repeat (first | refine blk_drewN ?_ _ | refine blk_drew ?_ | refine blk_alloc ?_ _)); exact BK134.out⟩, ⟨by repeat (first | (with_reducible first | exact HB.out | apply below_alloc | apply pw_below_drewN | apply below_drew1 | refine below_set ?_ GE134.out) | exact HB.out)⟩⟩
        case rest =>
          clear HC24
          try clear c1
          try clear c2
          try clear p2
          try clear c5
          try clear c5b0
          try clear c5b1
          try clear c6
          try clear c7
          try clear c7b0
          try clear c7b1
          try clear c8
          try clear c8b0
          try clear c8b1
          try clear c10
          try clear c11
          try clear c11b0
          try clear c11b1
          try clear c25
          try clear c25b0
          try clear c25b1
          try clear hcz13_0
          try clear hcz13_1
          try clear hcz13_2
          try clear hcz13_3
          try clear hcz13_4
          try clear hcz13_5
          try clear hcz13_6
          try clear hcz13_7
          try clear hcz15_0
          try clear hcz15_1
          try clear hcz15_2
          try clear hcz15_3
          try clear hcz15_4
          try clear hcz15_5
          try clear hcz15_6
          try clear hcz15_7
          try clear hcz17_0
          try clear hcz17_1
          try clear hcz17_2
          try clear hcz17_3
          try clear hcz17_4
          try clear hcz17_5
          try clear hcz17_6
          try clear hcz17_7
          try clear hcz19_0
          try clear hcz19_1
          try clear hcz19_2
          try clear hcz19_3
          try clear hcz19_4
          try clear hcz19_5
          try clear hcz19_6
          try clear hcz19_7
          try clear hcz20_0
          try clear hcz20_1
          try clear hcz20_2
          try clear hcz20_3
          try clear hcz20_4
          try clear hcz20_5
          try clear hcz20_6
          try clear hcz20_7
          try clear hcz22_0
          try clear hcz22_1
          try clear hcz22_2
          try clear hcz22_3
          try clear hcz22_4
          try clear hcz22_5
          try clear hcz22_6
          try clear hcz22_7
          try clear hcz23_0
          try clear hcz23_1
          try clear hcz23_2
          try clear hcz23_3
          try clear hcz23_4
          try clear hcz23_5
          try clear hcz23_6
          try clear hcz23_7
          try clear hcz4_0
          try clear hcz4_1
          try clear hcz4_2
          try clear hcz4_3
          try clear hcz4_4
          try clear hcz4_5
          try clear hcz4_6
          try clear hcz4_7
          try clear hfz13_0
          try clear hfz13_1
          try clear hfz13_2
          try clear hfz13_3
          try clear hfz13_4
          try clear hfz13_5
          try clear hfz13_6
          try clear hfz13_7
          try clear hfz15_0
          try clear hfz15_1
          try clear hfz15_2
          try clear hfz15_3
          try clear hfz15_4
          try clear hfz15_5
          try clear hfz15_6
          try clear hfz15_7
          try clear hfz17_0
          try clear hfz17_1
          try clear hfz17_2
          try clear hfz17_3
          try clear hfz17_4
          try clear hfz17_5
          try clear hfz17_6
          try clear hfz17_7
          try clear hfz19_0
          try clear hfz19_1
          try clear hfz19_2
          try clear hfz19_3
          try clear hfz19_4
          try clear hfz19_5
          try clear hfz19_6
          try clear hfz19_7
          try clear hfz20_0
          try clear hfz20_1
          try clear hfz20_2
          try clear hfz20_3
          try clear hfz20_4
          try clear hfz20_5
          try clear hfz20_6
          try clear hfz20_7
          try clear hfz22_0
          try clear hfz22_1
          try clear hfz22_2
          try clear hfz22_3
          try clear hfz22_4
          try clear hfz22_5
          try clear hfz22_6
          try clear hfz22_7
          try clear hfz23_0
          try clear hfz23_1
          try clear hfz23_2
          try clear hfz23_3
          try clear hfz23_4
          try clear hfz23_5
          try clear hfz23_6
          try clear hfz23_7
          try clear hfz4_0
          try clear hfz4_1
          try clear hfz4_2
          try clear hfz4_3
          try clear hfz4_4
          try clear hfz4_5
          try clear hfz4_6
          try clear hfz4_7
          try clear p2
          obtain ⟨kq, x32_23, rfl, HA, HJ23, BK134, HB⟩ := hcut
          cases kq with
          | zero => exact absurd HA.out (by simp [edit_Formed.j1])
          | succ kj23 =>
            have H := HA.out
            clear HA
            simp only [edit_Formed.j1] at H
            by_cases c26 : x32_23 = true
            · subst c26
              have H1 : ((edit_bare.f a0_0 l0_1 a0_2 a0_3 l0_4 a0_5 a0_6 a0_7).bind fun t137 => (if t137 = true then (if a0_3 < 0 then (some false) else (if (l0_4.length : Int) = 1 then ((node_ValidItems.f l0_4).bind fun t138 => (if t138 = true then (if 0 < (l0_4.length : Int) then (if a0_5 ≥ 0 then (if a0_5 < (((rd_T24 l0_4 0).f3).length : Int) then (if 0 ≤ a0_5 then (some ((((rd_T24 ((rd_T24 l0_4 0).f3) a0_5).f3).length : Int) == 0)) else (none)) else (some false)) else (some false)) else (none)) else (some false))) else (some false))) else (some false))) = some r := by rw [if_pos rfl] at H; exact H
              clear H
              have H := H1
              clear H1
              replace H := Option.bind_eq_some_iff.mp H
              obtain ⟨t137, A270, H⟩ := H
              replace H : (if t137 = true then (if a0_3 < 0 then (some false) else (if (l0_4.length : Int) = 1 then ((node_ValidItems.f l0_4).bind fun t138 => (if t138 = true then (if 0 < (l0_4.length : Int) then (if a0_5 ≥ 0 then (if a0_5 < (((rd_T24 l0_4 0).f3).length : Int) then (if 0 ≤ a0_5 then (some ((((rd_T24 ((rd_T24 l0_4 0).f3) a0_5).f3).length : Int) == 0)) else (none)) else (some false)) else (some false)) else (none)) else (some false))) else (some false))) else (some false)) = some r := H
              have A27 := Aside0.mk A270
              clear A270
              by_cases c28 : t137 = true
              · subst c28
                have H1 : (if a0_3 < 0 then (some false) else (if (l0_4.length : Int) = 1 then ((node_ValidItems.f l0_4).bind fun t138 => (if t138 = true then (if 0 < (l0_4.length : Int) then (if a0_5 ≥ 0 then (if a0_5 < (((rd_T24 l0_4 0).f3).length : Int) then (if 0 ≤ a0_5 then (some ((((rd_T24 ((rd_T24 l0_4 0).f3) a0_5).f3).length : Int) == 0)) else (none)) else (some false)) else (some false)) else (none)) else (some false))) else (some false))) = some r := by rw [if_pos rfl] at H; exact H
                clear H
                have H := H1
                clear H1
                by_cases c29 : a0_3 < 0
                · rw [if_pos c29] at H
                  have c29b0 : decide (a0_3 < 0) = true := decide_eq_true c29
                  clear c29
                  obtain rfl := Option.some.inj H
                  have hcz30_0 : wc.cell? ⟨gb134, 0, none⟩ = some (.int .i64 a0_0) := (blk_cell BK134.out 0).trans rfl
                  have hcz30_1 : wc.cell? ⟨gb134, 1, none⟩ = some (.slice A0_1 l0_1.length c0_1) := (blk_cell BK134.out 1).trans rfl
                  have hcz30_2 : wc.cell? ⟨gb134, 2, none⟩ = some (.int .i64 a0_2) := (blk_cell BK134.out 2).trans rfl
                  have hcz30_3 : wc.cell? ⟨gb134, 3, none⟩ = some (.int .i64 a0_3) := (blk_cell BK134.out 3).trans rfl
                  have hcz30_4 : wc.cell? ⟨gb134, 4, none⟩ = some (.slice A0_4 l0_4.length c0_4) := (blk_cell BK134.out 4).trans rfl
                  have hcz30_5 : wc.cell? ⟨gb134, 5, none⟩ = some (.int .i64 a0_5) := (blk_cell BK134.out 5).trans rfl
                  have hcz30_6 : wc.cell? ⟨gb134, 6, none⟩ = some (.string a0_6) := (blk_cell BK134.out 6).trans rfl
                  have hcz30_7 : wc.cell? ⟨gb134, 7, none⟩ = some (.string a0_7) := (blk_cell BK134.out 7).trans rfl
                  have hfz30_0 := blk_frozen BK134.out 0
                  have hfz30_1 := blk_frozen BK134.out 1
                  have hfz30_2 := blk_frozen BK134.out 2
                  have hfz30_3 := blk_frozen BK134.out 3
                  have hfz30_4 := blk_frozen BK134.out 4
                  have hfz30_5 := blk_frozen BK134.out 5
                  have hfz30_6 := blk_frozen BK134.out 6
                  have hfz30_7 := blk_frozen BK134.out 7
                  go_wp2_with (first | ((with_reducible refine gate_callee (f := 44) rfl ?_); refine goesL_ (some 36) rfl rfl Tryd.func44 (by kernel_rfl) rfl #[.agg #[.int .i64 a0_0, .slice A0_1 l0_1.length c0_1, .int .i64 a0_2, .int .i64 a0_3, .slice A0_4 l0_4.length c0_4, .int .i64 a0_5, .string a0_6, .string a0_7]] rfl (by (try simp only [List.map_toArray, List.map_cons, List.map_nil]); first | done | rfl | (simp only [List.length_drop, List.length_take]; rfl)) ?_; (with_reducible refine (edit_bare.calls a0_0 _ _ l0_1 a0_2 a0_3 _ _ l0_4 a0_5 a0_6 a0_7 true _ ?side1 ?side2 ?side3 ?side4 A27.out).mono ?_); (case side1 => repeat (first | exact (Kd.C_below HR0_1.out HB.out) | (with_reducible refine Kd.C_alloc ?_ _) | (with_reducible refine Kd.C_drewN ?_ _) | (with_reducible refine Kd.C_drew ?_))); (case side2 => exact HC0_1.out); (case side3 => repeat (first | exact (Kd.C_below HR0_4.out HB.out) | (with_reducible refine Kd.C_alloc ?_ _) | (with_reducible refine Kd.C_drewN ?_ _) | (with_reducible refine Kd.C_drew ?_))); (case side4 => exact HC0_4.out); rintro e w31 ⟨rfl, hb⟩; refine ⟨_, rfl, ?_⟩; have n0_ := Aside0.mk (blk_below (g := gb134) (o := .cells #[.int .i64 a0_0, .slice A0_1 l0_1.length c0_1, .int .i64 a0_2, .int .i64 a0_3, .slice A0_4 l0_4.length c0_4, .int .i64 a0_5, .string a0_6, .string a0_7] 27 (0, 0)) (by (with_reducible repeat (first | refine blk_drewN ?_ _ | refine blk_drew ?_ | refine blk_alloc ?_ _)); exact BK134.out) hb); have n1_ := Aside0.mk (below_step (by repeat (first | (with_reducible first | exact HB.out | apply below_alloc | apply pw_below_drewN | apply below_drew1 | refine below_set ?_ GE134.out) | exact HB.out)) hb); clear BK134; clear HB; have BK134 := n0_; have HB := n1_; clear n0_ n1_; (try clear hb); (try clear hb2); (try clear hk); (try clear hi); have hcz32_0 : w31.cell? ⟨gb134, 0, none⟩ = some (.int .i64 a0_0) := (blk_cell BK134.out 0).trans rfl; have hcz32_1 : w31.cell? ⟨gb134, 1, none⟩ = some (.slice A0_1 l0_1.length c0_1) := (blk_cell BK134.out 1).trans rfl; have hcz32_2 : w31.cell? ⟨gb134, 2, none⟩ = some (.int .i64 a0_2) := (blk_cell BK134.out 2).trans rfl; have hcz32_3 : w31.cell? ⟨gb134, 3, none⟩ = some (.int .i64 a0_3) := (blk_cell BK134.out 3).trans rfl; have hcz32_4 : w31.cell? ⟨gb134, 4, none⟩ = some (.slice A0_4 l0_4.length c0_4) := (blk_cell BK134.out 4).trans rfl; have hcz32_5 : w31.cell? ⟨gb134, 5, none⟩ = some (.int .i64 a0_5) := (blk_cell BK134.out 5).trans rfl; have hcz32_6 : w31.cell? ⟨gb134, 6, none⟩ = some (.string a0_6) := (blk_cell BK134.out 6).trans rfl; have hcz32_7 : w31.cell? ⟨gb134, 7, none⟩ = some (.string a0_7) := (blk_cell BK134.out 7).trans rfl; have hfz32_0 := blk_frozen BK134.out 0; have hfz32_1 := blk_frozen BK134.out 1; have hfz32_2 := blk_frozen BK134.out 2; have hfz32_3 := blk_frozen BK134.out 3; have hfz32_4 := blk_frozen BK134.out 4; have hfz32_5 := blk_frozen BK134.out 5; have hfz32_6 := blk_frozen BK134.out 6; have hfz32_7 := blk_frozen BK134.out 7))
                  go_ret
                  exact ⟨by first | rfl | (simp [errW_none, errW_some] <;> rfl) | (simp [*, errW_none, errW_some] <;> rfl), by repeat (first | (with_reducible first | exact HB.out | apply below_alloc | apply pw_below_drewN | apply below_drew1 | refine below_set ?_ GE134.out) | exact HB.out)⟩
                · rw [if_neg c29] at H
                  have c29b0 : decide (a0_3 < 0) = false := decide_eq_false c29
                  clear c29
                  by_cases c33 : (l0_4.length : Int) = 1
                  · rw [if_pos c33] at H
                    have c33b0 : ((l0_4.length : Int) == 1) = true := beq_iff_eq.mpr c33
                    have c33b1 : ((l0_4.length : Int) != 1) = false := bne_eq_false_iff_eq.mpr c33
                    clear c33
                    replace H := Option.bind_eq_some_iff.mp H
                    obtain ⟨t138, A340, H⟩ := H
                    replace H : (if t138 = true then (if 0 < (l0_4.length : Int) then (if a0_5 ≥ 0 then (if a0_5 < (((rd_T24 l0_4 0).f3).length : Int) then (if 0 ≤ a0_5 then (some ((((rd_T24 ((rd_T24 l0_4 0).f3) a0_5).f3).length : Int) == 0)) else (none)) else (some false)) else (some false)) else (none)) else (some false)) = some r := H
                    have A34 := Aside0.mk A340
                    clear A340
                    by_cases c35 : t138 = true
                    · subst c35
                      have H1 : (if 0 < (l0_4.length : Int) then (if a0_5 ≥ 0 then (if a0_5 < (((rd_T24 l0_4 0).f3).length : Int) then (if 0 ≤ a0_5 then (some ((((rd_T24 ((rd_T24 l0_4 0).f3) a0_5).f3).length : Int) == 0)) else (none)) else (some false)) else (some false)) else (none)) = some r := by rw [if_pos rfl] at H; exact H
                      clear H
                      have H := H1
                      clear H1
                      by_cases c36 : 0 < (l0_4.length : Int)
                      · rw [if_pos c36] at H
                        have c36b0 : decide (0 < (l0_4.length : Int)) = true := decide_eq_true c36
                        have c36b1 : decide (0 < l0_4.length) = true := decide_eq_true (by omega)
                        clear c36
                        by_cases c37 : a0_5 ≥ 0
                        · rw [if_pos c37] at H
                          have c37b0 : decide (0 ≤ a0_5) = true := decide_eq_true c37
                          clear c37
                          by_cases c38 : a0_5 < (((rd_T24 l0_4 0).f3).length : Int)
                          · rw [if_pos c38] at H
                            have c38b0 : decide (a0_5 < (((rd_T24 l0_4 0).f3).length : Int)) = true := decide_eq_true c38
                            clear c38
                            by_cases c39 : 0 ≤ a0_5
                            · rw [if_pos c39] at H
                              have c39b0 : decide (0 ≤ a0_5) = true := decide_eq_true c39
                              clear c39
                              obtain rfl := Option.some.inj H
                              have hcz40_0 : wc.cell? ⟨gb134, 0, none⟩ = some (.int .i64 a0_0) := (blk_cell BK134.out 0).trans rfl
                              have hcz40_1 : wc.cell? ⟨gb134, 1, none⟩ = some (.slice A0_1 l0_1.length c0_1) := (blk_cell BK134.out 1).trans rfl
                              have hcz40_2 : wc.cell? ⟨gb134, 2, none⟩ = some (.int .i64 a0_2) := (blk_cell BK134.out 2).trans rfl
                              have hcz40_3 : wc.cell? ⟨gb134, 3, none⟩ = some (.int .i64 a0_3) := (blk_cell BK134.out 3).trans rfl
                              have hcz40_4 : wc.cell? ⟨gb134, 4, none⟩ = some (.slice A0_4 l0_4.length c0_4) := (blk_cell BK134.out 4).trans rfl
                              have hcz40_5 : wc.cell? ⟨gb134, 5, none⟩ = some (.int .i64 a0_5) := (blk_cell BK134.out 5).trans rfl
                              have hcz40_6 : wc.cell? ⟨gb134, 6, none⟩ = some (.string a0_6) := (blk_cell BK134.out 6).trans rfl
                              have hcz40_7 : wc.cell? ⟨gb134, 7, none⟩ = some (.string a0_7) := (blk_cell BK134.out 7).trans rfl
                              have hfz40_0 := blk_frozen BK134.out 0
                              have hfz40_1 := blk_frozen BK134.out 1
                              have hfz40_2 := blk_frozen BK134.out 2
                              have hfz40_3 := blk_frozen BK134.out 3
                              have hfz40_4 := blk_frozen BK134.out 4
                              have hfz40_5 := blk_frozen BK134.out 5
                              have hfz40_6 := blk_frozen BK134.out 6
                              have hfz40_7 := blk_frozen BK134.out 7
                              go_wp2_with (first | ((with_reducible refine gate_callee (f := 44) rfl ?_); refine goesL_ (some 36) rfl rfl Tryd.func44 (by kernel_rfl) rfl #[.agg #[.int .i64 a0_0, .slice A0_1 l0_1.length c0_1, .int .i64 a0_2, .int .i64 a0_3, .slice A0_4 l0_4.length c0_4, .int .i64 a0_5, .string a0_6, .string a0_7]] rfl (by (try simp only [List.map_toArray, List.map_cons, List.map_nil]); first | done | rfl | (simp only [List.length_drop, List.length_take]; rfl)) ?_; (with_reducible refine (edit_bare.calls a0_0 _ _ l0_1 a0_2 a0_3 _ _ l0_4 a0_5 a0_6 a0_7 true _ ?side1 ?side2 ?side3 ?side4 A27.out).mono ?_); (case side1 => repeat (first | exact (Kd.C_below HR0_1.out HB.out) | (with_reducible refine Kd.C_alloc ?_ _) | (with_reducible refine Kd.C_drewN ?_ _) | (with_reducible refine Kd.C_drew ?_))); (case side2 => exact HC0_1.out); (case side3 => repeat (first | exact (Kd.C_below HR0_4.out HB.out) | (with_reducible refine Kd.C_alloc ?_ _) | (with_reducible refine Kd.C_drewN ?_ _) | (with_reducible refine Kd.C_drew ?_))); (case side4 => exact HC0_4.out); rintro e w41 ⟨rfl, hb⟩; refine ⟨_, rfl, ?_⟩; have n0_ := Aside0.mk (blk_below (g := gb134) (o := .cells #[.int .i64 a0_0, .slice A0_1 l0_1.length c0_1, .int .i64 a0_2, .int .i64 a0_3, .slice A0_4 l0_4.length c0_4, .int .i64 a0_5, .string a0_6, .string a0_7] 27 (0, 0)) (by (with_reducible repeat (first | refine blk_drewN ?_ _ | refine blk_drew ?_ | refine blk_alloc ?_ _)); exact BK134.out) hb); have n1_ := Aside0.mk (below_step (by repeat (first | (with_reducible first | exact HB.out | apply below_alloc | apply pw_below_drewN | apply below_drew1 | refine below_set ?_ GE134.out) | exact HB.out)) hb); clear BK134; clear HB; have BK134 := n0_; have HB := n1_; clear n0_ n1_; (try clear hb); (try clear hb2); (try clear hk); (try clear hi); have hcz42_0 : w41.cell? ⟨gb134, 0, none⟩ = some (.int .i64 a0_0) := (blk_cell BK134.out 0).trans rfl; have hcz42_1 : w41.cell? ⟨gb134, 1, none⟩ = some (.slice A0_1 l0_1.length c0_1) := (blk_cell BK134.out 1).trans rfl; have hcz42_2 : w41.cell? ⟨gb134, 2, none⟩ = some (.int .i64 a0_2) := (blk_cell BK134.out 2).trans rfl; have hcz42_3 : w41.cell? ⟨gb134, 3, none⟩ = some (.int .i64 a0_3) := (blk_cell BK134.out 3).trans rfl; have hcz42_4 : w41.cell? ⟨gb134, 4, none⟩ = some (.slice A0_4 l0_4.length c0_4) := (blk_cell BK134.out 4).trans rfl; have hcz42_5 : w41.cell? ⟨gb134, 5, none⟩ = some (.int .i64 a0_5) := (blk_cell BK134.out 5).trans rfl; have hcz42_6 : w41.cell? ⟨gb134, 6, none⟩ = some (.string a0_6) := (blk_cell BK134.out 6).trans rfl; have hcz42_7 : w41.cell? ⟨gb134, 7, none⟩ = some (.string a0_7) := (blk_cell BK134.out 7).trans rfl; have hfz42_0 := blk_frozen BK134.out 0; have hfz42_1 := blk_frozen BK134.out 1; have hfz42_2 := blk_frozen BK134.out 2; have hfz42_3 := blk_frozen BK134.out 3; have hfz42_4 := blk_frozen BK134.out 4; have hfz42_5 := blk_frozen BK134.out 5; have hfz42_6 := blk_frozen BK134.out 6; have hfz42_7 := blk_frozen BK134.out 7) | (go_at_call 45; (with_reducible refine (node_ValidItems.calls _ _ l0_4 true _ ?side1 ?side2 A34.out).mono ?_); (case side1 => repeat (first | exact (Kd.C_below HR0_4.out HB.out) | (with_reducible refine Kd.C_alloc ?_ _) | (with_reducible refine Kd.C_drewN ?_ _) | (with_reducible refine Kd.C_drew ?_))); (case side2 => exact HC0_4.out); rintro e w43 ⟨rfl, hb⟩; have n0_ := Aside0.mk (blk_below (g := gb134) (o := .cells #[.int .i64 a0_0, .slice A0_1 l0_1.length c0_1, .int .i64 a0_2, .int .i64 a0_3, .slice A0_4 l0_4.length c0_4, .int .i64 a0_5, .string a0_6, .string a0_7] 27 (0, 0)) (by (with_reducible repeat (first | refine blk_drewN ?_ _ | refine blk_drew ?_ | refine blk_alloc ?_ _)); exact BK134.out) hb); have n1_ := Aside0.mk (below_step (by repeat (first | (with_reducible first | exact HB.out | apply below_alloc | apply pw_below_drewN | apply below_drew1 | refine below_set ?_ GE134.out) | exact HB.out)) hb); clear BK134; clear HB; have BK134 := n0_; have HB := n1_; clear n0_ n1_; (try clear hb); (try clear hb2); (try clear hk); (try clear hi); have hcz44_0 : w43.cell? ⟨gb134, 0, none⟩ = some (.int .i64 a0_0) := (blk_cell BK134.out 0).trans rfl; have hcz44_1 : w43.cell? ⟨gb134, 1, none⟩ = some (.slice A0_1 l0_1.length c0_1) := (blk_cell BK134.out 1).trans rfl; have hcz44_2 : w43.cell? ⟨gb134, 2, none⟩ = some (.int .i64 a0_2) := (blk_cell BK134.out 2).trans rfl; have hcz44_3 : w43.cell? ⟨gb134, 3, none⟩ = some (.int .i64 a0_3) := (blk_cell BK134.out 3).trans rfl; have hcz44_4 : w43.cell? ⟨gb134, 4, none⟩ = some (.slice A0_4 l0_4.length c0_4) := (blk_cell BK134.out 4).trans rfl; have hcz44_5 : w43.cell? ⟨gb134, 5, none⟩ = some (.int .i64 a0_5) := (blk_cell BK134.out 5).trans rfl; have hcz44_6 : w43.cell? ⟨gb134, 6, none⟩ = some (.string a0_6) := (blk_cell BK134.out 6).trans rfl; have hcz44_7 : w43.cell? ⟨gb134, 7, none⟩ = some (.string a0_7) := (blk_cell BK134.out 7).trans rfl; have hfz44_0 := blk_frozen BK134.out 0; have hfz44_1 := blk_frozen BK134.out 1; have hfz44_2 := blk_frozen BK134.out 2; have hfz44_3 := blk_frozen BK134.out 3; have hfz44_4 := blk_frozen BK134.out 4; have hfz44_5 := blk_frozen BK134.out 5; have hfz44_6 := blk_frozen BK134.out 6; have hfz44_7 := blk_frozen BK134.out 7; have p139 : 0 ≤ (0 : Int) := (by omega); have q139 : 0 < (l0_4.length : Int) := of_decide_eq_true (by first | (with_reducible assumption) | assumption); obtain ⟨ad139, A139_3, c139_3, e139, hx139_0, hx139_1, hx139_2, hx139_3, hl139_3, hi139_3⟩ := at_T24 HR0_4.out 0 p139 q139; cases e139; have qi139 : (0 < l0_4.length) = True := eq_true (by omega); (try rw [show ((0 : Int)).toNat = 0 from rfl] at hx139_0); (try rw [show 0 * 4 = 0 from rfl] at hx139_0); (try rw [Addr.add_zero'] at hx139_0); (try rw [show ((0 : Int)).toNat = 0 from rfl] at hx139_1); (try rw [show 0 * 4 = 0 from rfl] at hx139_1); (try rw [Addr.add_zero'] at hx139_1); (try rw [show ((0 : Int)).toNat = 0 from rfl] at hx139_2); (try rw [show 0 * 4 = 0 from rfl] at hx139_2); (try rw [Addr.add_zero'] at hx139_2); (try rw [show ((0 : Int)).toNat = 0 from rfl] at hx139_3); (try rw [show 0 * 4 = 0 from rfl] at hx139_3); (try rw [Addr.add_zero'] at hx139_3); replace hx139_0 := (HB.out.cell (World.block_lt_of_cell? w _ hx139_0)).trans hx139_0; replace hx139_1 := (HB.out.cell (World.block_lt_of_cell? w _ hx139_1)).trans hx139_1; replace hx139_2 := (HB.out.cell (World.block_lt_of_cell? w _ hx139_2)).trans hx139_2; replace hx139_3 := (HB.out.cell (World.block_lt_of_cell? w _ hx139_3)).trans hx139_3; have HR139_3 := Aside0.mk hi139_3; have HC139_3 := Aside0.mk hl139_3; clear hi139_3 hl139_3; replace p139 := eq_true p139; replace q139 := eq_true q139; have p140 : 0 ≤ (a0_5 : Int) := of_decide_eq_true (by first | (with_reducible assumption) | assumption); have q140 : a0_5 < (((rd_T24 l0_4 0).f3).length : Int) := of_decide_eq_true (by first | (with_reducible assumption) | assumption); obtain ⟨ad140, A140_3, c140_3, e140, hx140_0, hx140_1, hx140_2, hx140_3, hl140_3, hi140_3⟩ := at_T24 HR139_3.out a0_5 p140 q140; cases e140; replace hx140_0 := (HB.out.cell (World.block_lt_of_cell? w _ hx140_0)).trans hx140_0; replace hx140_1 := (HB.out.cell (World.block_lt_of_cell? w _ hx140_1)).trans hx140_1; replace hx140_2 := (HB.out.cell (World.block_lt_of_cell? w _ hx140_2)).trans hx140_2; replace hx140_3 := (HB.out.cell (World.block_lt_of_cell? w _ hx140_3)).trans hx140_3; have HR140_3 := Aside0.mk hi140_3; have HC140_3 := Aside0.mk hl140_3; clear hi140_3 hl140_3; replace p140 := eq_true p140; replace q140 := eq_true q140))
                              go_ret
                              exact ⟨by first | rfl | (simp [errW_none, errW_some] <;> rfl) | (simp [*, errW_none, errW_some] <;> rfl), by repeat (first | (with_reducible first | exact HB.out | apply below_alloc | apply pw_below_drewN | apply below_drew1 | refine below_set ?_ GE134.out) | exact HB.out)⟩
                            · rw [if_neg c39] at H
                              exact absurd H (by simp)
                          · rw [if_neg c38] at H
                            have c38b0 : decide (a0_5 < (((rd_T24 l0_4 0).f3).length : Int)) = false := decide_eq_false c38
                            clear c38
                            obtain rfl := Option.some.inj H
                            have hcz45_0 : wc.cell? ⟨gb134, 0, none⟩ = some (.int .i64 a0_0) := (blk_cell BK134.out 0).trans rfl
                            have hcz45_1 : wc.cell? ⟨gb134, 1, none⟩ = some (.slice A0_1 l0_1.length c0_1) := (blk_cell BK134.out 1).trans rfl
                            have hcz45_2 : wc.cell? ⟨gb134, 2, none⟩ = some (.int .i64 a0_2) := (blk_cell BK134.out 2).trans rfl
                            have hcz45_3 : wc.cell? ⟨gb134, 3, none⟩ = some (.int .i64 a0_3) := (blk_cell BK134.out 3).trans rfl
                            have hcz45_4 : wc.cell? ⟨gb134, 4, none⟩ = some (.slice A0_4 l0_4.length c0_4) := (blk_cell BK134.out 4).trans rfl
                            have hcz45_5 : wc.cell? ⟨gb134, 5, none⟩ = some (.int .i64 a0_5) := (blk_cell BK134.out 5).trans rfl
                            have hcz45_6 : wc.cell? ⟨gb134, 6, none⟩ = some (.string a0_6) := (blk_cell BK134.out 6).trans rfl
                            have hcz45_7 : wc.cell? ⟨gb134, 7, none⟩ = some (.string a0_7) := (blk_cell BK134.out 7).trans rfl
                            have hfz45_0 := blk_frozen BK134.out 0
                            have hfz45_1 := blk_frozen BK134.out 1
                            have hfz45_2 := blk_frozen BK134.out 2
                            have hfz45_3 := blk_frozen BK134.out 3
                            have hfz45_4 := blk_frozen BK134.out 4
                            have hfz45_5 := blk_frozen BK134.out 5
                            have hfz45_6 := blk_frozen BK134.out 6
                            have hfz45_7 := blk_frozen BK134.out 7
                            go_wp2_with (first | ((with_reducible refine gate_callee (f := 44) rfl ?_); refine goesL_ (some 36) rfl rfl Tryd.func44 (by kernel_rfl) rfl #[.agg #[.int .i64 a0_0, .slice A0_1 l0_1.length c0_1, .int .i64 a0_2, .int .i64 a0_3, .slice A0_4 l0_4.length c0_4, .int .i64 a0_5, .string a0_6, .string a0_7]] rfl (by (try simp only [List.map_toArray, List.map_cons, List.map_nil]); first | done | rfl | (simp only [List.length_drop, List.length_take]; rfl)) ?_; (with_reducible refine (edit_bare.calls a0_0 _ _ l0_1 a0_2 a0_3 _ _ l0_4 a0_5 a0_6 a0_7 true _ ?side1 ?side2 ?side3 ?side4 A27.out).mono ?_); (case side1 => repeat (first | exact (Kd.C_below HR0_1.out HB.out) | (with_reducible refine Kd.C_alloc ?_ _) | (with_reducible refine Kd.C_drewN ?_ _) | (with_reducible refine Kd.C_drew ?_))); (case side2 => exact HC0_1.out); (case side3 => repeat (first | exact (Kd.C_below HR0_4.out HB.out) | (with_reducible refine Kd.C_alloc ?_ _) | (with_reducible refine Kd.C_drewN ?_ _) | (with_reducible refine Kd.C_drew ?_))); (case side4 => exact HC0_4.out); rintro e w46 ⟨rfl, hb⟩; refine ⟨_, rfl, ?_⟩; have n0_ := Aside0.mk (blk_below (g := gb134) (o := .cells #[.int .i64 a0_0, .slice A0_1 l0_1.length c0_1, .int .i64 a0_2, .int .i64 a0_3, .slice A0_4 l0_4.length c0_4, .int .i64 a0_5, .string a0_6, .string a0_7] 27 (0, 0)) (by (with_reducible repeat (first | refine blk_drewN ?_ _ | refine blk_drew ?_ | refine blk_alloc ?_ _)); exact BK134.out) hb); have n1_ := Aside0.mk (below_step (by repeat (first | (with_reducible first | exact HB.out | apply below_alloc | apply pw_below_drewN | apply below_drew1 | refine below_set ?_ GE134.out) | exact HB.out)) hb); clear BK134; clear HB; have BK134 := n0_; have HB := n1_; clear n0_ n1_; (try clear hb); (try clear hb2); (try clear hk); (try clear hi); have hcz47_0 : w46.cell? ⟨gb134, 0, none⟩ = some (.int .i64 a0_0) := (blk_cell BK134.out 0).trans rfl; have hcz47_1 : w46.cell? ⟨gb134, 1, none⟩ = some (.slice A0_1 l0_1.length c0_1) := (blk_cell BK134.out 1).trans rfl; have hcz47_2 : w46.cell? ⟨gb134, 2, none⟩ = some (.int .i64 a0_2) := (blk_cell BK134.out 2).trans rfl; have hcz47_3 : w46.cell? ⟨gb134, 3, none⟩ = some (.int .i64 a0_3) := (blk_cell BK134.out 3).trans rfl; have hcz47_4 : w46.cell? ⟨gb134, 4, none⟩ = some (.slice A0_4 l0_4.length c0_4) := (blk_cell BK134.out 4).trans rfl; have hcz47_5 : w46.cell? ⟨gb134, 5, none⟩ = some (.int .i64 a0_5) := (blk_cell BK134.out 5).trans rfl; have hcz47_6 : w46.cell? ⟨gb134, 6, none⟩ = some (.string a0_6) := (blk_cell BK134.out 6).trans rfl; have hcz47_7 : w46.cell? ⟨gb134, 7, none⟩ = some (.string a0_7) := (blk_cell BK134.out 7).trans rfl; have hfz47_0 := blk_frozen BK134.out 0; have hfz47_1 := blk_frozen BK134.out 1; have hfz47_2 := blk_frozen BK134.out 2; have hfz47_3 := blk_frozen BK134.out 3; have hfz47_4 := blk_frozen BK134.out 4; have hfz47_5 := blk_frozen BK134.out 5; have hfz47_6 := blk_frozen BK134.out 6; have hfz47_7 := blk_frozen BK134.out 7) | (go_at_call 45; (with_reducible refine (node_ValidItems.calls _ _ l0_4 true _ ?side1 ?side2 A34.out).mono ?_); (case side1 => repeat (first | exact (Kd.C_below HR0_4.out HB.out) | (with_reducible refine Kd.C_alloc ?_ _) | (with_reducible refine Kd.C_drewN ?_ _) | (with_reducible refine Kd.C_drew ?_))); (case side2 => exact HC0_4.out); rintro e w48 ⟨rfl, hb⟩; have n0_ := Aside0.mk (blk_below (g := gb134) (o := .cells #[.int .i64 a0_0, .slice A0_1 l0_1.length c0_1, .int .i64 a0_2, .int .i64 a0_3, .slice A0_4 l0_4.length c0_4, .int .i64 a0_5, .string a0_6, .string a0_7] 27 (0, 0)) (by (with_reducible repeat (first | refine blk_drewN ?_ _ | refine blk_drew ?_ | refine blk_alloc ?_ _)); exact BK134.out) hb); have n1_ := Aside0.mk (below_step (by repeat (first | (with_reducible first | exact HB.out | apply below_alloc | apply pw_below_drewN | apply below_drew1 | refine below_set ?_ GE134.out) | exact HB.out)) hb); clear BK134; clear HB; have BK134 := n0_; have HB := n1_; clear n0_ n1_; (try clear hb); (try clear hb2); (try clear hk); (try clear hi); have hcz49_0 : w48.cell? ⟨gb134, 0, none⟩ = some (.int .i64 a0_0) := (blk_cell BK134.out 0).trans rfl; have hcz49_1 : w48.cell? ⟨gb134, 1, none⟩ = some (.slice A0_1 l0_1.length c0_1) := (blk_cell BK134.out 1).trans rfl; have hcz49_2 : w48.cell? ⟨gb134, 2, none⟩ = some (.int .i64 a0_2) := (blk_cell BK134.out 2).trans rfl; have hcz49_3 : w48.cell? ⟨gb134, 3, none⟩ = some (.int .i64 a0_3) := (blk_cell BK134.out 3).trans rfl; have hcz49_4 : w48.cell? ⟨gb134, 4, none⟩ = some (.slice A0_4 l0_4.length c0_4) := (blk_cell BK134.out 4).trans rfl; have hcz49_5 : w48.cell? ⟨gb134, 5, none⟩ = some (.int .i64 a0_5) := (blk_cell BK134.out 5).trans rfl; have hcz49_6 : w48.cell? ⟨gb134, 6, none⟩ = some (.string a0_6) := (blk_cell BK134.out 6).trans rfl; have hcz49_7 : w48.cell? ⟨gb134, 7, none⟩ = some (.string a0_7) := (blk_cell BK134.out 7).trans rfl; have hfz49_0 := blk_frozen BK134.out 0; have hfz49_1 := blk_frozen BK134.out 1; have hfz49_2 := blk_frozen BK134.out 2; have hfz49_3 := blk_frozen BK134.out 3; have hfz49_4 := blk_frozen BK134.out 4; have hfz49_5 := blk_frozen BK134.out 5; have hfz49_6 := blk_frozen BK134.out 6; have hfz49_7 := blk_frozen BK134.out 7; have p139 : 0 ≤ (0 : Int) := (by omega); have q139 : 0 < (l0_4.length : Int) := of_decide_eq_true (by first | (with_reducible assumption) | assumption); obtain ⟨ad139, A139_3, c139_3, e139, hx139_0, hx139_1, hx139_2, hx139_3, hl139_3, hi139_3⟩ := at_T24 HR0_4.out 0 p139 q139; cases e139; have qi139 : (0 < l0_4.length) = True := eq_true (by omega); (try rw [show ((0 : Int)).toNat = 0 from rfl] at hx139_0); (try rw [show 0 * 4 = 0 from rfl] at hx139_0); (try rw [Addr.add_zero'] at hx139_0); (try rw [show ((0 : Int)).toNat = 0 from rfl] at hx139_1); (try rw [show 0 * 4 = 0 from rfl] at hx139_1); (try rw [Addr.add_zero'] at hx139_1); (try rw [show ((0 : Int)).toNat = 0 from rfl] at hx139_2); (try rw [show 0 * 4 = 0 from rfl] at hx139_2); (try rw [Addr.add_zero'] at hx139_2); (try rw [show ((0 : Int)).toNat = 0 from rfl] at hx139_3); (try rw [show 0 * 4 = 0 from rfl] at hx139_3); (try rw [Addr.add_zero'] at hx139_3); replace hx139_0 := (HB.out.cell (World.block_lt_of_cell? w _ hx139_0)).trans hx139_0; replace hx139_1 := (HB.out.cell (World.block_lt_of_cell? w _ hx139_1)).trans hx139_1; replace hx139_2 := (HB.out.cell (World.block_lt_of_cell? w _ hx139_2)).trans hx139_2; replace hx139_3 := (HB.out.cell (World.block_lt_of_cell? w _ hx139_3)).trans hx139_3; have HR139_3 := Aside0.mk hi139_3; have HC139_3 := Aside0.mk hl139_3; clear hi139_3 hl139_3; replace p139 := eq_true p139; replace q139 := eq_true q139))
                            go_ret
                            exact ⟨by first | rfl | (simp [errW_none, errW_some] <;> rfl) | (simp [*, errW_none, errW_some] <;> rfl), by repeat (first | (with_reducible first | exact HB.out | apply below_alloc | apply pw_below_drewN | apply below_drew1 | refine below_set ?_ GE134.out) | exact HB.out)⟩
                        · rw [if_neg c37] at H
                          have c37b0 : decide (0 ≤ a0_5) = false := decide_eq_false c37
                          clear c37
                          obtain rfl := Option.some.inj H
                          have hcz50_0 : wc.cell? ⟨gb134, 0, none⟩ = some (.int .i64 a0_0) := (blk_cell BK134.out 0).trans rfl
                          have hcz50_1 : wc.cell? ⟨gb134, 1, none⟩ = some (.slice A0_1 l0_1.length c0_1) := (blk_cell BK134.out 1).trans rfl
                          have hcz50_2 : wc.cell? ⟨gb134, 2, none⟩ = some (.int .i64 a0_2) := (blk_cell BK134.out 2).trans rfl
                          have hcz50_3 : wc.cell? ⟨gb134, 3, none⟩ = some (.int .i64 a0_3) := (blk_cell BK134.out 3).trans rfl
                          have hcz50_4 : wc.cell? ⟨gb134, 4, none⟩ = some (.slice A0_4 l0_4.length c0_4) := (blk_cell BK134.out 4).trans rfl
                          have hcz50_5 : wc.cell? ⟨gb134, 5, none⟩ = some (.int .i64 a0_5) := (blk_cell BK134.out 5).trans rfl
                          have hcz50_6 : wc.cell? ⟨gb134, 6, none⟩ = some (.string a0_6) := (blk_cell BK134.out 6).trans rfl
                          have hcz50_7 : wc.cell? ⟨gb134, 7, none⟩ = some (.string a0_7) := (blk_cell BK134.out 7).trans rfl
                          have hfz50_0 := blk_frozen BK134.out 0
                          have hfz50_1 := blk_frozen BK134.out 1
                          have hfz50_2 := blk_frozen BK134.out 2
                          have hfz50_3 := blk_frozen BK134.out 3
                          have hfz50_4 := blk_frozen BK134.out 4
                          have hfz50_5 := blk_frozen BK134.out 5
                          have hfz50_6 := blk_frozen BK134.out 6
                          have hfz50_7 := blk_frozen BK134.out 7
                          go_wp2_with (first | ((with_reducible refine gate_callee (f := 44) rfl ?_); refine goesL_ (some 36) rfl rfl Tryd.func44 (by kernel_rfl) rfl #[.agg #[.int .i64 a0_0, .slice A0_1 l0_1.length c0_1, .int .i64 a0_2, .int .i64 a0_3, .slice A0_4 l0_4.length c0_4, .int .i64 a0_5, .string a0_6, .string a0_7]] rfl (by (try simp only [List.map_toArray, List.map_cons, List.map_nil]); first | done | rfl | (simp only [List.length_drop, List.length_take]; rfl)) ?_; (with_reducible refine (edit_bare.calls a0_0 _ _ l0_1 a0_2 a0_3 _ _ l0_4 a0_5 a0_6 a0_7 true _ ?side1 ?side2 ?side3 ?side4 A27.out).mono ?_); (case side1 => repeat (first | exact (Kd.C_below HR0_1.out HB.out) | (with_reducible refine Kd.C_alloc ?_ _) | (with_reducible refine Kd.C_drewN ?_ _) | (with_reducible refine Kd.C_drew ?_))); (case side2 => exact HC0_1.out); (case side3 => repeat (first | exact (Kd.C_below HR0_4.out HB.out) | (with_reducible refine Kd.C_alloc ?_ _) | (with_reducible refine Kd.C_drewN ?_ _) | (with_reducible refine Kd.C_drew ?_))); (case side4 => exact HC0_4.out); rintro e w51 ⟨rfl, hb⟩; refine ⟨_, rfl, ?_⟩; have n0_ := Aside0.mk (blk_below (g := gb134) (o := .cells #[.int .i64 a0_0, .slice A0_1 l0_1.length c0_1, .int .i64 a0_2, .int .i64 a0_3, .slice A0_4 l0_4.length c0_4, .int .i64 a0_5, .string a0_6, .string a0_7] 27 (0, 0)) (by (with_reducible repeat (first | refine blk_drewN ?_ _ | refine blk_drew ?_ | refine blk_alloc ?_ _)); exact BK134.out) hb); have n1_ := Aside0.mk (below_step (by repeat (first | (with_reducible first | exact HB.out | apply below_alloc | apply pw_below_drewN | apply below_drew1 | refine below_set ?_ GE134.out) | exact HB.out)) hb); clear BK134; clear HB; have BK134 := n0_; have HB := n1_; clear n0_ n1_; (try clear hb); (try clear hb2); (try clear hk); (try clear hi); have hcz52_0 : w51.cell? ⟨gb134, 0, none⟩ = some (.int .i64 a0_0) := (blk_cell BK134.out 0).trans rfl; have hcz52_1 : w51.cell? ⟨gb134, 1, none⟩ = some (.slice A0_1 l0_1.length c0_1) := (blk_cell BK134.out 1).trans rfl; have hcz52_2 : w51.cell? ⟨gb134, 2, none⟩ = some (.int .i64 a0_2) := (blk_cell BK134.out 2).trans rfl; have hcz52_3 : w51.cell? ⟨gb134, 3, none⟩ = some (.int .i64 a0_3) := (blk_cell BK134.out 3).trans rfl; have hcz52_4 : w51.cell? ⟨gb134, 4, none⟩ = some (.slice A0_4 l0_4.length c0_4) := (blk_cell BK134.out 4).trans rfl; have hcz52_5 : w51.cell? ⟨gb134, 5, none⟩ = some (.int .i64 a0_5) := (blk_cell BK134.out 5).trans rfl; have hcz52_6 : w51.cell? ⟨gb134, 6, none⟩ = some (.string a0_6) := (blk_cell BK134.out 6).trans rfl; have hcz52_7 : w51.cell? ⟨gb134, 7, none⟩ = some (.string a0_7) := (blk_cell BK134.out 7).trans rfl; have hfz52_0 := blk_frozen BK134.out 0; have hfz52_1 := blk_frozen BK134.out 1; have hfz52_2 := blk_frozen BK134.out 2; have hfz52_3 := blk_frozen BK134.out 3; have hfz52_4 := blk_frozen BK134.out 4; have hfz52_5 := blk_frozen BK134.out 5; have hfz52_6 := blk_frozen BK134.out 6; have hfz52_7 := blk_frozen BK134.out 7) | (go_at_call 45; (with_reducible refine (node_ValidItems.calls _ _ l0_4 true _ ?side1 ?side2 A34.out).mono ?_); (case side1 => repeat (first | exact (Kd.C_below HR0_4.out HB.out) | (with_reducible refine Kd.C_alloc ?_ _) | (with_reducible refine Kd.C_drewN ?_ _) | (with_reducible refine Kd.C_drew ?_))); (case side2 => exact HC0_4.out); rintro e w53 ⟨rfl, hb⟩; have n0_ := Aside0.mk (blk_below (g := gb134) (o := .cells #[.int .i64 a0_0, .slice A0_1 l0_1.length c0_1, .int .i64 a0_2, .int .i64 a0_3, .slice A0_4 l0_4.length c0_4, .int .i64 a0_5, .string a0_6, .string a0_7] 27 (0, 0)) (by (with_reducible repeat (first | refine blk_drewN ?_ _ | refine blk_drew ?_ | refine blk_alloc ?_ _)); exact BK134.out) hb); have n1_ := Aside0.mk (below_step (by repeat (first | (with_reducible first | exact HB.out | apply below_alloc | apply pw_below_drewN | apply below_drew1 | refine below_set ?_ GE134.out) | exact HB.out)) hb); clear BK134; clear HB; have BK134 := n0_; have HB := n1_; clear n0_ n1_; (try clear hb); (try clear hb2); (try clear hk); (try clear hi); have hcz54_0 : w53.cell? ⟨gb134, 0, none⟩ = some (.int .i64 a0_0) := (blk_cell BK134.out 0).trans rfl; have hcz54_1 : w53.cell? ⟨gb134, 1, none⟩ = some (.slice A0_1 l0_1.length c0_1) := (blk_cell BK134.out 1).trans rfl; have hcz54_2 : w53.cell? ⟨gb134, 2, none⟩ = some (.int .i64 a0_2) := (blk_cell BK134.out 2).trans rfl; have hcz54_3 : w53.cell? ⟨gb134, 3, none⟩ = some (.int .i64 a0_3) := (blk_cell BK134.out 3).trans rfl; have hcz54_4 : w53.cell? ⟨gb134, 4, none⟩ = some (.slice A0_4 l0_4.length c0_4) := (blk_cell BK134.out 4).trans rfl; have hcz54_5 : w53.cell? ⟨gb134, 5, none⟩ = some (.int .i64 a0_5) := (blk_cell BK134.out 5).trans rfl; have hcz54_6 : w53.cell? ⟨gb134, 6, none⟩ = some (.string a0_6) := (blk_cell BK134.out 6).trans rfl; have hcz54_7 : w53.cell? ⟨gb134, 7, none⟩ = some (.string a0_7) := (blk_cell BK134.out 7).trans rfl; have hfz54_0 := blk_frozen BK134.out 0; have hfz54_1 := blk_frozen BK134.out 1; have hfz54_2 := blk_frozen BK134.out 2; have hfz54_3 := blk_frozen BK134.out 3; have hfz54_4 := blk_frozen BK134.out 4; have hfz54_5 := blk_frozen BK134.out 5; have hfz54_6 := blk_frozen BK134.out 6; have hfz54_7 := blk_frozen BK134.out 7; have p139 : 0 ≤ (0 : Int) := (by omega); have q139 : 0 < (l0_4.length : Int) := of_decide_eq_true (by first | (with_reducible assumption) | assumption); obtain ⟨ad139, A139_3, c139_3, e139, hx139_0, hx139_1, hx139_2, hx139_3, hl139_3, hi139_3⟩ := at_T24 HR0_4.out 0 p139 q139; cases e139; have qi139 : (0 < l0_4.length) = True := eq_true (by omega); (try rw [show ((0 : Int)).toNat = 0 from rfl] at hx139_0); (try rw [show 0 * 4 = 0 from rfl] at hx139_0); (try rw [Addr.add_zero'] at hx139_0); (try rw [show ((0 : Int)).toNat = 0 from rfl] at hx139_1); (try rw [show 0 * 4 = 0 from rfl] at hx139_1); (try rw [Addr.add_zero'] at hx139_1); (try rw [show ((0 : Int)).toNat = 0 from rfl] at hx139_2); (try rw [show 0 * 4 = 0 from rfl] at hx139_2); (try rw [Addr.add_zero'] at hx139_2); (try rw [show ((0 : Int)).toNat = 0 from rfl] at hx139_3); (try rw [show 0 * 4 = 0 from rfl] at hx139_3); (try rw [Addr.add_zero'] at hx139_3); replace hx139_0 := (HB.out.cell (World.block_lt_of_cell? w _ hx139_0)).trans hx139_0; replace hx139_1 := (HB.out.cell (World.block_lt_of_cell? w _ hx139_1)).trans hx139_1; replace hx139_2 := (HB.out.cell (World.block_lt_of_cell? w _ hx139_2)).trans hx139_2; replace hx139_3 := (HB.out.cell (World.block_lt_of_cell? w _ hx139_3)).trans hx139_3; have HR139_3 := Aside0.mk hi139_3; have HC139_3 := Aside0.mk hl139_3; clear hi139_3 hl139_3; replace p139 := eq_true p139; replace q139 := eq_true q139))
                          go_ret
                          exact ⟨by first | rfl | (simp [errW_none, errW_some] <;> rfl) | (simp [*, errW_none, errW_some] <;> rfl), by repeat (first | (with_reducible first | exact HB.out | apply below_alloc | apply pw_below_drewN | apply below_drew1 | refine below_set ?_ GE134.out) | exact HB.out)⟩
                      · rw [if_neg c36] at H
                        exact absurd H (by simp)
                    · replace c35 := Bool.eq_false_iff.mpr c35
                      subst c35
                      have H1 : (some false) = some r := by rw [if_neg (show ¬ (false = true) by decide)] at H; exact H
                      clear H
                      have H := H1
                      clear H1
                      obtain rfl := Option.some.inj H
                      have hcz55_0 : wc.cell? ⟨gb134, 0, none⟩ = some (.int .i64 a0_0) := (blk_cell BK134.out 0).trans rfl
                      have hcz55_1 : wc.cell? ⟨gb134, 1, none⟩ = some (.slice A0_1 l0_1.length c0_1) := (blk_cell BK134.out 1).trans rfl
                      have hcz55_2 : wc.cell? ⟨gb134, 2, none⟩ = some (.int .i64 a0_2) := (blk_cell BK134.out 2).trans rfl
                      have hcz55_3 : wc.cell? ⟨gb134, 3, none⟩ = some (.int .i64 a0_3) := (blk_cell BK134.out 3).trans rfl
                      have hcz55_4 : wc.cell? ⟨gb134, 4, none⟩ = some (.slice A0_4 l0_4.length c0_4) := (blk_cell BK134.out 4).trans rfl
                      have hcz55_5 : wc.cell? ⟨gb134, 5, none⟩ = some (.int .i64 a0_5) := (blk_cell BK134.out 5).trans rfl
                      have hcz55_6 : wc.cell? ⟨gb134, 6, none⟩ = some (.string a0_6) := (blk_cell BK134.out 6).trans rfl
                      have hcz55_7 : wc.cell? ⟨gb134, 7, none⟩ = some (.string a0_7) := (blk_cell BK134.out 7).trans rfl
                      have hfz55_0 := blk_frozen BK134.out 0
                      have hfz55_1 := blk_frozen BK134.out 1
                      have hfz55_2 := blk_frozen BK134.out 2
                      have hfz55_3 := blk_frozen BK134.out 3
                      have hfz55_4 := blk_frozen BK134.out 4
                      have hfz55_5 := blk_frozen BK134.out 5
                      have hfz55_6 := blk_frozen BK134.out 6
                      have hfz55_7 := blk_frozen BK134.out 7
                      go_wp2_with (first | ((with_reducible refine gate_callee (f := 44) rfl ?_); refine goesL_ (some 36) rfl rfl Tryd.func44 (by kernel_rfl) rfl #[.agg #[.int .i64 a0_0, .slice A0_1 l0_1.length c0_1, .int .i64 a0_2, .int .i64 a0_3, .slice A0_4 l0_4.length c0_4, .int .i64 a0_5, .string a0_6, .string a0_7]] rfl (by (try simp only [List.map_toArray, List.map_cons, List.map_nil]); first | done | rfl | (simp only [List.length_drop, List.length_take]; rfl)) ?_; (with_reducible refine (edit_bare.calls a0_0 _ _ l0_1 a0_2 a0_3 _ _ l0_4 a0_5 a0_6 a0_7 true _ ?side1 ?side2 ?side3 ?side4 A27.out).mono ?_); (case side1 => repeat (first | exact (Kd.C_below HR0_1.out HB.out) | (with_reducible refine Kd.C_alloc ?_ _) | (with_reducible refine Kd.C_drewN ?_ _) | (with_reducible refine Kd.C_drew ?_))); (case side2 => exact HC0_1.out); (case side3 => repeat (first | exact (Kd.C_below HR0_4.out HB.out) | (with_reducible refine Kd.C_alloc ?_ _) | (with_reducible refine Kd.C_drewN ?_ _) | (with_reducible refine Kd.C_drew ?_))); (case side4 => exact HC0_4.out); rintro e w56 ⟨rfl, hb⟩; refine ⟨_, rfl, ?_⟩; have n0_ := Aside0.mk (blk_below (g := gb134) (o := .cells #[.int .i64 a0_0, .slice A0_1 l0_1.length c0_1, .int .i64 a0_2, .int .i64 a0_3, .slice A0_4 l0_4.length c0_4, .int .i64 a0_5, .string a0_6, .string a0_7] 27 (0, 0)) (by (with_reducible repeat (first | refine blk_drewN ?_ _ | refine blk_drew ?_ | refine blk_alloc ?_ _)); exact BK134.out) hb); have n1_ := Aside0.mk (below_step (by repeat (first | (with_reducible first | exact HB.out | apply below_alloc | apply pw_below_drewN | apply below_drew1 | refine below_set ?_ GE134.out) | exact HB.out)) hb); clear BK134; clear HB; have BK134 := n0_; have HB := n1_; clear n0_ n1_; (try clear hb); (try clear hb2); (try clear hk); (try clear hi); have hcz57_0 : w56.cell? ⟨gb134, 0, none⟩ = some (.int .i64 a0_0) := (blk_cell BK134.out 0).trans rfl; have hcz57_1 : w56.cell? ⟨gb134, 1, none⟩ = some (.slice A0_1 l0_1.length c0_1) := (blk_cell BK134.out 1).trans rfl; have hcz57_2 : w56.cell? ⟨gb134, 2, none⟩ = some (.int .i64 a0_2) := (blk_cell BK134.out 2).trans rfl; have hcz57_3 : w56.cell? ⟨gb134, 3, none⟩ = some (.int .i64 a0_3) := (blk_cell BK134.out 3).trans rfl; have hcz57_4 : w56.cell? ⟨gb134, 4, none⟩ = some (.slice A0_4 l0_4.length c0_4) := (blk_cell BK134.out 4).trans rfl; have hcz57_5 : w56.cell? ⟨gb134, 5, none⟩ = some (.int .i64 a0_5) := (blk_cell BK134.out 5).trans rfl; have hcz57_6 : w56.cell? ⟨gb134, 6, none⟩ = some (.string a0_6) := (blk_cell BK134.out 6).trans rfl; have hcz57_7 : w56.cell? ⟨gb134, 7, none⟩ = some (.string a0_7) := (blk_cell BK134.out 7).trans rfl; have hfz57_0 := blk_frozen BK134.out 0; have hfz57_1 := blk_frozen BK134.out 1; have hfz57_2 := blk_frozen BK134.out 2; have hfz57_3 := blk_frozen BK134.out 3; have hfz57_4 := blk_frozen BK134.out 4; have hfz57_5 := blk_frozen BK134.out 5; have hfz57_6 := blk_frozen BK134.out 6; have hfz57_7 := blk_frozen BK134.out 7) | (go_at_call 45; (with_reducible refine (node_ValidItems.calls _ _ l0_4 false _ ?side1 ?side2 A34.out).mono ?_); (case side1 => repeat (first | exact (Kd.C_below HR0_4.out HB.out) | (with_reducible refine Kd.C_alloc ?_ _) | (with_reducible refine Kd.C_drewN ?_ _) | (with_reducible refine Kd.C_drew ?_))); (case side2 => exact HC0_4.out); rintro e w58 ⟨rfl, hb⟩; have n0_ := Aside0.mk (blk_below (g := gb134) (o := .cells #[.int .i64 a0_0, .slice A0_1 l0_1.length c0_1, .int .i64 a0_2, .int .i64 a0_3, .slice A0_4 l0_4.length c0_4, .int .i64 a0_5, .string a0_6, .string a0_7] 27 (0, 0)) (by (with_reducible repeat (first | refine blk_drewN ?_ _ | refine blk_drew ?_ | refine blk_alloc ?_ _)); exact BK134.out) hb); have n1_ := Aside0.mk (below_step (by repeat (first | (with_reducible first | exact HB.out | apply below_alloc | apply pw_below_drewN | apply below_drew1 | refine below_set ?_ GE134.out) | exact HB.out)) hb); clear BK134; clear HB; have BK134 := n0_; have HB := n1_; clear n0_ n1_; (try clear hb); (try clear hb2); (try clear hk); (try clear hi)))
                      go_ret
                      exact ⟨by first | rfl | (simp [errW_none, errW_some] <;> rfl) | (simp [*, errW_none, errW_some] <;> rfl), by repeat (first | (with_reducible first | exact HB.out | apply below_alloc | apply pw_below_drewN | apply below_drew1 | refine below_set ?_ GE134.out) | exact HB.out)⟩
                  · rw [if_neg c33] at H
                    have c33b0 : ((l0_4.length : Int) == 1) = false := beq_eq_false_iff_ne.mpr c33
                    have c33b1 : ((l0_4.length : Int) != 1) = true := bne_iff_ne.mpr c33
                    obtain rfl := Option.some.inj H
                    have hcz59_0 : wc.cell? ⟨gb134, 0, none⟩ = some (.int .i64 a0_0) := (blk_cell BK134.out 0).trans rfl
                    have hcz59_1 : wc.cell? ⟨gb134, 1, none⟩ = some (.slice A0_1 l0_1.length c0_1) := (blk_cell BK134.out 1).trans rfl
                    have hcz59_2 : wc.cell? ⟨gb134, 2, none⟩ = some (.int .i64 a0_2) := (blk_cell BK134.out 2).trans rfl
                    have hcz59_3 : wc.cell? ⟨gb134, 3, none⟩ = some (.int .i64 a0_3) := (blk_cell BK134.out 3).trans rfl
                    have hcz59_4 : wc.cell? ⟨gb134, 4, none⟩ = some (.slice A0_4 l0_4.length c0_4) := (blk_cell BK134.out 4).trans rfl
                    have hcz59_5 : wc.cell? ⟨gb134, 5, none⟩ = some (.int .i64 a0_5) := (blk_cell BK134.out 5).trans rfl
                    have hcz59_6 : wc.cell? ⟨gb134, 6, none⟩ = some (.string a0_6) := (blk_cell BK134.out 6).trans rfl
                    have hcz59_7 : wc.cell? ⟨gb134, 7, none⟩ = some (.string a0_7) := (blk_cell BK134.out 7).trans rfl
                    have hfz59_0 := blk_frozen BK134.out 0
                    have hfz59_1 := blk_frozen BK134.out 1
                    have hfz59_2 := blk_frozen BK134.out 2
                    have hfz59_3 := blk_frozen BK134.out 3
                    have hfz59_4 := blk_frozen BK134.out 4
                    have hfz59_5 := blk_frozen BK134.out 5
                    have hfz59_6 := blk_frozen BK134.out 6
                    have hfz59_7 := blk_frozen BK134.out 7
                    go_wp2_with (first | ((with_reducible refine gate_callee (f := 44) rfl ?_); refine goesL_ (some 36) rfl rfl Tryd.func44 (by kernel_rfl) rfl #[.agg #[.int .i64 a0_0, .slice A0_1 l0_1.length c0_1, .int .i64 a0_2, .int .i64 a0_3, .slice A0_4 l0_4.length c0_4, .int .i64 a0_5, .string a0_6, .string a0_7]] rfl (by (try simp only [List.map_toArray, List.map_cons, List.map_nil]); first | done | rfl | (simp only [List.length_drop, List.length_take]; rfl)) ?_; (with_reducible refine (edit_bare.calls a0_0 _ _ l0_1 a0_2 a0_3 _ _ l0_4 a0_5 a0_6 a0_7 true _ ?side1 ?side2 ?side3 ?side4 A27.out).mono ?_); (case side1 => repeat (first | exact (Kd.C_below HR0_1.out HB.out) | (with_reducible refine Kd.C_alloc ?_ _) | (with_reducible refine Kd.C_drewN ?_ _) | (with_reducible refine Kd.C_drew ?_))); (case side2 => exact HC0_1.out); (case side3 => repeat (first | exact (Kd.C_below HR0_4.out HB.out) | (with_reducible refine Kd.C_alloc ?_ _) | (with_reducible refine Kd.C_drewN ?_ _) | (with_reducible refine Kd.C_drew ?_))); (case side4 => exact HC0_4.out); rintro e w60 ⟨rfl, hb⟩; refine ⟨_, rfl, ?_⟩; have n0_ := Aside0.mk (blk_below (g := gb134) (o := .cells #[.int .i64 a0_0, .slice A0_1 l0_1.length c0_1, .int .i64 a0_2, .int .i64 a0_3, .slice A0_4 l0_4.length c0_4, .int .i64 a0_5, .string a0_6, .string a0_7] 27 (0, 0)) (by (with_reducible repeat (first | refine blk_drewN ?_ _ | refine blk_drew ?_ | refine blk_alloc ?_ _)); exact BK134.out) hb); have n1_ := Aside0.mk (below_step (by repeat (first | (with_reducible first | exact HB.out | apply below_alloc | apply pw_below_drewN | apply below_drew1 | refine below_set ?_ GE134.out) | exact HB.out)) hb); clear BK134; clear HB; have BK134 := n0_; have HB := n1_; clear n0_ n1_; (try clear hb); (try clear hb2); (try clear hk); (try clear hi); have hcz61_0 : w60.cell? ⟨gb134, 0, none⟩ = some (.int .i64 a0_0) := (blk_cell BK134.out 0).trans rfl; have hcz61_1 : w60.cell? ⟨gb134, 1, none⟩ = some (.slice A0_1 l0_1.length c0_1) := (blk_cell BK134.out 1).trans rfl; have hcz61_2 : w60.cell? ⟨gb134, 2, none⟩ = some (.int .i64 a0_2) := (blk_cell BK134.out 2).trans rfl; have hcz61_3 : w60.cell? ⟨gb134, 3, none⟩ = some (.int .i64 a0_3) := (blk_cell BK134.out 3).trans rfl; have hcz61_4 : w60.cell? ⟨gb134, 4, none⟩ = some (.slice A0_4 l0_4.length c0_4) := (blk_cell BK134.out 4).trans rfl; have hcz61_5 : w60.cell? ⟨gb134, 5, none⟩ = some (.int .i64 a0_5) := (blk_cell BK134.out 5).trans rfl; have hcz61_6 : w60.cell? ⟨gb134, 6, none⟩ = some (.string a0_6) := (blk_cell BK134.out 6).trans rfl; have hcz61_7 : w60.cell? ⟨gb134, 7, none⟩ = some (.string a0_7) := (blk_cell BK134.out 7).trans rfl; have hfz61_0 := blk_frozen BK134.out 0; have hfz61_1 := blk_frozen BK134.out 1; have hfz61_2 := blk_frozen BK134.out 2; have hfz61_3 := blk_frozen BK134.out 3; have hfz61_4 := blk_frozen BK134.out 4; have hfz61_5 := blk_frozen BK134.out 5; have hfz61_6 := blk_frozen BK134.out 6; have hfz61_7 := blk_frozen BK134.out 7))
                    go_ret
                    exact ⟨by first | rfl | (simp [errW_none, errW_some] <;> rfl) | (simp [*, errW_none, errW_some] <;> rfl), by repeat (first | (with_reducible first | exact HB.out | apply below_alloc | apply pw_below_drewN | apply below_drew1 | refine below_set ?_ GE134.out) | exact HB.out)⟩
              · replace c28 := Bool.eq_false_iff.mpr c28
                subst c28
                have H1 : (some false) = some r := by rw [if_neg (show ¬ (false = true) by decide)] at H; exact H
                clear H
                have H := H1
                clear H1
                obtain rfl := Option.some.inj H
                have hcz62_0 : wc.cell? ⟨gb134, 0, none⟩ = some (.int .i64 a0_0) := (blk_cell BK134.out 0).trans rfl
                have hcz62_1 : wc.cell? ⟨gb134, 1, none⟩ = some (.slice A0_1 l0_1.length c0_1) := (blk_cell BK134.out 1).trans rfl
                have hcz62_2 : wc.cell? ⟨gb134, 2, none⟩ = some (.int .i64 a0_2) := (blk_cell BK134.out 2).trans rfl
                have hcz62_3 : wc.cell? ⟨gb134, 3, none⟩ = some (.int .i64 a0_3) := (blk_cell BK134.out 3).trans rfl
                have hcz62_4 : wc.cell? ⟨gb134, 4, none⟩ = some (.slice A0_4 l0_4.length c0_4) := (blk_cell BK134.out 4).trans rfl
                have hcz62_5 : wc.cell? ⟨gb134, 5, none⟩ = some (.int .i64 a0_5) := (blk_cell BK134.out 5).trans rfl
                have hcz62_6 : wc.cell? ⟨gb134, 6, none⟩ = some (.string a0_6) := (blk_cell BK134.out 6).trans rfl
                have hcz62_7 : wc.cell? ⟨gb134, 7, none⟩ = some (.string a0_7) := (blk_cell BK134.out 7).trans rfl
                have hfz62_0 := blk_frozen BK134.out 0
                have hfz62_1 := blk_frozen BK134.out 1
                have hfz62_2 := blk_frozen BK134.out 2
                have hfz62_3 := blk_frozen BK134.out 3
                have hfz62_4 := blk_frozen BK134.out 4
                have hfz62_5 := blk_frozen BK134.out 5
                have hfz62_6 := blk_frozen BK134.out 6
                have hfz62_7 := blk_frozen BK134.out 7
                go_wp2_with (first | ((with_reducible refine gate_callee (f := 44) rfl ?_); refine goesL_ (some 36) rfl rfl Tryd.func44 (by kernel_rfl) rfl #[.agg #[.int .i64 a0_0, .slice A0_1 l0_1.length c0_1, .int .i64 a0_2, .int .i64 a0_3, .slice A0_4 l0_4.length c0_4, .int .i64 a0_5, .string a0_6, .string a0_7]] rfl (by (try simp only [List.map_toArray, List.map_cons, List.map_nil]); first | done | rfl | (simp only [List.length_drop, List.length_take]; rfl)) ?_; (with_reducible refine (edit_bare.calls a0_0 _ _ l0_1 a0_2 a0_3 _ _ l0_4 a0_5 a0_6 a0_7 false _ ?side1 ?side2 ?side3 ?side4 A27.out).mono ?_); (case side1 => repeat (first | exact (Kd.C_below HR0_1.out HB.out) | (with_reducible refine Kd.C_alloc ?_ _) | (with_reducible refine Kd.C_drewN ?_ _) | (with_reducible refine Kd.C_drew ?_))); (case side2 => exact HC0_1.out); (case side3 => repeat (first | exact (Kd.C_below HR0_4.out HB.out) | (with_reducible refine Kd.C_alloc ?_ _) | (with_reducible refine Kd.C_drewN ?_ _) | (with_reducible refine Kd.C_drew ?_))); (case side4 => exact HC0_4.out); rintro e w63 ⟨rfl, hb⟩; refine ⟨_, rfl, ?_⟩; have n0_ := Aside0.mk (blk_below (g := gb134) (o := .cells #[.int .i64 a0_0, .slice A0_1 l0_1.length c0_1, .int .i64 a0_2, .int .i64 a0_3, .slice A0_4 l0_4.length c0_4, .int .i64 a0_5, .string a0_6, .string a0_7] 27 (0, 0)) (by (with_reducible repeat (first | refine blk_drewN ?_ _ | refine blk_drew ?_ | refine blk_alloc ?_ _)); exact BK134.out) hb); have n1_ := Aside0.mk (below_step (by repeat (first | (with_reducible first | exact HB.out | apply below_alloc | apply pw_below_drewN | apply below_drew1 | refine below_set ?_ GE134.out) | exact HB.out)) hb); clear BK134; clear HB; have BK134 := n0_; have HB := n1_; clear n0_ n1_; (try clear hb); (try clear hb2); (try clear hk); (try clear hi)))
                go_ret
                exact ⟨by first | rfl | (simp [errW_none, errW_some] <;> rfl) | (simp [*, errW_none, errW_some] <;> rfl), by repeat (first | (with_reducible first | exact HB.out | apply below_alloc | apply pw_below_drewN | apply below_drew1 | refine below_set ?_ GE134.out) | exact HB.out)⟩
            · replace c26 := Bool.eq_false_iff.mpr c26
              subst c26
              have H1 : (if a0_0 = 5 then (if a0_3 = 0 then (if a0_5 = 0 then (if (l0_4.length : Int) = 0 then (some (a0_6.toList != a0_7.toList)) else (some false)) else (some false)) else (some false)) else (some false)) = some r := by rw [if_neg (show ¬ (false = true) by decide)] at H; exact H
              clear H
              have H := H1
              clear H1
              by_cases c64 : a0_0 = 5
              · rw [if_pos c64] at H
                have c64b0 : (a0_0 == 5) = true := beq_iff_eq.mpr c64
                have c64b1 : (a0_0 != 5) = false := bne_eq_false_iff_eq.mpr c64
                clear c64
                by_cases c65 : a0_3 = 0
                · rw [if_pos c65] at H
                  have c65b0 : (a0_3 == 0) = true := beq_iff_eq.mpr c65
                  have c65b1 : (a0_3 != 0) = false := bne_eq_false_iff_eq.mpr c65
                  clear c65
                  by_cases c66 : a0_5 = 0
                  · rw [if_pos c66] at H
                    have c66b0 : (a0_5 == 0) = true := beq_iff_eq.mpr c66
                    have c66b1 : (a0_5 != 0) = false := bne_eq_false_iff_eq.mpr c66
                    clear c66
                    by_cases c67 : (l0_4.length : Int) = 0
                    · rw [if_pos c67] at H
                      have c67b0 : ((l0_4.length : Int) == 0) = true := beq_iff_eq.mpr c67
                      have c67b1 : ((l0_4.length : Int) != 0) = false := bne_eq_false_iff_eq.mpr c67
                      clear c67
                      obtain rfl := Option.some.inj H
                      have hcz68_0 : wc.cell? ⟨gb134, 0, none⟩ = some (.int .i64 a0_0) := (blk_cell BK134.out 0).trans rfl
                      have hcz68_1 : wc.cell? ⟨gb134, 1, none⟩ = some (.slice A0_1 l0_1.length c0_1) := (blk_cell BK134.out 1).trans rfl
                      have hcz68_2 : wc.cell? ⟨gb134, 2, none⟩ = some (.int .i64 a0_2) := (blk_cell BK134.out 2).trans rfl
                      have hcz68_3 : wc.cell? ⟨gb134, 3, none⟩ = some (.int .i64 a0_3) := (blk_cell BK134.out 3).trans rfl
                      have hcz68_4 : wc.cell? ⟨gb134, 4, none⟩ = some (.slice A0_4 l0_4.length c0_4) := (blk_cell BK134.out 4).trans rfl
                      have hcz68_5 : wc.cell? ⟨gb134, 5, none⟩ = some (.int .i64 a0_5) := (blk_cell BK134.out 5).trans rfl
                      have hcz68_6 : wc.cell? ⟨gb134, 6, none⟩ = some (.string a0_6) := (blk_cell BK134.out 6).trans rfl
                      have hcz68_7 : wc.cell? ⟨gb134, 7, none⟩ = some (.string a0_7) := (blk_cell BK134.out 7).trans rfl
                      have hfz68_0 := blk_frozen BK134.out 0
                      have hfz68_1 := blk_frozen BK134.out 1
                      have hfz68_2 := blk_frozen BK134.out 2
                      have hfz68_3 := blk_frozen BK134.out 3
                      have hfz68_4 := blk_frozen BK134.out 4
                      have hfz68_5 := blk_frozen BK134.out 5
                      have hfz68_6 := blk_frozen BK134.out 6
                      have hfz68_7 := blk_frozen BK134.out 7
                      go_wp2
                      go_ret
                      exact ⟨by first | rfl | (simp [errW_none, errW_some] <;> rfl) | (simp [*, errW_none, errW_some] <;> rfl), by repeat (first | (with_reducible first | exact HB.out | apply below_alloc | apply pw_below_drewN | apply below_drew1 | refine below_set ?_ GE134.out) | exact HB.out)⟩
                    · rw [if_neg c67] at H
                      have c67b0 : ((l0_4.length : Int) == 0) = false := beq_eq_false_iff_ne.mpr c67
                      have c67b1 : ((l0_4.length : Int) != 0) = true := bne_iff_ne.mpr c67
                      have c67b2 : ¬ (l0_4 = []) := fun h_ => c67 (by rw [h_]; rfl)
                      obtain rfl := Option.some.inj H
                      have hcz69_0 : wc.cell? ⟨gb134, 0, none⟩ = some (.int .i64 a0_0) := (blk_cell BK134.out 0).trans rfl
                      have hcz69_1 : wc.cell? ⟨gb134, 1, none⟩ = some (.slice A0_1 l0_1.length c0_1) := (blk_cell BK134.out 1).trans rfl
                      have hcz69_2 : wc.cell? ⟨gb134, 2, none⟩ = some (.int .i64 a0_2) := (blk_cell BK134.out 2).trans rfl
                      have hcz69_3 : wc.cell? ⟨gb134, 3, none⟩ = some (.int .i64 a0_3) := (blk_cell BK134.out 3).trans rfl
                      have hcz69_4 : wc.cell? ⟨gb134, 4, none⟩ = some (.slice A0_4 l0_4.length c0_4) := (blk_cell BK134.out 4).trans rfl
                      have hcz69_5 : wc.cell? ⟨gb134, 5, none⟩ = some (.int .i64 a0_5) := (blk_cell BK134.out 5).trans rfl
                      have hcz69_6 : wc.cell? ⟨gb134, 6, none⟩ = some (.string a0_6) := (blk_cell BK134.out 6).trans rfl
                      have hcz69_7 : wc.cell? ⟨gb134, 7, none⟩ = some (.string a0_7) := (blk_cell BK134.out 7).trans rfl
                      have hfz69_0 := blk_frozen BK134.out 0
                      have hfz69_1 := blk_frozen BK134.out 1
                      have hfz69_2 := blk_frozen BK134.out 2
                      have hfz69_3 := blk_frozen BK134.out 3
                      have hfz69_4 := blk_frozen BK134.out 4
                      have hfz69_5 := blk_frozen BK134.out 5
                      have hfz69_6 := blk_frozen BK134.out 6
                      have hfz69_7 := blk_frozen BK134.out 7
                      go_wp2
                      go_ret
                      exact ⟨by first | rfl | (simp [errW_none, errW_some] <;> rfl) | (simp [*, errW_none, errW_some] <;> rfl), by repeat (first | (with_reducible first | exact HB.out | apply below_alloc | apply pw_below_drewN | apply below_drew1 | refine below_set ?_ GE134.out) | exact HB.out)⟩
                  · rw [if_neg c66] at H
                    have c66b0 : (a0_5 == 0) = false := beq_eq_false_iff_ne.mpr c66
                    have c66b1 : (a0_5 != 0) = true := bne_iff_ne.mpr c66
                    obtain rfl := Option.some.inj H
                    have hcz70_0 : wc.cell? ⟨gb134, 0, none⟩ = some (.int .i64 a0_0) := (blk_cell BK134.out 0).trans rfl
                    have hcz70_1 : wc.cell? ⟨gb134, 1, none⟩ = some (.slice A0_1 l0_1.length c0_1) := (blk_cell BK134.out 1).trans rfl
                    have hcz70_2 : wc.cell? ⟨gb134, 2, none⟩ = some (.int .i64 a0_2) := (blk_cell BK134.out 2).trans rfl
                    have hcz70_3 : wc.cell? ⟨gb134, 3, none⟩ = some (.int .i64 a0_3) := (blk_cell BK134.out 3).trans rfl
                    have hcz70_4 : wc.cell? ⟨gb134, 4, none⟩ = some (.slice A0_4 l0_4.length c0_4) := (blk_cell BK134.out 4).trans rfl
                    have hcz70_5 : wc.cell? ⟨gb134, 5, none⟩ = some (.int .i64 a0_5) := (blk_cell BK134.out 5).trans rfl
                    have hcz70_6 : wc.cell? ⟨gb134, 6, none⟩ = some (.string a0_6) := (blk_cell BK134.out 6).trans rfl
                    have hcz70_7 : wc.cell? ⟨gb134, 7, none⟩ = some (.string a0_7) := (blk_cell BK134.out 7).trans rfl
                    have hfz70_0 := blk_frozen BK134.out 0
                    have hfz70_1 := blk_frozen BK134.out 1
                    have hfz70_2 := blk_frozen BK134.out 2
                    have hfz70_3 := blk_frozen BK134.out 3
                    have hfz70_4 := blk_frozen BK134.out 4
                    have hfz70_5 := blk_frozen BK134.out 5
                    have hfz70_6 := blk_frozen BK134.out 6
                    have hfz70_7 := blk_frozen BK134.out 7
                    go_wp2
                    go_ret
                    exact ⟨by first | rfl | (simp [errW_none, errW_some] <;> rfl) | (simp [*, errW_none, errW_some] <;> rfl), by repeat (first | (with_reducible first | exact HB.out | apply below_alloc | apply pw_below_drewN | apply below_drew1 | refine below_set ?_ GE134.out) | exact HB.out)⟩
                · rw [if_neg c65] at H
                  have c65b0 : (a0_3 == 0) = false := beq_eq_false_iff_ne.mpr c65
                  have c65b1 : (a0_3 != 0) = true := bne_iff_ne.mpr c65
                  obtain rfl := Option.some.inj H
                  have hcz71_0 : wc.cell? ⟨gb134, 0, none⟩ = some (.int .i64 a0_0) := (blk_cell BK134.out 0).trans rfl
                  have hcz71_1 : wc.cell? ⟨gb134, 1, none⟩ = some (.slice A0_1 l0_1.length c0_1) := (blk_cell BK134.out 1).trans rfl
                  have hcz71_2 : wc.cell? ⟨gb134, 2, none⟩ = some (.int .i64 a0_2) := (blk_cell BK134.out 2).trans rfl
                  have hcz71_3 : wc.cell? ⟨gb134, 3, none⟩ = some (.int .i64 a0_3) := (blk_cell BK134.out 3).trans rfl
                  have hcz71_4 : wc.cell? ⟨gb134, 4, none⟩ = some (.slice A0_4 l0_4.length c0_4) := (blk_cell BK134.out 4).trans rfl
                  have hcz71_5 : wc.cell? ⟨gb134, 5, none⟩ = some (.int .i64 a0_5) := (blk_cell BK134.out 5).trans rfl
                  have hcz71_6 : wc.cell? ⟨gb134, 6, none⟩ = some (.string a0_6) := (blk_cell BK134.out 6).trans rfl
                  have hcz71_7 : wc.cell? ⟨gb134, 7, none⟩ = some (.string a0_7) := (blk_cell BK134.out 7).trans rfl
                  have hfz71_0 := blk_frozen BK134.out 0
                  have hfz71_1 := blk_frozen BK134.out 1
                  have hfz71_2 := blk_frozen BK134.out 2
                  have hfz71_3 := blk_frozen BK134.out 3
                  have hfz71_4 := blk_frozen BK134.out 4
                  have hfz71_5 := blk_frozen BK134.out 5
                  have hfz71_6 := blk_frozen BK134.out 6
                  have hfz71_7 := blk_frozen BK134.out 7
                  go_wp2
                  go_ret
                  exact ⟨by first | rfl | (simp [errW_none, errW_some] <;> rfl) | (simp [*, errW_none, errW_some] <;> rfl), by repeat (first | (with_reducible first | exact HB.out | apply below_alloc | apply pw_below_drewN | apply below_drew1 | refine below_set ?_ GE134.out) | exact HB.out)⟩
              · rw [if_neg c64] at H
                have c64b0 : (a0_0 == 5) = false := beq_eq_false_iff_ne.mpr c64
                have c64b1 : (a0_0 != 5) = true := bne_iff_ne.mpr c64
                obtain rfl := Option.some.inj H
                go_wp2
                go_ret
                exact ⟨by first | rfl | (simp [errW_none, errW_some] <;> rfl) | (simp [*, errW_none, errW_some] <;> rfl), by repeat (first | (with_reducible first | exact HB.out | apply below_alloc | apply pw_below_drewN | apply below_drew1 | refine below_set ?_ GE134.out) | exact HB.out)⟩
end Go.Proofs.YtgcpfelccfnnbaaDoor.X
