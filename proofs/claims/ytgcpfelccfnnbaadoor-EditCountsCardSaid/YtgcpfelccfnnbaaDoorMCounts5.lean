/-
Part 5 of the texts of this proof: the walks through the program's functions.
-/
import Derived.StillTailTactics
import Derived.Test.YtgcpfelccfnnbaaDoorMCounts4
namespace Go.Proofs.YtgcpfelccfnnbaaDoor.X
open Go.RowKit Go.Proofs.YtgcpfelccfnnbaaDoorW.PrintWords Go.Proofs.YtgcpfelccfnnbaaDoorW.PrintLast Go.Proofs.YtgcpfelccfnnbaaDoorW.PrintMore
attribute [local go_sem] max2_int min2_int max_two min_two max_three min_three max_four min_four   -- for this text's walks alone
set_option linter.unusedVariables false
set_option linter.unusedSimpArgs false
def vinculumref12_Few.f (k : Nat) (a0_0 : Int) (l0_1 : List Int) (a0_2 : Int) (a0_3 : Int) (l0_4 : List (S24)) (a0_5 : Int) (a0_6 : ByteArray) (a0_7 : ByteArray) : Option (Bool) := (vinculumref09_ToRow.f l0_4).bind fun bt173 => ((vinculumref09_Few.f k bt173.1 bt173.2.1 bt173.2.2.1 bt173.2.2.2 100).bind fun t179 => (if t179 = true then (some (decide ((l0_1.length : Int) ≤ 60))) else (some false)))
theorem vinculumref12_Few.mono : ∀ a0 a1 a2 a3 a4 a5 a6 a7 k, LeO (vinculumref12_Few.f k a0 a1 a2 a3 a4 a5 a6 a7) (vinculumref12_Few.f (k + 1) a0 a1 a2 a3 a4 a5 a6 a7) := by
  intro a0 a1 a2 a3 a4 a5 a6 a7 k
  unfold vinculumref12_Few.f
  repeat' first
      | (with_reducible exact vinculumref09_Few.mono _ _ _ _ _ _)
      | (with_reducible exact LeO.refl _)
      | (with_reducible exact LeO.none _)
      | (with_reducible refine LeO.ite ?_ ?_)
      | (with_reducible refine LeO.bind ?_ (fun _ => ?_))
      | exact vinculumref09_Few.mono _ _ _ _ _ _
      | exact LeO.none _
      | refine LeO.ite ?_ ?_
      | refine LeO.bind ?_ (fun _ => ?_)
set_option maxHeartbeats 8000000 in
set_option maxRecDepth 100000 in
theorem vinculumref12_Few.calls (k : Nat) (a0_0 : Int) (A0_1 : Option Addr) (c0_1 : Nat) (l0_1 : List Int) (a0_2 : Int) (a0_3 : Int) (A0_4 : Option Addr) (c0_4 : Nat) (l0_4 : List (S24)) (a0_5 : Int) (a0_6 : ByteArray) (a0_7 : ByteArray) (r : Bool) (w : World) (hr0_1 : Kd.C (Kd.int .i64) w A0_1 l0_1.length l0_1) (hc0_1 : l0_1.length ≤ c0_1) (hr0_4 : Kd.C k24 w A0_4 l0_4.length l0_4) (hc0_4 : l0_4.length ≤ c0_4) (h : vinculumref12_Few.f k a0_0 l0_1 a0_2 a0_3 l0_4 a0_5 a0_6 a0_7 = some r) :
    Calls Tryd.prog 25 #[.agg #[.int .i64 a0_0, .slice A0_1 l0_1.length c0_1, .int .i64 a0_2, .int .i64 a0_3, .slice A0_4 l0_4.length c0_4, .int .i64 a0_5, .string a0_6, .string a0_7]] w fun e w' => e = .returned (.bool r) ∧ Below w.heap.size w w' := by
  have hu27 := Tryd.underlying27
  have HR0_1 := Aside0.mk hr0_1
  have HC0_1 := Aside0.mk hc0_1
  clear hr0_1 hc0_1
  have HR0_4 := Aside0.mk hr0_4
  have HC0_4 := Aside0.mk hc0_4
  clear hr0_4 hc0_4
  have HB := Aside0.mk (Below.refl w.heap.size w)
  have H : ((vinculumref09_ToRow.f l0_4).bind fun bt173 => ((vinculumref09_Few.f k bt173.1 bt173.2.1 bt173.2.2.1 bt173.2.2.2 100).bind fun t179 => (if t179 = true then (some (decide ((l0_1.length : Int) ≤ 60))) else (some false)))) = some r := h
  clear h
  replace H := Option.bind_eq_some_iff.mp H
  obtain ⟨⟨t173, t174, t175, t176⟩, A20, H⟩ := H
  replace H : ((vinculumref09_Few.f k t173 t174 t175 t176 100).bind fun t179 => (if t179 = true then (some (decide ((l0_1.length : Int) ≤ 60))) else (some false))) = some r := H
  have A2 := Aside0.mk A20
  clear A20
  replace H := Option.bind_eq_some_iff.mp H
  obtain ⟨t179, A30, H⟩ := H
  replace H : (if t179 = true then (some (decide ((l0_1.length : Int) ≤ 60))) else (some false)) = some r := H
  have A3 := Aside0.mk A30
  clear A30
  by_cases c4 : t179 = true
  · subst c4
    have H1 : (some (decide ((l0_1.length : Int) ≤ 60))) = some r := by rw [if_pos rfl] at H; exact H
    clear H
    have H := H1
    clear H1
    obtain rfl := Option.some.inj H
    go_enter Tryd.func25, Tryd.ntmps25
    go_wp2_with (first | ((with_reducible refine gate_dst (N := 1) rfl ?_); (try (refine gate_guard (by rfl) ?_; dsimp only)); refine box_event ?hg (N := 1) ?hd (cs := #[.int .i64 a0_0, .slice A0_1 l0_1.length c0_1, .int .i64 a0_2, .int .i64 a0_3, .slice A0_4 l0_4.length c0_4, .int .i64 a0_5, .string a0_6, .string a0_7]) (t := 27) ?hr ?_; (case hd => rfl); (case hg => rfl); (case hr => first | (go_simp; done) | (go_simp; rfl)); intro gb172 hg w5 hbox hb; have n0_ := Aside0.mk (below_step (by repeat (first | (with_reducible first | exact HB.out | apply below_alloc | apply pw_below_drewN | apply below_drew1) | exact HB.out)) hb); have n1_ := Aside0.mk (hbox); have n2_ := Aside0.mk ((by rw [hg]; exact (below_size (by repeat (first | (with_reducible first | exact HB.out | apply below_alloc | apply pw_below_drewN | apply below_drew1) | exact HB.out))) : w.heap.size ≤ gb172)); have n3_ := Aside0.mk ((by rw [hg]; exact (below_size (by repeat (first | (with_reducible first | exact HB.out | apply below_alloc | apply pw_below_drewN | apply below_drew1) | exact HB.out))) : w.heap.size ≤ gb172)); clear HB; have HB := n0_; have BK172 := n1_; have GW172 := n2_; have GE172 := n3_; clear n0_ n1_ n2_ n3_; clear hb hbox hg; have hcz6_0 : w5.cell? ⟨gb172, 0, none⟩ = some (.int .i64 a0_0) := (blk_cell BK172.out 0).trans rfl; have hcz6_1 : w5.cell? ⟨gb172, 1, none⟩ = some (.slice A0_1 l0_1.length c0_1) := (blk_cell BK172.out 1).trans rfl; have hcz6_2 : w5.cell? ⟨gb172, 2, none⟩ = some (.int .i64 a0_2) := (blk_cell BK172.out 2).trans rfl; have hcz6_3 : w5.cell? ⟨gb172, 3, none⟩ = some (.int .i64 a0_3) := (blk_cell BK172.out 3).trans rfl; have hcz6_4 : w5.cell? ⟨gb172, 4, none⟩ = some (.slice A0_4 l0_4.length c0_4) := (blk_cell BK172.out 4).trans rfl; have hcz6_5 : w5.cell? ⟨gb172, 5, none⟩ = some (.int .i64 a0_5) := (blk_cell BK172.out 5).trans rfl; have hcz6_6 : w5.cell? ⟨gb172, 6, none⟩ = some (.string a0_6) := (blk_cell BK172.out 6).trans rfl; have hcz6_7 : w5.cell? ⟨gb172, 7, none⟩ = some (.string a0_7) := (blk_cell BK172.out 7).trans rfl; have hfz6_0 := blk_frozen BK172.out 0; have hfz6_1 := blk_frozen BK172.out 1; have hfz6_2 := blk_frozen BK172.out 2; have hfz6_3 := blk_frozen BK172.out 3; have hfz6_4 := blk_frozen BK172.out 4; have hfz6_5 := blk_frozen BK172.out 5; have hfz6_6 := blk_frozen BK172.out 6; have hfz6_7 := blk_frozen BK172.out 7) | ((with_reducible refine gate_callee (f := 40) rfl ?_); refine goesL_ (some 5) rfl rfl Tryd.func40 (by kernel_rfl) rfl #[.slice A0_4 l0_4.length c0_4] rfl (by (try simp only [List.map_toArray, List.map_cons, List.map_nil]); first | done | rfl | (simp only [List.length_drop, List.length_take]; rfl)) ?_; (with_reducible refine (vinculumref09_ToRow.calls (fun k_ => k_ < w.heap.size) _ _ l0_4 t173 t174 t175 t176 _ ?side1 A2.out).mono ?_); (case side1 => exact Kd.V_mk HC0_4.out (Kd.F_below (Kd.C_F k24_heap HR0_4.out) (by repeat (first | (with_reducible first | exact HB.out | apply below_alloc | apply pw_below_drewN | apply below_drew1 | refine below_set ?_ GE172.out) | exact HB.out)))); rintro e w7 ⟨v177, rfl, ho0, hb⟩; refine ⟨_, rfl, ?_⟩; have n0_ := Aside0.mk (Kd.V_lower (Kd.V_mono (ok' := fun k_ => k_ ≠ gb172) ho0 (fun k_ hk_ => Or.elim hk_ (fun hs_ => fun e_ => Nat.not_le.2 hs_ (by rw [e_]; exact GW172.out)) (fun hn_ => (Kd.freshB (g := gb172) (o := .cells #[.int .i64 a0_0, .slice A0_1 l0_1.length c0_1, .int .i64 a0_2, .int .i64 a0_3, .slice A0_4 l0_4.length c0_4, .int .i64 a0_5, .string a0_6, .string a0_7] 27 (0, 0)) (by (with_reducible repeat (first | refine blk_drewN ?_ _ | refine blk_drew ?_ | refine blk_alloc ?_ _)); exact BK172.out) k_ hn_)))) (below_size (by repeat (first | (with_reducible first | exact HB.out | apply below_alloc | apply pw_below_drewN | apply below_drew1 | refine below_set ?_ GE172.out) | exact HB.out)))); have n1_ := Aside0.mk (blk_below (g := gb172) (o := .cells #[.int .i64 a0_0, .slice A0_1 l0_1.length c0_1, .int .i64 a0_2, .int .i64 a0_3, .slice A0_4 l0_4.length c0_4, .int .i64 a0_5, .string a0_6, .string a0_7] 27 (0, 0)) (by (with_reducible repeat (first | refine blk_drewN ?_ _ | refine blk_drew ?_ | refine blk_alloc ?_ _)); exact BK172.out) hb); have n2_ := Aside0.mk (below_step (by repeat (first | (with_reducible first | exact HB.out | apply below_alloc | apply pw_below_drewN | apply below_drew1 | refine below_set ?_ GE172.out) | exact HB.out)) hb); clear BK172; clear HB; have HO178 := n0_; have BK172 := n1_; have HB := n2_; clear n0_ n1_ n2_; (try clear hb); (try clear hb2); (try clear hk); (try clear hi); (try clear ho0); obtain ⟨Ao8, co8, eo8⟩ := Kd.V_slice HO178.out; subst eo8) | ((with_reducible refine gate_callee (f := 26) rfl ?_); refine goesL_ (some 6) rfl rfl Tryd.func26 (by kernel_rfl) rfl #[.agg #[.int .i64 t173, .string t174, .int .i64 t175, .slice Ao8 t176.length co8], .int .i64 100] rfl (by (try simp only [List.map_toArray, List.map_cons, List.map_nil]); first | done | rfl | (simp only [List.length_drop, List.length_take]; rfl)) ?_; (with_reducible refine (vinculumref09_Few.calls k t173 t174 t175 _ _ t176 100 true _ ?side1 ?side2 A3.out).mono ?_); (case side1 => repeat (first | exact (Kd.V_reads' HO178.out).2.2 | (with_reducible refine Kd.C_alloc ?_ _) | (with_reducible refine Kd.C_drewN ?_ _) | (with_reducible refine Kd.C_drew ?_))); (case side2 => exact (Kd.V_reads' HO178.out).2.1); rintro e w9 ⟨rfl, hb⟩; refine ⟨_, rfl, ?_⟩; have n0_ := Aside0.mk (Kd.V_below (by (with_reducible repeat (first | apply Kd.V_alloc | apply Kd.V_drewN | apply Kd.V_drew)); exact HO178.out) hb); have n1_ := Aside0.mk (blk_below (g := gb172) (o := .cells #[.int .i64 a0_0, .slice A0_1 l0_1.length c0_1, .int .i64 a0_2, .int .i64 a0_3, .slice A0_4 l0_4.length c0_4, .int .i64 a0_5, .string a0_6, .string a0_7] 27 (0, 0)) (by (with_reducible repeat (first | refine blk_drewN ?_ _ | refine blk_drew ?_ | refine blk_alloc ?_ _)); exact BK172.out) hb); have n2_ := Aside0.mk (below_step (by repeat (first | (with_reducible first | exact HB.out | apply below_alloc | apply pw_below_drewN | apply below_drew1 | refine below_set ?_ GE172.out) | exact HB.out)) hb); clear HO178; clear BK172; clear HB; have HO178 := n0_; have BK172 := n1_; have HB := n2_; clear n0_ n1_ n2_; (try clear hb); (try clear hb2); (try clear hk); (try clear hi); have hcz10_0 : w9.cell? ⟨gb172, 0, none⟩ = some (.int .i64 a0_0) := (blk_cell BK172.out 0).trans rfl; have hcz10_1 : w9.cell? ⟨gb172, 1, none⟩ = some (.slice A0_1 l0_1.length c0_1) := (blk_cell BK172.out 1).trans rfl; have hcz10_2 : w9.cell? ⟨gb172, 2, none⟩ = some (.int .i64 a0_2) := (blk_cell BK172.out 2).trans rfl; have hcz10_3 : w9.cell? ⟨gb172, 3, none⟩ = some (.int .i64 a0_3) := (blk_cell BK172.out 3).trans rfl; have hcz10_4 : w9.cell? ⟨gb172, 4, none⟩ = some (.slice A0_4 l0_4.length c0_4) := (blk_cell BK172.out 4).trans rfl; have hcz10_5 : w9.cell? ⟨gb172, 5, none⟩ = some (.int .i64 a0_5) := (blk_cell BK172.out 5).trans rfl; have hcz10_6 : w9.cell? ⟨gb172, 6, none⟩ = some (.string a0_6) := (blk_cell BK172.out 6).trans rfl; have hcz10_7 : w9.cell? ⟨gb172, 7, none⟩ = some (.string a0_7) := (blk_cell BK172.out 7).trans rfl; have hfz10_0 := blk_frozen BK172.out 0; have hfz10_1 := blk_frozen BK172.out 1; have hfz10_2 := blk_frozen BK172.out 2; have hfz10_3 := blk_frozen BK172.out 3; have hfz10_4 := blk_frozen BK172.out 4; have hfz10_5 := blk_frozen BK172.out 5; have hfz10_6 := blk_frozen BK172.out 6; have hfz10_7 := blk_frozen BK172.out 7))
    go_ret
    exact ⟨by first | rfl | (simp [errW_none, errW_some] <;> rfl) | (simp [*, errW_none, errW_some] <;> rfl), by repeat (first | (with_reducible first | exact HB.out | apply below_alloc | apply pw_below_drewN | apply below_drew1 | refine below_set ?_ GE172.out) | exact HB.out)⟩
  · replace c4 := Bool.eq_false_iff.mpr c4
    subst c4
    have H1 : (some false) = some r := by rw [if_neg (show ¬ (false = true) by decide)] at H; exact H
    clear H
    have H := H1
    clear H1
    obtain rfl := Option.some.inj H
    go_enter Tryd.func25, Tryd.ntmps25
    go_wp2_with (first | ((with_reducible refine gate_dst (N := 1) rfl ?_); (try (refine gate_guard (by rfl) ?_; dsimp only)); refine box_event ?hg (N := 1) ?hd (cs := #[.int .i64 a0_0, .slice A0_1 l0_1.length c0_1, .int .i64 a0_2, .int .i64 a0_3, .slice A0_4 l0_4.length c0_4, .int .i64 a0_5, .string a0_6, .string a0_7]) (t := 27) ?hr ?_; (case hd => rfl); (case hg => rfl); (case hr => first | (go_simp; done) | (go_simp; rfl)); intro gb172 hg w11 hbox hb; have n0_ := Aside0.mk (below_step (by repeat (first | (with_reducible first | exact HB.out | apply below_alloc | apply pw_below_drewN | apply below_drew1) | exact HB.out)) hb); have n1_ := Aside0.mk (hbox); have n2_ := Aside0.mk ((by rw [hg]; exact (below_size (by repeat (first | (with_reducible first | exact HB.out | apply below_alloc | apply pw_below_drewN | apply below_drew1) | exact HB.out))) : w.heap.size ≤ gb172)); have n3_ := Aside0.mk ((by rw [hg]; exact (below_size (by repeat (first | (with_reducible first | exact HB.out | apply below_alloc | apply pw_below_drewN | apply below_drew1) | exact HB.out))) : w.heap.size ≤ gb172)); clear HB; have HB := n0_; have BK172 := n1_; have GW172 := n2_; have GE172 := n3_; clear n0_ n1_ n2_ n3_; clear hb hbox hg; have hcz12_0 : w11.cell? ⟨gb172, 0, none⟩ = some (.int .i64 a0_0) := (blk_cell BK172.out 0).trans rfl; have hcz12_1 : w11.cell? ⟨gb172, 1, none⟩ = some (.slice A0_1 l0_1.length c0_1) := (blk_cell BK172.out 1).trans rfl; have hcz12_2 : w11.cell? ⟨gb172, 2, none⟩ = some (.int .i64 a0_2) := (blk_cell BK172.out 2).trans rfl; have hcz12_3 : w11.cell? ⟨gb172, 3, none⟩ = some (.int .i64 a0_3) := (blk_cell BK172.out 3).trans rfl; have hcz12_4 : w11.cell? ⟨gb172, 4, none⟩ = some (.slice A0_4 l0_4.length c0_4) := (blk_cell BK172.out 4).trans rfl; have hcz12_5 : w11.cell? ⟨gb172, 5, none⟩ = some (.int .i64 a0_5) := (blk_cell BK172.out 5).trans rfl; have hcz12_6 : w11.cell? ⟨gb172, 6, none⟩ = some (.string a0_6) := (blk_cell BK172.out 6).trans rfl; have hcz12_7 : w11.cell? ⟨gb172, 7, none⟩ = some (.string a0_7) := (blk_cell BK172.out 7).trans rfl; have hfz12_0 := blk_frozen BK172.out 0; have hfz12_1 := blk_frozen BK172.out 1; have hfz12_2 := blk_frozen BK172.out 2; have hfz12_3 := blk_frozen BK172.out 3; have hfz12_4 := blk_frozen BK172.out 4; have hfz12_5 := blk_frozen BK172.out 5; have hfz12_6 := blk_frozen BK172.out 6; have hfz12_7 := blk_frozen BK172.out 7) | ((with_reducible refine gate_callee (f := 40) rfl ?_); refine goesL_ (some 5) rfl rfl Tryd.func40 (by kernel_rfl) rfl #[.slice A0_4 l0_4.length c0_4] rfl (by (try simp only [List.map_toArray, List.map_cons, List.map_nil]); first | done | rfl | (simp only [List.length_drop, List.length_take]; rfl)) ?_; (with_reducible refine (vinculumref09_ToRow.calls (fun k_ => k_ < w.heap.size) _ _ l0_4 t173 t174 t175 t176 _ ?side1 A2.out).mono ?_); (case side1 => exact Kd.V_mk HC0_4.out (Kd.F_below (Kd.C_F k24_heap HR0_4.out) (by repeat (first | (with_reducible first | exact HB.out | apply below_alloc | apply pw_below_drewN | apply below_drew1 | refine below_set ?_ GE172.out) | exact HB.out)))); rintro e w13 ⟨v177, rfl, ho0, hb⟩; refine ⟨_, rfl, ?_⟩; have n0_ := Aside0.mk (Kd.V_lower (Kd.V_mono (ok' := fun k_ => k_ ≠ gb172) ho0 (fun k_ hk_ => Or.elim hk_ (fun hs_ => fun e_ => Nat.not_le.2 hs_ (by rw [e_]; exact GW172.out)) (fun hn_ => (Kd.freshB (g := gb172) (o := .cells #[.int .i64 a0_0, .slice A0_1 l0_1.length c0_1, .int .i64 a0_2, .int .i64 a0_3, .slice A0_4 l0_4.length c0_4, .int .i64 a0_5, .string a0_6, .string a0_7] 27 (0, 0)) (by (with_reducible repeat (first | refine blk_drewN ?_ _ | refine blk_drew ?_ | refine blk_alloc ?_ _)); exact BK172.out) k_ hn_)))) (below_size (by repeat (first | (with_reducible first | exact HB.out | apply below_alloc | apply pw_below_drewN | apply below_drew1 | refine below_set ?_ GE172.out) | exact HB.out)))); have n1_ := Aside0.mk (blk_below (g := gb172) (o := .cells #[.int .i64 a0_0, .slice A0_1 l0_1.length c0_1, .int .i64 a0_2, .int .i64 a0_3, .slice A0_4 l0_4.length c0_4, .int .i64 a0_5, .string a0_6, .string a0_7] 27 (0, 0)) (by (with_reducible repeat (first | refine blk_drewN ?_ _ | refine blk_drew ?_ | refine blk_alloc ?_ _)); exact BK172.out) hb); have n2_ := Aside0.mk (below_step (by repeat (first | (with_reducible first | exact HB.out | apply below_alloc | apply pw_below_drewN | apply below_drew1 | refine below_set ?_ GE172.out) | exact HB.out)) hb); clear BK172; clear HB; have HO178 := n0_; have BK172 := n1_; have HB := n2_; clear n0_ n1_ n2_; (try clear hb); (try clear hb2); (try clear hk); (try clear hi); (try clear ho0); obtain ⟨Ao14, co14, eo14⟩ := Kd.V_slice HO178.out; subst eo14) | ((with_reducible refine gate_callee (f := 26) rfl ?_); refine goesL_ (some 6) rfl rfl Tryd.func26 (by kernel_rfl) rfl #[.agg #[.int .i64 t173, .string t174, .int .i64 t175, .slice Ao14 t176.length co14], .int .i64 100] rfl (by (try simp only [List.map_toArray, List.map_cons, List.map_nil]); first | done | rfl | (simp only [List.length_drop, List.length_take]; rfl)) ?_; (with_reducible refine (vinculumref09_Few.calls k t173 t174 t175 _ _ t176 100 false _ ?side1 ?side2 A3.out).mono ?_); (case side1 => repeat (first | exact (Kd.V_reads' HO178.out).2.2 | (with_reducible refine Kd.C_alloc ?_ _) | (with_reducible refine Kd.C_drewN ?_ _) | (with_reducible refine Kd.C_drew ?_))); (case side2 => exact (Kd.V_reads' HO178.out).2.1); rintro e w15 ⟨rfl, hb⟩; refine ⟨_, rfl, ?_⟩; have n0_ := Aside0.mk (Kd.V_below (by (with_reducible repeat (first | apply Kd.V_alloc | apply Kd.V_drewN | apply Kd.V_drew)); exact HO178.out) hb); have n1_ := Aside0.mk (blk_below (g := gb172) (o := .cells #[.int .i64 a0_0, .slice A0_1 l0_1.length c0_1, .int .i64 a0_2, .int .i64 a0_3, .slice A0_4 l0_4.length c0_4, .int .i64 a0_5, .string a0_6, .string a0_7] 27 (0, 0)) (by (with_reducible repeat (first | refine blk_drewN ?_ _ | refine blk_drew ?_ | refine blk_alloc ?_ _)); exact BK172.out) hb); have n2_ := Aside0.mk (below_step (by repeat (first | (with_reducible first | exact HB.out | apply below_alloc | apply pw_below_drewN | apply below_drew1 | refine below_set ?_ GE172.out) | exact HB.out)) hb); clear HO178; clear BK172; clear HB; have HO178 := n0_; have BK172 := n1_; have HB := n2_; clear n0_ n1_ n2_; (try clear hb); (try clear hb2); (try clear hk); (try clear hi)))
    go_ret
    exact ⟨by first | rfl | (simp [errW_none, errW_some] <;> rfl) | (simp [*, errW_none, errW_some] <;> rfl), by repeat (first | (with_reducible first | exact HB.out | apply below_alloc | apply pw_below_drewN | apply below_drew1 | refine below_set ?_ GE172.out) | exact HB.out)⟩
end Go.Proofs.YtgcpfelccfnnbaaDoor.X
namespace Go.Proofs.YtgcpfelccfnnbaaDoor.X
open Go.RowKit Go.Proofs.YtgcpfelccfnnbaaDoorW.PrintWords Go.Proofs.YtgcpfelccfnnbaaDoorW.PrintLast Go.Proofs.YtgcpfelccfnnbaaDoorW.PrintMore
attribute [local go_sem] max2_int min2_int max_two min_two max_three min_three max_four min_four   -- for this text's walks alone
set_option linter.unusedVariables false
set_option linter.unusedSimpArgs false
def vinculumlaw12_few.l0 : Nat → List (S27) → List (S27) → Int → Int → Int → ByteArray → Int → List (S24) → Option (Bool)
  | 0, _, _, _, _, _, _, _, _ => none
  | k + 1, x1, x7, x8, x9, x181000, x181001, x181002, x181003 => if x9 < x8 then (if 0 ≤ x9 then (if x9 < (x7.length : Int) then ((vinculumref12_Few.f k ((rd_T27 x7 x9).f0) ((rd_T27 x7 x9).f1) ((rd_T27 x7 x9).f2) ((rd_T27 x7 x9).f3) ((rd_T27 x7 x9).f4) ((rd_T27 x7 x9).f5) ((rd_T27 x7 x9).f6) ((rd_T27 x7 x9).f7)).bind fun t183 => (if t183 = true then (vinculumlaw12_few.l0 k x1 x7 x8 (wrap64 (x9 + 1)) x181000 x181001 x181002 x181003) else (some false))) else (none)) else (none)) else ((vinculumref09_Few.f k x181000 x181001 x181002 x181003 300).bind fun t184 => (if t184 = true then (some (decide ((x1.length : Int) ≤ 12))) else (some false)))
def vinculumlaw12_few.f (k : Nat) (a0_0 : Int) (a0_1 : ByteArray) (a0_2 : Int) (l0_3 : List (S24)) (l1 : List (S27)) : Option (Bool) := vinculumlaw12_few.l0 k l1 l1 (l1.length : Int) 0 a0_0 a0_1 a0_2 l0_3
theorem vinculumlaw12_few.mono_l : ∀ k, (∀ y0 y1 y2 y3 y4 y5 y6 y7, LeO (vinculumlaw12_few.l0 k y0 y1 y2 y3 y4 y5 y6 y7) (vinculumlaw12_few.l0 (k + 1) y0 y1 y2 y3 y4 y5 y6 y7))
  | 0 => fun _ _ _ _ _ _ _ _ r h => by simp [vinculumlaw12_few.l0] at h
  | k + 1 => by
    have ih0 := vinculumlaw12_few.mono_l k
    · intro y0 y1 y2 y3 y4 y5 y6 y7
      unfold vinculumlaw12_few.l0
      repeat' first
      | (with_reducible exact ih0 _ _ _ _ _ _ _ _)
      | (with_reducible exact vinculumref09_Few.mono _ _ _ _ _ _)
      | (with_reducible exact vinculumref12_Few.mono _ _ _ _ _ _ _ _ _)
      | (with_reducible exact LeO.refl _)
      | (with_reducible exact LeO.none _)
      | (with_reducible refine LeO.ite ?_ ?_)
      | (with_reducible refine LeO.bind ?_ (fun _ => ?_))
      | exact ih0 _ _ _ _ _ _ _ _
      | exact vinculumref09_Few.mono _ _ _ _ _ _
      | exact vinculumref12_Few.mono _ _ _ _ _ _ _ _ _
      | exact LeO.none _
      | refine LeO.ite ?_ ?_
      | refine LeO.bind ?_ (fun _ => ?_)
theorem vinculumlaw12_few.mono : ∀ a0 a1 a2 a3 a4 k, LeO (vinculumlaw12_few.f k a0 a1 a2 a3 a4) (vinculumlaw12_few.f (k + 1) a0 a1 a2 a3 a4) := by
  intro a0 a1 a2 a3 a4 k
  have ih0 := vinculumlaw12_few.mono_l k
  unfold vinculumlaw12_few.f
  repeat' first
      | (with_reducible exact ih0 _ _ _ _ _ _ _ _)
      | (with_reducible exact vinculumref09_Few.mono _ _ _ _ _ _)
      | (with_reducible exact vinculumref12_Few.mono _ _ _ _ _ _ _ _ _)
      | (with_reducible exact LeO.refl _)
      | (with_reducible exact LeO.none _)
      | (with_reducible refine LeO.ite ?_ ?_)
      | (with_reducible refine LeO.bind ?_ (fun _ => ?_))
      | exact ih0 _ _ _ _ _ _ _ _
      | exact vinculumref09_Few.mono _ _ _ _ _ _
      | exact vinculumref12_Few.mono _ _ _ _ _ _ _ _ _
      | exact LeO.none _
      | refine LeO.ite ?_ ?_
      | refine LeO.bind ?_ (fun _ => ?_)
set_option maxHeartbeats 8000000 in
set_option maxRecDepth 100000 in
theorem vinculumlaw12_few.calls (k : Nat) (a0_0 : Int) (a0_1 : ByteArray) (a0_2 : Int) (A0_3 : Option Addr) (c0_3 : Nat) (l0_3 : List (S24)) (A1 : Option Addr) (c1 : Nat) (l1 : List (S27)) (r : Bool) (w : World) (hr0_3 : Kd.C k24 w A0_3 l0_3.length l0_3) (hc0_3 : l0_3.length ≤ c0_3) (hr1 : Kd.C k27 w A1 l1.length l1) (hc1 : l1.length ≤ c1) (h : vinculumlaw12_few.f k a0_0 a0_1 a0_2 l0_3 l1 = some r) :
    Calls Tryd.prog 10 #[.agg #[.int .i64 a0_0, .string a0_1, .int .i64 a0_2, .slice A0_3 l0_3.length c0_3], .slice A1 l1.length c1] w fun e w' => e = .returned (.bool r) ∧ Below w.heap.size w w' := by
  have hu24 := Tryd.underlying24
  have hu27 := Tryd.underlying27
  have HR0_3 := Aside0.mk hr0_3
  have HC0_3 := Aside0.mk hc0_3
  clear hr0_3 hc0_3
  have HR1 := Aside0.mk hr1
  have HC1 := Aside0.mk hc1
  clear hr1 hc1
  have HB := Aside0.mk (Below.refl w.heap.size w)
  have H : (vinculumlaw12_few.l0 k l1 l1 (l1.length : Int) 0 a0_0 a0_1 a0_2 l0_3) = some r := h
  clear h
  have H' := Aside0.mk H
  clear H
  go_enter Tryd.func10, Tryd.ntmps10
  go_wp2_with (first | ((with_reducible refine gate_dst (N := 2) rfl ?_); (try (refine gate_guard (by rfl) ?_; dsimp only)); refine box_event ?hg (N := 2) ?hd (cs := #[.int .i64 a0_0, .string a0_1, .int .i64 a0_2, .slice A0_3 l0_3.length c0_3]) (t := 24) ?hr ?_; (case hd => rfl); (case hg => rfl); (case hr => first | (go_simp; done) | (go_simp; rfl)); intro gb180 hg w3 hbox hb; have n0_ := Aside0.mk (below_step (by repeat (first | (with_reducible first | exact HB.out | apply below_alloc | apply pw_below_drewN | apply below_drew1) | exact HB.out)) hb); have n1_ := Aside0.mk (hbox); have n2_ := Aside0.mk ((by rw [hg]; exact (below_size (by repeat (first | (with_reducible first | exact HB.out | apply below_alloc | apply pw_below_drewN | apply below_drew1) | exact HB.out))) : w.heap.size ≤ gb180)); have n3_ := Aside0.mk ((by rw [hg]; exact (below_size (by repeat (first | (with_reducible first | exact HB.out | apply below_alloc | apply pw_below_drewN | apply below_drew1) | exact HB.out))) : w.heap.size ≤ gb180)); clear HB; have HB := n0_; have BK180 := n1_; have GW180 := n2_; have GE180 := n3_; clear n0_ n1_ n2_ n3_; clear hb hbox hg))
  go_loopg [9] k (fun kq v9 w' => ∃ (x9_1 : Int), v9 = .int .i64 x9_1 ∧ Aside0 (vinculumlaw12_few.l0 kq l1 l1 (l1.length : Int) x9_1 a0_0 a0_1 a0_2 l0_3 = some r) ∧ Aside0 (kq ≤ k) ∧ Aside0 (w'.heap[gb180]? = some (.cells #[.int .i64 a0_0, .string a0_1, .int .i64 a0_2, (.slice A0_3 l0_3.length c0_3)] 24 (0, 0))) ∧ Aside0 (Below w.heap.size w w'))
  case atStart => exact ⟨(0), (by first | rfl | (simp; done) | (simp [*]; done)), H', ⟨Nat.le_refl _⟩, ⟨by (with_reducible repeat (first | refine blk_drewN ?_ _ | refine blk_drew ?_ | refine blk_alloc ?_ _)); exact BK180.out⟩, ⟨by repeat (first | (with_reducible first | exact HB.out | apply below_alloc | apply pw_below_drewN | apply below_drew1 | refine below_set ?_ GE180.out) | exact HB.out)⟩⟩
  case round =>
    clear H'
    try clear c1
    try clear p2
    obtain ⟨x9_1, rfl, HA, HK1, BK180, HB⟩ := hrel
    cases gk with
    | zero => exact absurd HA.out (by simp [vinculumlaw12_few.l0])
    | succ k1 =>
      have H := HA.out
      clear HA
      simp only [vinculumlaw12_few.l0] at H
      by_cases c4 : x9_1 < (l1.length : Int)
      · rw [if_pos c4] at H
        have c4b0 : decide (x9_1 < (l1.length : Int)) = true := decide_eq_true c4
        clear c4
        by_cases c5 : 0 ≤ x9_1
        · rw [if_pos c5] at H
          have c5b0 : decide (0 ≤ x9_1) = true := decide_eq_true c5
          clear c5
          by_cases c6 : x9_1 < (l1.length : Int)
          · rw [if_pos c6] at H
            have c6b0 : decide (x9_1 < (l1.length : Int)) = true := decide_eq_true c6
            clear c6
            replace H := Option.bind_eq_some_iff.mp H
            obtain ⟨t183, A70, H⟩ := H
            replace H : (if t183 = true then (vinculumlaw12_few.l0 k1 l1 l1 (l1.length : Int) (wrap64 (x9_1 + 1)) a0_0 a0_1 a0_2 l0_3) else (some false)) = some r := H
            have A7 := Aside0.mk A70
            clear A70
            by_cases c8 : t183 = true
            · subst c8
              have H1 : (vinculumlaw12_few.l0 k1 l1 l1 (l1.length : Int) (wrap64 (x9_1 + 1)) a0_0 a0_1 a0_2 l0_3) = some r := by rw [if_pos rfl] at H; exact H
              clear H
              have H := H1
              clear H1
              have H' := Aside0.mk H
              clear H
              have p181 : 0 ≤ (x9_1 : Int) := of_decide_eq_true (by first | (with_reducible assumption) | assumption)
              have q181 : x9_1 < (l1.length : Int) := of_decide_eq_true (by first | (with_reducible assumption) | assumption)
              obtain ⟨ad181, A181_1, c181_1, A181_4, c181_4, e181, hx181_0, hx181_1, hx181_2, hx181_3, hx181_4, hx181_5, hx181_6, hx181_7, hl181_1, hi181_1, hl181_4, hi181_4⟩ := at_T27 HR1.out x9_1 p181 q181
              cases e181
              replace hx181_0 := (HB.out.cell (World.block_lt_of_cell? w _ hx181_0)).trans hx181_0
              replace hx181_1 := (HB.out.cell (World.block_lt_of_cell? w _ hx181_1)).trans hx181_1
              replace hx181_2 := (HB.out.cell (World.block_lt_of_cell? w _ hx181_2)).trans hx181_2
              replace hx181_3 := (HB.out.cell (World.block_lt_of_cell? w _ hx181_3)).trans hx181_3
              replace hx181_4 := (HB.out.cell (World.block_lt_of_cell? w _ hx181_4)).trans hx181_4
              replace hx181_5 := (HB.out.cell (World.block_lt_of_cell? w _ hx181_5)).trans hx181_5
              replace hx181_6 := (HB.out.cell (World.block_lt_of_cell? w _ hx181_6)).trans hx181_6
              replace hx181_7 := (HB.out.cell (World.block_lt_of_cell? w _ hx181_7)).trans hx181_7
              have HR181_1 := Aside0.mk hi181_1
              have HC181_1 := Aside0.mk hl181_1
              clear hi181_1 hl181_1
              have HR181_4 := Aside0.mk hi181_4
              have HC181_4 := Aside0.mk hl181_4
              clear hi181_4 hl181_4
              replace p181 := eq_true p181
              replace q181 := eq_true q181
              go_wp2_with (first | ((with_reducible refine gate_dst (N := 6) rfl ?_); (try (refine gate_guard (by rfl) ?_; dsimp only)); refine box_event ?hg (N := 6) ?hd (cs := #[.int .i64 0, .slice none 0 0, .int .i64 0, .int .i64 0, .slice none 0 0, .int .i64 0, .string (⟨#[]⟩ : ByteArray), .string (⟨#[]⟩ : ByteArray)]) (t := 27) ?hr ?_; (case hd => rfl); (case hg => rfl); (case hr => first | (go_simp; done) | (go_simp; rfl)); intro gb182 hg w9 hbox hb; have n0_ := Aside0.mk (blk_below (g := gb180) (o := .cells #[.int .i64 a0_0, .string a0_1, .int .i64 a0_2, .slice A0_3 l0_3.length c0_3] 24 (0, 0)) (by (with_reducible repeat (first | refine blk_drewN ?_ _ | refine blk_drew ?_ | refine blk_alloc ?_ _)); exact BK180.out) hb); have n1_ := Aside0.mk (below_step (by repeat (first | (with_reducible first | exact HB.out | apply below_alloc | apply pw_below_drewN | apply below_drew1 | refine below_set ?_ GE180.out) | exact HB.out)) hb); have n2_ := Aside0.mk (hbox); have n3_ := Aside0.mk ((by rw [hg]; exact (below_size (by repeat (first | (with_reducible first | exact HB.out | apply below_alloc | apply pw_below_drewN | apply below_drew1 | refine below_set ?_ GE180.out) | exact HB.out))) : w.heap.size ≤ gb182)); have n4_ := Aside0.mk ((by rw [hg]; exact (below_size (by repeat (first | (with_reducible first | exact HB.out | apply below_alloc | apply pw_below_drewN | apply below_drew1 | refine below_set ?_ GE180.out) | exact HB.out))) : w.heap.size ≤ gb182)); have n5_ := Aside0.mk ((by rw [hg]; exact Nat.ne_of_lt (blk_lt (g := gb180) (o := .cells #[.int .i64 a0_0, .string a0_1, .int .i64 a0_2, .slice A0_3 l0_3.length c0_3] 24 (0, 0)) (by (with_reducible repeat (first | refine blk_drewN ?_ _ | refine blk_drew ?_ | refine blk_alloc ?_ _)); exact BK180.out)) : gb180 ≠ gb182)); have n6_ := Aside0.mk ((by rw [hg]; exact Nat.ne_of_gt (blk_lt (g := gb180) (o := .cells #[.int .i64 a0_0, .string a0_1, .int .i64 a0_2, .slice A0_3 l0_3.length c0_3] 24 (0, 0)) (by (with_reducible repeat (first | refine blk_drewN ?_ _ | refine blk_drew ?_ | refine blk_alloc ?_ _)); exact BK180.out)) : gb182 ≠ gb180)); clear BK180; clear HB; have BK180 := n0_; have HB := n1_; have BK182 := n2_; have GW182 := n3_; have GE182 := n4_; have NB180_182 := n5_; have NB182_180 := n6_; clear n0_ n1_ n2_ n3_ n4_ n5_ n6_; clear hb hbox hg; have hnb10 := NB182_180.out; have hnc10 := NB180_182.out; have hcz11_0 : w9.cell? ⟨gb182, 0, none⟩ = some (.int .i64 0) := (blk_cell BK182.out 0).trans rfl; have hcz11_1 : w9.cell? ⟨gb182, 1, none⟩ = some (.slice none 0 0) := (blk_cell BK182.out 1).trans rfl; have hcz11_2 : w9.cell? ⟨gb182, 2, none⟩ = some (.int .i64 0) := (blk_cell BK182.out 2).trans rfl; have hcz11_3 : w9.cell? ⟨gb182, 3, none⟩ = some (.int .i64 0) := (blk_cell BK182.out 3).trans rfl; have hcz11_4 : w9.cell? ⟨gb182, 4, none⟩ = some (.slice none 0 0) := (blk_cell BK182.out 4).trans rfl; have hcz11_5 : w9.cell? ⟨gb182, 5, none⟩ = some (.int .i64 0) := (blk_cell BK182.out 5).trans rfl; have hcz11_6 : w9.cell? ⟨gb182, 6, none⟩ = some (.string (⟨#[]⟩ : ByteArray)) := (blk_cell BK182.out 6).trans rfl; have hcz11_7 : w9.cell? ⟨gb182, 7, none⟩ = some (.string (⟨#[]⟩ : ByteArray)) := (blk_cell BK182.out 7).trans rfl; have hfz11_0 := blk_frozen BK182.out 0; have hfz11_1 := blk_frozen BK182.out 1; have hfz11_2 := blk_frozen BK182.out 2; have hfz11_3 := blk_frozen BK182.out 3; have hfz11_4 := blk_frozen BK182.out 4; have hfz11_5 := blk_frozen BK182.out 5; have hfz11_6 := blk_frozen BK182.out 6; have hfz11_7 := blk_frozen BK182.out 7) | ((with_reducible refine gate_callee (f := 25) rfl ?_); refine goesL_ (some 14) rfl rfl Tryd.func25 (by kernel_rfl) rfl #[.agg #[.int .i64 ((rd_T27 l1 x9_1).f0), .slice A181_1 ((rd_T27 l1 x9_1).f1).length c181_1, .int .i64 ((rd_T27 l1 x9_1).f2), .int .i64 ((rd_T27 l1 x9_1).f3), .slice A181_4 ((rd_T27 l1 x9_1).f4).length c181_4, .int .i64 ((rd_T27 l1 x9_1).f5), .string ((rd_T27 l1 x9_1).f6), .string ((rd_T27 l1 x9_1).f7)]] rfl (by (try simp only [List.map_toArray, List.map_cons, List.map_nil]); first | done | rfl | (simp only [List.length_drop, List.length_take]; rfl)) ?_; (with_reducible refine (vinculumref12_Few.calls k1 ((rd_T27 l1 x9_1).f0) _ _ ((rd_T27 l1 x9_1).f1) ((rd_T27 l1 x9_1).f2) ((rd_T27 l1 x9_1).f3) _ _ ((rd_T27 l1 x9_1).f4) ((rd_T27 l1 x9_1).f5) ((rd_T27 l1 x9_1).f6) ((rd_T27 l1 x9_1).f7) true _ ?side1 ?side2 ?side3 ?side4 A7.out).mono ?_); (case side1 => exact Kd.C_below HR181_1.out (by repeat (first | (with_reducible first | exact HB.out | apply below_alloc | apply pw_below_drewN | apply below_drew1 | refine below_set ?_ GE180.out | refine below_set ?_ GE182.out) | exact HB.out))); (case side2 => exact HC181_1.out); (case side3 => exact Kd.C_below HR181_4.out (by repeat (first | (with_reducible first | exact HB.out | apply below_alloc | apply pw_below_drewN | apply below_drew1 | refine below_set ?_ GE180.out | refine below_set ?_ GE182.out) | exact HB.out))); (case side4 => exact HC181_4.out); rintro e w12 ⟨rfl, hb⟩; refine ⟨_, rfl, ?_⟩; have n0_ := Aside0.mk (blk_below (g := gb180) (o := .cells #[.int .i64 a0_0, .string a0_1, .int .i64 a0_2, .slice A0_3 l0_3.length c0_3] 24 (0, 0)) (by (with_reducible repeat (first | refine blk_drewN ?_ _ | refine blk_drew ?_ | refine blk_alloc ?_ _)); refine blk_far ?_ NB180_182.out _; (with_reducible repeat (first | refine blk_drewN ?_ _ | refine blk_drew ?_ | refine blk_alloc ?_ _)); refine blk_far ?_ NB180_182.out _; (with_reducible repeat (first | refine blk_drewN ?_ _ | refine blk_drew ?_ | refine blk_alloc ?_ _)); refine blk_far ?_ NB180_182.out _; (with_reducible repeat (first | refine blk_drewN ?_ _ | refine blk_drew ?_ | refine blk_alloc ?_ _)); refine blk_far ?_ NB180_182.out _; (with_reducible repeat (first | refine blk_drewN ?_ _ | refine blk_drew ?_ | refine blk_alloc ?_ _)); refine blk_far ?_ NB180_182.out _; (with_reducible repeat (first | refine blk_drewN ?_ _ | refine blk_drew ?_ | refine blk_alloc ?_ _)); refine blk_far ?_ NB180_182.out _; (with_reducible repeat (first | refine blk_drewN ?_ _ | refine blk_drew ?_ | refine blk_alloc ?_ _)); refine blk_far ?_ NB180_182.out _; (with_reducible repeat (first | refine blk_drewN ?_ _ | refine blk_drew ?_ | refine blk_alloc ?_ _)); refine blk_far ?_ NB180_182.out _; (with_reducible repeat (first | refine blk_drewN ?_ _ | refine blk_drew ?_ | refine blk_alloc ?_ _)); exact BK180.out) hb); have n1_ := Aside0.mk (blk_below (g := gb182) (o := .cells #[.int .i64 ((rd_T27 l1 x9_1).f0), .slice A181_1 ((rd_T27 l1 x9_1).f1).length c181_1, .int .i64 ((rd_T27 l1 x9_1).f2), .int .i64 ((rd_T27 l1 x9_1).f3), .slice A181_4 ((rd_T27 l1 x9_1).f4).length c181_4, .int .i64 ((rd_T27 l1 x9_1).f5), .string ((rd_T27 l1 x9_1).f6), .string ((rd_T27 l1 x9_1).f7)] 27 (0, 0)) (by (with_reducible repeat (first | refine blk_drewN ?_ _ | refine blk_drew ?_ | refine blk_alloc ?_ _)); refine blk_put (cs := #[.int .i64 ((rd_T27 l1 x9_1).f0), .slice A181_1 ((rd_T27 l1 x9_1).f1).length c181_1, .int .i64 ((rd_T27 l1 x9_1).f2), .int .i64 ((rd_T27 l1 x9_1).f3), .slice A181_4 ((rd_T27 l1 x9_1).f4).length c181_4, .int .i64 ((rd_T27 l1 x9_1).f5), .string ((rd_T27 l1 x9_1).f6), .string (⟨#[]⟩ : ByteArray)]) ?_ 7 _ rfl; (with_reducible repeat (first | refine blk_drewN ?_ _ | refine blk_drew ?_ | refine blk_alloc ?_ _)); refine blk_put (cs := #[.int .i64 ((rd_T27 l1 x9_1).f0), .slice A181_1 ((rd_T27 l1 x9_1).f1).length c181_1, .int .i64 ((rd_T27 l1 x9_1).f2), .int .i64 ((rd_T27 l1 x9_1).f3), .slice A181_4 ((rd_T27 l1 x9_1).f4).length c181_4, .int .i64 ((rd_T27 l1 x9_1).f5), .string (⟨#[]⟩ : ByteArray), .string (⟨#[]⟩ : ByteArray)]) ?_ 6 _ rfl; (with_reducible repeat (first | refine blk_drewN ?_ _ | refine blk_drew ?_ | refine blk_alloc ?_ _)); refine blk_put (cs := #[.int .i64 ((rd_T27 l1 x9_1).f0), .slice A181_1 ((rd_T27 l1 x9_1).f1).length c181_1, .int .i64 ((rd_T27 l1 x9_1).f2), .int .i64 ((rd_T27 l1 x9_1).f3), .slice A181_4 ((rd_T27 l1 x9_1).f4).length c181_4, .int .i64 0, .string (⟨#[]⟩ : ByteArray), .string (⟨#[]⟩ : ByteArray)]) ?_ 5 _ rfl; (with_reducible repeat (first | refine blk_drewN ?_ _ | refine blk_drew ?_ | refine blk_alloc ?_ _)); refine blk_put (cs := #[.int .i64 ((rd_T27 l1 x9_1).f0), .slice A181_1 ((rd_T27 l1 x9_1).f1).length c181_1, .int .i64 ((rd_T27 l1 x9_1).f2), .int .i64 ((rd_T27 l1 x9_1).f3), .slice none 0 0, .int .i64 0, .string (⟨#[]⟩ : ByteArray), .string (⟨#[]⟩ : ByteArray)]) ?_ 4 _ rfl; (with_reducible repeat (first | refine blk_drewN ?_ _ | refine blk_drew ?_ | refine blk_alloc ?_ _)); refine blk_put (cs := #[.int .i64 ((rd_T27 l1 x9_1).f0), .slice A181_1 ((rd_T27 l1 x9_1).f1).length c181_1, .int .i64 ((rd_T27 l1 x9_1).f2), .int .i64 0, .slice none 0 0, .int .i64 0, .string (⟨#[]⟩ : ByteArray), .string (⟨#[]⟩ : ByteArray)]) ?_ 3 _ rfl; (with_reducible repeat (first | refine blk_drewN ?_ _ | refine blk_drew ?_ | refine blk_alloc ?_ _)); refine blk_put (cs := #[.int .i64 ((rd_T27 l1 x9_1).f0), .slice A181_1 ((rd_T27 l1 x9_1).f1).length c181_1, .int .i64 0, .int .i64 0, .slice none 0 0, .int .i64 0, .string (⟨#[]⟩ : ByteArray), .string (⟨#[]⟩ : ByteArray)]) ?_ 2 _ rfl; (with_reducible repeat (first | refine blk_drewN ?_ _ | refine blk_drew ?_ | refine blk_alloc ?_ _)); refine blk_put (cs := #[.int .i64 ((rd_T27 l1 x9_1).f0), .slice none 0 0, .int .i64 0, .int .i64 0, .slice none 0 0, .int .i64 0, .string (⟨#[]⟩ : ByteArray), .string (⟨#[]⟩ : ByteArray)]) ?_ 1 _ rfl; (with_reducible repeat (first | refine blk_drewN ?_ _ | refine blk_drew ?_ | refine blk_alloc ?_ _)); refine blk_put (cs := #[.int .i64 0, .slice none 0 0, .int .i64 0, .int .i64 0, .slice none 0 0, .int .i64 0, .string (⟨#[]⟩ : ByteArray), .string (⟨#[]⟩ : ByteArray)]) ?_ 0 _ rfl; (with_reducible repeat (first | refine blk_drewN ?_ _ | refine blk_drew ?_ | refine blk_alloc ?_ _)); exact BK182.out) hb); have n2_ := Aside0.mk (below_step (by repeat (first | (with_reducible first | exact HB.out | apply below_alloc | apply pw_below_drewN | apply below_drew1 | refine below_set ?_ GE180.out | refine below_set ?_ GE182.out) | exact HB.out)) hb); clear BK180; clear BK182; clear HB; have BK180 := n0_; have BK182 := n1_; have HB := n2_; clear n0_ n1_ n2_; (try clear hb); (try clear hb2); (try clear hk); (try clear hi)))
              go_roundg k1
              case measure => have := HK1.out; omega
              case rel => exact ⟨(wrap64 (x9_1 + 1)), (by first | rfl | (simp; done) | (simp [*]; done)), H', ⟨by have := HK1.out; omega⟩, ⟨by (with_reducible repeat (first | refine blk_drewN ?_ _ | refine blk_drew ?_ | refine blk_alloc ?_ _)); exact BK180.out⟩, ⟨by repeat (first | (with_reducible first | exact HB.out | apply below_alloc | apply pw_below_drewN | apply below_drew1 | refine below_set ?_ GE180.out | refine below_set ?_ GE182.out) | exact HB.out)⟩⟩
            · replace c8 := Bool.eq_false_iff.mpr c8
              subst c8
              have H1 : (some false) = some r := by rw [if_neg (show ¬ (false = true) by decide)] at H; exact H
              clear H
              have H := H1
              clear H1
              obtain rfl := Option.some.inj H
              have p181 : 0 ≤ (x9_1 : Int) := of_decide_eq_true (by first | (with_reducible assumption) | assumption)
              have q181 : x9_1 < (l1.length : Int) := of_decide_eq_true (by first | (with_reducible assumption) | assumption)
              obtain ⟨ad181, A181_1, c181_1, A181_4, c181_4, e181, hx181_0, hx181_1, hx181_2, hx181_3, hx181_4, hx181_5, hx181_6, hx181_7, hl181_1, hi181_1, hl181_4, hi181_4⟩ := at_T27 HR1.out x9_1 p181 q181
              cases e181
              replace hx181_0 := (HB.out.cell (World.block_lt_of_cell? w _ hx181_0)).trans hx181_0
              replace hx181_1 := (HB.out.cell (World.block_lt_of_cell? w _ hx181_1)).trans hx181_1
              replace hx181_2 := (HB.out.cell (World.block_lt_of_cell? w _ hx181_2)).trans hx181_2
              replace hx181_3 := (HB.out.cell (World.block_lt_of_cell? w _ hx181_3)).trans hx181_3
              replace hx181_4 := (HB.out.cell (World.block_lt_of_cell? w _ hx181_4)).trans hx181_4
              replace hx181_5 := (HB.out.cell (World.block_lt_of_cell? w _ hx181_5)).trans hx181_5
              replace hx181_6 := (HB.out.cell (World.block_lt_of_cell? w _ hx181_6)).trans hx181_6
              replace hx181_7 := (HB.out.cell (World.block_lt_of_cell? w _ hx181_7)).trans hx181_7
              have HR181_1 := Aside0.mk hi181_1
              have HC181_1 := Aside0.mk hl181_1
              clear hi181_1 hl181_1
              have HR181_4 := Aside0.mk hi181_4
              have HC181_4 := Aside0.mk hl181_4
              clear hi181_4 hl181_4
              replace p181 := eq_true p181
              replace q181 := eq_true q181
              go_wp2_with (first | ((with_reducible refine gate_dst (N := 6) rfl ?_); (try (refine gate_guard (by rfl) ?_; dsimp only)); refine box_event ?hg (N := 6) ?hd (cs := #[.int .i64 0, .slice none 0 0, .int .i64 0, .int .i64 0, .slice none 0 0, .int .i64 0, .string (⟨#[]⟩ : ByteArray), .string (⟨#[]⟩ : ByteArray)]) (t := 27) ?hr ?_; (case hd => rfl); (case hg => rfl); (case hr => first | (go_simp; done) | (go_simp; rfl)); intro gb182 hg w13 hbox hb; have n0_ := Aside0.mk (blk_below (g := gb180) (o := .cells #[.int .i64 a0_0, .string a0_1, .int .i64 a0_2, .slice A0_3 l0_3.length c0_3] 24 (0, 0)) (by (with_reducible repeat (first | refine blk_drewN ?_ _ | refine blk_drew ?_ | refine blk_alloc ?_ _)); exact BK180.out) hb); have n1_ := Aside0.mk (below_step (by repeat (first | (with_reducible first | exact HB.out | apply below_alloc | apply pw_below_drewN | apply below_drew1 | refine below_set ?_ GE180.out) | exact HB.out)) hb); have n2_ := Aside0.mk (hbox); have n3_ := Aside0.mk ((by rw [hg]; exact (below_size (by repeat (first | (with_reducible first | exact HB.out | apply below_alloc | apply pw_below_drewN | apply below_drew1 | refine below_set ?_ GE180.out) | exact HB.out))) : w.heap.size ≤ gb182)); have n4_ := Aside0.mk ((by rw [hg]; exact (below_size (by repeat (first | (with_reducible first | exact HB.out | apply below_alloc | apply pw_below_drewN | apply below_drew1 | refine below_set ?_ GE180.out) | exact HB.out))) : w.heap.size ≤ gb182)); have n5_ := Aside0.mk ((by rw [hg]; exact Nat.ne_of_lt (blk_lt (g := gb180) (o := .cells #[.int .i64 a0_0, .string a0_1, .int .i64 a0_2, .slice A0_3 l0_3.length c0_3] 24 (0, 0)) (by (with_reducible repeat (first | refine blk_drewN ?_ _ | refine blk_drew ?_ | refine blk_alloc ?_ _)); exact BK180.out)) : gb180 ≠ gb182)); have n6_ := Aside0.mk ((by rw [hg]; exact Nat.ne_of_gt (blk_lt (g := gb180) (o := .cells #[.int .i64 a0_0, .string a0_1, .int .i64 a0_2, .slice A0_3 l0_3.length c0_3] 24 (0, 0)) (by (with_reducible repeat (first | refine blk_drewN ?_ _ | refine blk_drew ?_ | refine blk_alloc ?_ _)); exact BK180.out)) : gb182 ≠ gb180)); clear BK180; clear HB; have BK180 := n0_; have HB := n1_; have BK182 := n2_; have GW182 := n3_; have GE182 := n4_; have NB180_182 := n5_; have NB182_180 := n6_; clear n0_ n1_ n2_ n3_ n4_ n5_ n6_; clear hb hbox hg; have hnb14 := NB182_180.out; have hnc14 := NB180_182.out; have hcz15_0 : w13.cell? ⟨gb182, 0, none⟩ = some (.int .i64 0) := (blk_cell BK182.out 0).trans rfl; have hcz15_1 : w13.cell? ⟨gb182, 1, none⟩ = some (.slice none 0 0) := (blk_cell BK182.out 1).trans rfl; have hcz15_2 : w13.cell? ⟨gb182, 2, none⟩ = some (.int .i64 0) := (blk_cell BK182.out 2).trans rfl; have hcz15_3 : w13.cell? ⟨gb182, 3, none⟩ = some (.int .i64 0) := (blk_cell BK182.out 3).trans rfl; have hcz15_4 : w13.cell? ⟨gb182, 4, none⟩ = some (.slice none 0 0) := (blk_cell BK182.out 4).trans rfl; have hcz15_5 : w13.cell? ⟨gb182, 5, none⟩ = some (.int .i64 0) := (blk_cell BK182.out 5).trans rfl; have hcz15_6 : w13.cell? ⟨gb182, 6, none⟩ = some (.string (⟨#[]⟩ : ByteArray)) := (blk_cell BK182.out 6).trans rfl; have hcz15_7 : w13.cell? ⟨gb182, 7, none⟩ = some (.string (⟨#[]⟩ : ByteArray)) := (blk_cell BK182.out 7).trans rfl; have hfz15_0 := blk_frozen BK182.out 0; have hfz15_1 := blk_frozen BK182.out 1; have hfz15_2 := blk_frozen BK182.out 2; have hfz15_3 := blk_frozen BK182.out 3; have hfz15_4 := blk_frozen BK182.out 4; have hfz15_5 := blk_frozen BK182.out 5; have hfz15_6 := blk_frozen BK182.out 6; have hfz15_7 := blk_frozen BK182.out 7) | ((with_reducible refine gate_callee (f := 25) rfl ?_); refine goesL_ (some 14) rfl rfl Tryd.func25 (by kernel_rfl) rfl #[.agg #[.int .i64 ((rd_T27 l1 x9_1).f0), .slice A181_1 ((rd_T27 l1 x9_1).f1).length c181_1, .int .i64 ((rd_T27 l1 x9_1).f2), .int .i64 ((rd_T27 l1 x9_1).f3), .slice A181_4 ((rd_T27 l1 x9_1).f4).length c181_4, .int .i64 ((rd_T27 l1 x9_1).f5), .string ((rd_T27 l1 x9_1).f6), .string ((rd_T27 l1 x9_1).f7)]] rfl (by (try simp only [List.map_toArray, List.map_cons, List.map_nil]); first | done | rfl | (simp only [List.length_drop, List.length_take]; rfl)) ?_; (with_reducible refine (vinculumref12_Few.calls k1 ((rd_T27 l1 x9_1).f0) _ _ ((rd_T27 l1 x9_1).f1) ((rd_T27 l1 x9_1).f2) ((rd_T27 l1 x9_1).f3) _ _ ((rd_T27 l1 x9_1).f4) ((rd_T27 l1 x9_1).f5) ((rd_T27 l1 x9_1).f6) ((rd_T27 l1 x9_1).f7) false _ ?side1 ?side2 ?side3 ?side4 A7.out).mono ?_); (case side1 => exact Kd.C_below HR181_1.out (by repeat (first | (with_reducible first | exact HB.out | apply below_alloc | apply pw_below_drewN | apply below_drew1 | refine below_set ?_ GE180.out | refine below_set ?_ GE182.out) | exact HB.out))); (case side2 => exact HC181_1.out); (case side3 => exact Kd.C_below HR181_4.out (by repeat (first | (with_reducible first | exact HB.out | apply below_alloc | apply pw_below_drewN | apply below_drew1 | refine below_set ?_ GE180.out | refine below_set ?_ GE182.out) | exact HB.out))); (case side4 => exact HC181_4.out); rintro e w16 ⟨rfl, hb⟩; refine ⟨_, rfl, ?_⟩; have n0_ := Aside0.mk (blk_below (g := gb180) (o := .cells #[.int .i64 a0_0, .string a0_1, .int .i64 a0_2, .slice A0_3 l0_3.length c0_3] 24 (0, 0)) (by (with_reducible repeat (first | refine blk_drewN ?_ _ | refine blk_drew ?_ | refine blk_alloc ?_ _)); refine blk_far ?_ NB180_182.out _; (with_reducible repeat (first | refine blk_drewN ?_ _ | refine blk_drew ?_ | refine blk_alloc ?_ _)); refine blk_far ?_ NB180_182.out _; (with_reducible repeat (first | refine blk_drewN ?_ _ | refine blk_drew ?_ | refine blk_alloc ?_ _)); refine blk_far ?_ NB180_182.out _; (with_reducible repeat (first | refine blk_drewN ?_ _ | refine blk_drew ?_ | refine blk_alloc ?_ _)); refine blk_far ?_ NB180_182.out _; (with_reducible repeat (first | refine blk_drewN ?_ _ | refine blk_drew ?_ | refine blk_alloc ?_ _)); refine blk_far ?_ NB180_182.out _; (with_reducible repeat (first | refine blk_drewN ?_ _ | refine blk_drew ?_ | refine blk_alloc ?_ _)); refine blk_far ?_ NB180_182.out _; (with_reducible repeat (first | refine blk_drewN ?_ _ | refine blk_drew ?_ | refine blk_alloc ?_ _)); refine blk_far ?_ NB180_182.out _; (with_reducible repeat (first | refine blk_drewN ?_ _ | refine blk_drew ?_ | refine blk_alloc ?_ _)); refine blk_far ?_ NB180_182.out _; (with_reducible repeat (first | refine blk_drewN ?_ _ | refine blk_drew ?_ | refine blk_alloc ?_ _)); exact BK180.out) hb); have n1_ := Aside0.mk (blk_below (g := gb182) (o := .cells #[.int .i64 ((rd_T27 l1 x9_1).f0), .slice A181_1 ((rd_T27 l1 x9_1).f1).length c181_1, .int .i64 ((rd_T27 l1 x9_1).f2), .int .i64 ((rd_T27 l1 x9_1).f3), .slice A181_4 ((rd_T27 l1 x9_1).f4).length c181_4, .int .i64 ((rd_T27 l1 x9_1).f5), .string ((rd_T27 l1 x9_1).f6), .string ((rd_T27 l1 x9_1).f7)] 27 (0, 0)) (by (with_reducible repeat (first | refine blk_drewN ?_ _ | refine blk_drew ?_ | refine blk_alloc ?_ _)); refine blk_put (cs := #[.int .i64 ((rd_T27 l1 x9_1).f0), .slice A181_1 ((rd_T27 l1 x9_1).f1).length c181_1, .int .i64 ((rd_T27 l1 x9_1).f2), .int .i64 ((rd_T27 l1 x9_1).f3), .slice A181_4 ((rd_T27 l1 x9_1).f4).length c181_4, .int .i64 ((rd_T27 l1 x9_1).f5), .string ((rd_T27 l1 x9_1).f6), .string (⟨#[]⟩ : ByteArray)]) ?_ 7 _ rfl; (with_reducible repeat (first | refine blk_drewN ?_ _ | refine blk_drew ?_ | refine blk_alloc ?_ _)); refine blk_put (cs := #[.int .i64 ((rd_T27 l1 x9_1).f0), .slice A181_1 ((rd_T27 l1 x9_1).f1).length c181_1, .int .i64 ((rd_T27 l1 x9_1).f2), .int .i64 ((rd_T27 l1 x9_1).f3), .slice A181_4 ((rd_T27 l1 x9_1).f4).length c181_4, .int .i64 ((rd_T27 l1 x9_1).f5), .string (⟨#[]⟩ : ByteArray), .string (⟨#[]⟩ : ByteArray)]) ?_ 6 _ rfl; (with_reducible repeat (first | refine blk_drewN ?_ _ | refine blk_drew ?_ | refine blk_alloc ?_ _)); refine blk_put (cs := #[.int .i64 ((rd_T27 l1 x9_1).f0), .slice A181_1 ((rd_T27 l1 x9_1).f1).length c181_1, .int .i64 ((rd_T27 l1 x9_1).f2), .int .i64 ((rd_T27 l1 x9_1).f3), .slice A181_4 ((rd_T27 l1 x9_1).f4).length c181_4, .int .i64 0, .string (⟨#[]⟩ : ByteArray), .string (⟨#[]⟩ : ByteArray)]) ?_ 5 _ rfl; (with_reducible repeat (first | refine blk_drewN ?_ _ | refine blk_drew ?_ | refine blk_alloc ?_ _)); refine blk_put (cs := #[.int .i64 ((rd_T27 l1 x9_1).f0), .slice A181_1 ((rd_T27 l1 x9_1).f1).length c181_1, .int .i64 ((rd_T27 l1 x9_1).f2), .int .i64 ((rd_T27 l1 x9_1).f3), .slice none 0 0, .int .i64 0, .string (⟨#[]⟩ : ByteArray), .string (⟨#[]⟩ : ByteArray)]) ?_ 4 _ rfl; (with_reducible repeat (first | refine blk_drewN ?_ _ | refine blk_drew ?_ | refine blk_alloc ?_ _)); refine blk_put (cs := #[.int .i64 ((rd_T27 l1 x9_1).f0), .slice A181_1 ((rd_T27 l1 x9_1).f1).length c181_1, .int .i64 ((rd_T27 l1 x9_1).f2), .int .i64 0, .slice none 0 0, .int .i64 0, .string (⟨#[]⟩ : ByteArray), .string (⟨#[]⟩ : ByteArray)]) ?_ 3 _ rfl; (with_reducible repeat (first | refine blk_drewN ?_ _ | refine blk_drew ?_ | refine blk_alloc ?_ _)); refine blk_put (cs := #[.int .i64 ((rd_T27 l1 x9_1).f0), .slice A181_1 ((rd_T27 l1 x9_1).f1).length c181_1, .int .i64 0, .int .i64 0, .slice none 0 0, .int .i64 0, .string (⟨#[]⟩ : ByteArray), .string (⟨#[]⟩ : ByteArray)]) ?_ 2 _ rfl; (with_reducible repeat (first | refine blk_drewN ?_ _ | refine blk_drew ?_ | refine blk_alloc ?_ _)); refine blk_put (cs := #[.int .i64 ((rd_T27 l1 x9_1).f0), .slice none 0 0, .int .i64 0, .int .i64 0, .slice none 0 0, .int .i64 0, .string (⟨#[]⟩ : ByteArray), .string (⟨#[]⟩ : ByteArray)]) ?_ 1 _ rfl; (with_reducible repeat (first | refine blk_drewN ?_ _ | refine blk_drew ?_ | refine blk_alloc ?_ _)); refine blk_put (cs := #[.int .i64 0, .slice none 0 0, .int .i64 0, .int .i64 0, .slice none 0 0, .int .i64 0, .string (⟨#[]⟩ : ByteArray), .string (⟨#[]⟩ : ByteArray)]) ?_ 0 _ rfl; (with_reducible repeat (first | refine blk_drewN ?_ _ | refine blk_drew ?_ | refine blk_alloc ?_ _)); exact BK182.out) hb); have n2_ := Aside0.mk (below_step (by repeat (first | (with_reducible first | exact HB.out | apply below_alloc | apply pw_below_drewN | apply below_drew1 | refine below_set ?_ GE180.out | refine below_set ?_ GE182.out) | exact HB.out)) hb); clear BK180; clear BK182; clear HB; have BK180 := n0_; have BK182 := n1_; have HB := n2_; clear n0_ n1_ n2_; (try clear hb); (try clear hb2); (try clear hk); (try clear hi)))
              go_ret
              exact ⟨by first | rfl | (simp [errW_none, errW_some] <;> rfl) | (simp [*, errW_none, errW_some] <;> rfl), by repeat (first | (with_reducible first | exact HB.out | apply below_alloc | apply pw_below_drewN | apply below_drew1 | refine below_set ?_ GE180.out | refine below_set ?_ GE182.out) | exact HB.out)⟩
          · rw [if_neg c6] at H
            exact absurd H (by simp)
        · rw [if_neg c5] at H
          exact absurd H (by simp)
      · rw [if_neg c4] at H
        have c4b0 : decide (x9_1 < (l1.length : Int)) = false := decide_eq_false c4
        clear c4
        replace H := Option.bind_eq_some_iff.mp H
        obtain ⟨t184, A170, H⟩ := H
        replace H : (if t184 = true then (some (decide ((l1.length : Int) ≤ 12))) else (some false)) = some r := H
        have A17 := Aside0.mk A170
        clear A170
        by_cases c18 : t184 = true
        · subst c18
          have H1 : (some (decide ((l1.length : Int) ≤ 12))) = some r := by rw [if_pos rfl] at H; exact H
          clear H
          have H := H1
          clear H1
          obtain rfl := Option.some.inj H
          have hcz19_0 : wr.cell? ⟨gb180, 0, none⟩ = some (.int .i64 a0_0) := (blk_cell BK180.out 0).trans rfl
          have hcz19_1 : wr.cell? ⟨gb180, 1, none⟩ = some (.string a0_1) := (blk_cell BK180.out 1).trans rfl
          have hcz19_2 : wr.cell? ⟨gb180, 2, none⟩ = some (.int .i64 a0_2) := (blk_cell BK180.out 2).trans rfl
          have hcz19_3 : wr.cell? ⟨gb180, 3, none⟩ = some (.slice A0_3 l0_3.length c0_3) := (blk_cell BK180.out 3).trans rfl
          have hfz19_0 := blk_frozen BK180.out 0
          have hfz19_1 := blk_frozen BK180.out 1
          have hfz19_2 := blk_frozen BK180.out 2
          have hfz19_3 := blk_frozen BK180.out 3
          go_wp2_with (first | ((with_reducible refine gate_callee (f := 26) rfl ?_); refine goesL_ (some 18) rfl rfl Tryd.func26 (by kernel_rfl) rfl #[.agg #[.int .i64 a0_0, .string a0_1, .int .i64 a0_2, .slice A0_3 l0_3.length c0_3], .int .i64 300] rfl (by (try simp only [List.map_toArray, List.map_cons, List.map_nil]); first | done | rfl | (simp only [List.length_drop, List.length_take]; rfl)) ?_; (with_reducible refine (vinculumref09_Few.calls k1 a0_0 a0_1 a0_2 _ _ l0_3 300 true _ ?side1 ?side2 A17.out).mono ?_); (case side1 => repeat (first | exact (Kd.C_below HR0_3.out HB.out) | (with_reducible refine Kd.C_alloc ?_ _) | (with_reducible refine Kd.C_drewN ?_ _) | (with_reducible refine Kd.C_drew ?_))); (case side2 => exact HC0_3.out); rintro e w20 ⟨rfl, hb⟩; refine ⟨_, rfl, ?_⟩; have n0_ := Aside0.mk (blk_below (g := gb180) (o := .cells #[.int .i64 a0_0, .string a0_1, .int .i64 a0_2, .slice A0_3 l0_3.length c0_3] 24 (0, 0)) (by (with_reducible repeat (first | refine blk_drewN ?_ _ | refine blk_drew ?_ | refine blk_alloc ?_ _)); exact BK180.out) hb); have n1_ := Aside0.mk (below_step (by repeat (first | (with_reducible first | exact HB.out | apply below_alloc | apply pw_below_drewN | apply below_drew1 | refine below_set ?_ GE180.out) | exact HB.out)) hb); clear BK180; clear HB; have BK180 := n0_; have HB := n1_; clear n0_ n1_; (try clear hb); (try clear hb2); (try clear hk); (try clear hi)))
          go_ret
          exact ⟨by first | rfl | (simp [errW_none, errW_some] <;> rfl) | (simp [*, errW_none, errW_some] <;> rfl), by repeat (first | (with_reducible first | exact HB.out | apply below_alloc | apply pw_below_drewN | apply below_drew1 | refine below_set ?_ GE180.out) | exact HB.out)⟩
        · replace c18 := Bool.eq_false_iff.mpr c18
          subst c18
          have H1 : (some false) = some r := by rw [if_neg (show ¬ (false = true) by decide)] at H; exact H
          clear H
          have H := H1
          clear H1
          obtain rfl := Option.some.inj H
          have hcz21_0 : wr.cell? ⟨gb180, 0, none⟩ = some (.int .i64 a0_0) := (blk_cell BK180.out 0).trans rfl
          have hcz21_1 : wr.cell? ⟨gb180, 1, none⟩ = some (.string a0_1) := (blk_cell BK180.out 1).trans rfl
          have hcz21_2 : wr.cell? ⟨gb180, 2, none⟩ = some (.int .i64 a0_2) := (blk_cell BK180.out 2).trans rfl
          have hcz21_3 : wr.cell? ⟨gb180, 3, none⟩ = some (.slice A0_3 l0_3.length c0_3) := (blk_cell BK180.out 3).trans rfl
          have hfz21_0 := blk_frozen BK180.out 0
          have hfz21_1 := blk_frozen BK180.out 1
          have hfz21_2 := blk_frozen BK180.out 2
          have hfz21_3 := blk_frozen BK180.out 3
          go_wp2_with (first | ((with_reducible refine gate_callee (f := 26) rfl ?_); refine goesL_ (some 18) rfl rfl Tryd.func26 (by kernel_rfl) rfl #[.agg #[.int .i64 a0_0, .string a0_1, .int .i64 a0_2, .slice A0_3 l0_3.length c0_3], .int .i64 300] rfl (by (try simp only [List.map_toArray, List.map_cons, List.map_nil]); first | done | rfl | (simp only [List.length_drop, List.length_take]; rfl)) ?_; (with_reducible refine (vinculumref09_Few.calls k1 a0_0 a0_1 a0_2 _ _ l0_3 300 false _ ?side1 ?side2 A17.out).mono ?_); (case side1 => repeat (first | exact (Kd.C_below HR0_3.out HB.out) | (with_reducible refine Kd.C_alloc ?_ _) | (with_reducible refine Kd.C_drewN ?_ _) | (with_reducible refine Kd.C_drew ?_))); (case side2 => exact HC0_3.out); rintro e w22 ⟨rfl, hb⟩; refine ⟨_, rfl, ?_⟩; have n0_ := Aside0.mk (blk_below (g := gb180) (o := .cells #[.int .i64 a0_0, .string a0_1, .int .i64 a0_2, .slice A0_3 l0_3.length c0_3] 24 (0, 0)) (by (with_reducible repeat (first | refine blk_drewN ?_ _ | refine blk_drew ?_ | refine blk_alloc ?_ _)); exact BK180.out) hb); have n1_ := Aside0.mk (below_step (by repeat (first | (with_reducible first | exact HB.out | apply below_alloc | apply pw_below_drewN | apply below_drew1 | refine below_set ?_ GE180.out) | exact HB.out)) hb); clear BK180; clear HB; have BK180 := n0_; have HB := n1_; clear n0_ n1_; (try clear hb); (try clear hb2); (try clear hk); (try clear hi)))
          go_ret
          exact ⟨by first | rfl | (simp [errW_none, errW_some] <;> rfl) | (simp [*, errW_none, errW_some] <;> rfl), by repeat (first | (with_reducible first | exact HB.out | apply below_alloc | apply pw_below_drewN | apply below_drew1 | refine below_set ?_ GE180.out) | exact HB.out)⟩
end Go.Proofs.YtgcpfelccfnnbaaDoor.X
namespace Go.Proofs.YtgcpfelccfnnbaaDoor.X
open Go.RowKit Go.Proofs.YtgcpfelccfnnbaaDoorW.PrintWords Go.Proofs.YtgcpfelccfnnbaaDoorW.PrintLast Go.Proofs.YtgcpfelccfnnbaaDoorW.PrintMore
attribute [local go_sem] max2_int min2_int max_two min_two max_three min_three max_four min_four   -- for this text's walks alone
set_option linter.unusedVariables false
set_option linter.unusedSimpArgs false
mutual
def vinculumref09_Count.l0 : Nat → Int → Int → Int → ByteArray → Int → List (S24) → Option (Int)
  | 0, _, _, _, _, _, _ => none
  | k + 1, x3, x4, x186000, x186001, x186002, x186003 => if x4 < (x186003.length : Int) then (if 0 ≤ x4 then ((vinculumref09_Count.f k ((rd_T24 x186003 x4).f0) ((rd_T24 x186003 x4).f1) ((rd_T24 x186003 x4).f2) ((rd_T24 x186003 x4).f3)).bind fun t187 => (vinculumref09_Count.l0 k (wrap64 (x3 + t187)) (wrap64 (x4 + 1)) x186000 x186001 x186002 x186003)) else (none)) else (some x3)
def vinculumref09_Count.f : Nat → Int → ByteArray → Int → List (S24) → Option (Int)
  | 0, _, _, _, _ => none
  | k + 1, a0_0, a0_1, a0_2, l0_3 => vinculumref09_Count.l0 k 1 0 a0_0 a0_1 a0_2 l0_3
end
theorem vinculumref09_Count.mono_l : ∀ k, (∀ y0 y1 y2 y3, LeO (vinculumref09_Count.f k y0 y1 y2 y3) (vinculumref09_Count.f (k + 1) y0 y1 y2 y3)) ∧ (∀ y0 y1 y2 y3 y4 y5, LeO (vinculumref09_Count.l0 k y0 y1 y2 y3 y4 y5) (vinculumref09_Count.l0 (k + 1) y0 y1 y2 y3 y4 y5))
  | 0 => ⟨fun _ _ _ _ r h => by simp [vinculumref09_Count.f] at h, fun _ _ _ _ _ _ r h => by simp [vinculumref09_Count.l0] at h⟩
  | k + 1 => by
    obtain ⟨ih0, ih1⟩ := vinculumref09_Count.mono_l k
    refine ⟨?_, ?_⟩
    · intro y0 y1 y2 y3
      unfold vinculumref09_Count.f
      repeat' first
      | (with_reducible exact ih0 _ _ _ _)
      | (with_reducible exact ih1 _ _ _ _ _ _)
      | (with_reducible exact LeO.refl _)
      | (with_reducible exact LeO.none _)
      | (with_reducible refine LeO.ite ?_ ?_)
      | (with_reducible refine LeO.bind ?_ (fun _ => ?_))
      | exact ih0 _ _ _ _
      | exact ih1 _ _ _ _ _ _
      | exact LeO.none _
      | refine LeO.ite ?_ ?_
      | refine LeO.bind ?_ (fun _ => ?_)
    · intro y0 y1 y2 y3 y4 y5
      unfold vinculumref09_Count.l0
      repeat' first
      | (with_reducible exact ih0 _ _ _ _)
      | (with_reducible exact ih1 _ _ _ _ _ _)
      | (with_reducible exact LeO.refl _)
      | (with_reducible exact LeO.none _)
      | (with_reducible refine LeO.ite ?_ ?_)
      | (with_reducible refine LeO.bind ?_ (fun _ => ?_))
      | exact ih0 _ _ _ _
      | exact ih1 _ _ _ _ _ _
      | exact LeO.none _
      | refine LeO.ite ?_ ?_
      | refine LeO.bind ?_ (fun _ => ?_)
theorem vinculumref09_Count.mono : ∀ a0 a1 a2 a3 k, LeO (vinculumref09_Count.f k a0 a1 a2 a3) (vinculumref09_Count.f (k + 1) a0 a1 a2 a3) := by
  intro a0 a1 a2 a3 k
  obtain ⟨ih0, ih1⟩ := vinculumref09_Count.mono_l k
  exact ih0 a0 a1 a2 a3
set_option maxHeartbeats 8000000 in
set_option maxRecDepth 100000 in
theorem vinculumref09_Count.calls (k : Nat) : ∀ (a0_0 : Int) (a0_1 : ByteArray) (a0_2 : Int) (A0_3 : Option Addr) (c0_3 : Nat) (l0_3 : List (S24)) (r : Int) (w : World) (hr0_3 : Kd.C k24 w A0_3 l0_3.length l0_3) (hc0_3 : l0_3.length ≤ c0_3) (h : vinculumref09_Count.f k a0_0 a0_1 a0_2 l0_3 = some r),
    Calls Tryd.prog 12 #[.agg #[.int .i64 a0_0, .string a0_1, .int .i64 a0_2, .slice A0_3 l0_3.length c0_3]] w fun e w' => e = .returned (.int .i64 r) ∧ Below w.heap.size w w' := by
  induction k using Nat.strongRecOn with
  | _ k ih =>
  intro a0_0 a0_1 a0_2 A0_3 c0_3 l0_3 r w hr0_3 hc0_3 h
  cases k with
  | zero => exact absurd h (by simp [vinculumref09_Count.f])
  | succ k =>
  simp only [vinculumref09_Count.f] at h
  have hu24 := Tryd.underlying24
  have HR0_3 := Aside0.mk hr0_3
  have HC0_3 := Aside0.mk hc0_3
  clear hr0_3 hc0_3
  have HB := Aside0.mk (Below.refl w.heap.size w)
  have H : (vinculumref09_Count.l0 k 1 0 a0_0 a0_1 a0_2 l0_3) = some r := h
  clear h
  have H' := Aside0.mk H
  clear H
  go_enter Tryd.func12, Tryd.ntmps12
  go_wp2_with (first | ((with_reducible refine gate_dst (N := 1) rfl ?_); refine box_event ?hg (N := 1) ?hd (cs := #[.int .i64 a0_0, .string a0_1, .int .i64 a0_2, .slice A0_3 l0_3.length c0_3]) (t := 24) ?hr ?_; (case hd => rfl); (case hg => rfl); (case hr => first | (go_simp; done) | (go_simp; rfl)); intro gb185 hg w2 hbox hb; have n0_ := Aside0.mk (below_step (by repeat (first | (with_reducible first | exact HB.out | apply below_alloc | apply pw_below_drewN | apply below_drew1) | exact HB.out)) hb); have n1_ := Aside0.mk (hbox); have n2_ := Aside0.mk ((by rw [hg]; exact (below_size (by repeat (first | (with_reducible first | exact HB.out | apply below_alloc | apply pw_below_drewN | apply below_drew1) | exact HB.out))) : w.heap.size ≤ gb185)); have n3_ := Aside0.mk ((by rw [hg]; exact (below_size (by repeat (first | (with_reducible first | exact HB.out | apply below_alloc | apply pw_below_drewN | apply below_drew1) | exact HB.out))) : w.heap.size ≤ gb185)); clear HB; have HB := n0_; have BK185 := n1_; have GW185 := n2_; have GE185 := n3_; clear n0_ n1_ n2_ n3_; clear hb hbox hg))
  go_loopg [3, 4] k (fun kq v3 v4 w' => ∃ (x3_1 : Int) (x4_1 : Int), v3 = .int .i64 x3_1 ∧ v4 = .int .i64 x4_1 ∧ Aside0 (vinculumref09_Count.l0 kq x3_1 x4_1 a0_0 a0_1 a0_2 l0_3 = some r) ∧ Aside0 (kq ≤ k) ∧ Aside0 (w'.heap[gb185]? = some (.cells #[.int .i64 a0_0, .string a0_1, .int .i64 a0_2, (.slice A0_3 l0_3.length c0_3)] 24 (0, 0))) ∧ Aside0 (Below w.heap.size w w'))
  case atStart => exact ⟨(1), (0), (by first | rfl | (simp; done) | (simp [*]; done)), (by first | rfl | (simp; done) | (simp [*]; done)), H', ⟨Nat.le_refl _⟩, ⟨by (with_reducible repeat (first | refine blk_drewN ?_ _ | refine blk_drew ?_ | refine blk_alloc ?_ _)); exact BK185.out⟩, ⟨by repeat (first | (with_reducible first | exact HB.out | apply below_alloc | apply pw_below_drewN | apply below_drew1 | refine below_set ?_ GE185.out) | exact HB.out)⟩⟩
  case round =>
    clear H'
    try clear c1
    try clear p2
    obtain ⟨x3_1, x4_1, rfl, rfl, HA, HK1, BK185, HB⟩ := hrel
    cases gk with
    | zero => exact absurd HA.out (by simp [vinculumref09_Count.l0])
    | succ k1 =>
      have H := HA.out
      clear HA
      simp only [vinculumref09_Count.l0] at H
      by_cases c3 : x4_1 < (l0_3.length : Int)
      · rw [if_pos c3] at H
        have c3b0 : decide (x4_1 < (l0_3.length : Int)) = true := decide_eq_true c3
        clear c3
        by_cases c4 : 0 ≤ x4_1
        · rw [if_pos c4] at H
          have c4b0 : decide (0 ≤ x4_1) = true := decide_eq_true c4
          clear c4
          replace H := Option.bind_eq_some_iff.mp H
          obtain ⟨t187, A50, H⟩ := H
          replace H : (vinculumref09_Count.l0 k1 (wrap64 (x3_1 + t187)) (wrap64 (x4_1 + 1)) a0_0 a0_1 a0_2 l0_3) = some r := H
          have A5 := Aside0.mk A50
          clear A50
          have H' := Aside0.mk H
          clear H
          have hcz6_0 : wr.cell? ⟨gb185, 0, none⟩ = some (.int .i64 a0_0) := (blk_cell BK185.out 0).trans rfl
          have hcz6_1 : wr.cell? ⟨gb185, 1, none⟩ = some (.string a0_1) := (blk_cell BK185.out 1).trans rfl
          have hcz6_2 : wr.cell? ⟨gb185, 2, none⟩ = some (.int .i64 a0_2) := (blk_cell BK185.out 2).trans rfl
          have hcz6_3 : wr.cell? ⟨gb185, 3, none⟩ = some (.slice A0_3 l0_3.length c0_3) := (blk_cell BK185.out 3).trans rfl
          have hfz6_0 := blk_frozen BK185.out 0
          have hfz6_1 := blk_frozen BK185.out 1
          have hfz6_2 := blk_frozen BK185.out 2
          have hfz6_3 := blk_frozen BK185.out 3
          have p186 : 0 ≤ (x4_1 : Int) := of_decide_eq_true (by first | (with_reducible assumption) | assumption)
          have q186 : x4_1 < (l0_3.length : Int) := of_decide_eq_true (by first | (with_reducible assumption) | assumption)
          obtain ⟨ad186, A186_3, c186_3, e186, hx186_0, hx186_1, hx186_2, hx186_3, hl186_3, hi186_3⟩ := at_T24 HR0_3.out x4_1 p186 q186
          cases e186
          replace hx186_0 := (HB.out.cell (World.block_lt_of_cell? w _ hx186_0)).trans hx186_0
          replace hx186_1 := (HB.out.cell (World.block_lt_of_cell? w _ hx186_1)).trans hx186_1
          replace hx186_2 := (HB.out.cell (World.block_lt_of_cell? w _ hx186_2)).trans hx186_2
          replace hx186_3 := (HB.out.cell (World.block_lt_of_cell? w _ hx186_3)).trans hx186_3
          have HR186_3 := Aside0.mk hi186_3
          have HC186_3 := Aside0.mk hl186_3
          clear hi186_3 hl186_3
          replace p186 := eq_true p186
          replace q186 := eq_true q186
          go_wp2_with (first | ((with_reducible refine gate_callee (f := 12) rfl ?_); refine goesL_ (some 18) rfl rfl Tryd.func12 (by kernel_rfl) rfl #[.agg #[.int .i64 ((rd_T24 l0_3 x4_1).f0), .string ((rd_T24 l0_3 x4_1).f1), .int .i64 ((rd_T24 l0_3 x4_1).f2), .slice A186_3 ((rd_T24 l0_3 x4_1).f3).length c186_3]] rfl (by (try simp only [List.map_toArray, List.map_cons, List.map_nil]); first | done | rfl | (simp only [List.length_drop, List.length_take]; rfl)) ?_; (with_reducible refine (ih k1 (by have := HK1.out; omega) ((rd_T24 l0_3 x4_1).f0) ((rd_T24 l0_3 x4_1).f1) ((rd_T24 l0_3 x4_1).f2) _ _ ((rd_T24 l0_3 x4_1).f3) t187 _ ?side1 ?side2 A5.out).mono ?_); (case side1 => repeat (first | exact (Kd.C_below HR186_3.out HB.out) | (with_reducible refine Kd.C_alloc ?_ _) | (with_reducible refine Kd.C_drewN ?_ _) | (with_reducible refine Kd.C_drew ?_))); (case side2 => exact HC186_3.out); rintro e w7 ⟨rfl, hb⟩; refine ⟨_, rfl, ?_⟩; have n0_ := Aside0.mk (blk_below (g := gb185) (o := .cells #[.int .i64 a0_0, .string a0_1, .int .i64 a0_2, .slice (some ad186) l0_3.length c0_3] 24 (0, 0)) (by (with_reducible repeat (first | refine blk_drewN ?_ _ | refine blk_drew ?_ | refine blk_alloc ?_ _)); exact BK185.out) hb); have n1_ := Aside0.mk (below_step (by repeat (first | (with_reducible first | exact HB.out | apply below_alloc | apply pw_below_drewN | apply below_drew1 | refine below_set ?_ GE185.out) | exact HB.out)) hb); clear BK185; clear HB; have BK185 := n0_; have HB := n1_; clear n0_ n1_; (try clear hb); (try clear hb2); (try clear hk); (try clear hi)))
          go_roundg k1
          case measure => have := HK1.out; omega
          case rel => exact ⟨(wrap64 (x3_1 + t187)), (wrap64 (x4_1 + 1)), (by first | rfl | (simp; done) | (simp [*]; done)), (by first | rfl | (simp; done) | (simp [*]; done)), H', ⟨by have := HK1.out; omega⟩, ⟨by (with_reducible repeat (first | refine blk_drewN ?_ _ | refine blk_drew ?_ | refine blk_alloc ?_ _)); exact BK185.out⟩, ⟨by repeat (first | (with_reducible first | exact HB.out | apply below_alloc | apply pw_below_drewN | apply below_drew1 | refine below_set ?_ GE185.out) | exact HB.out)⟩⟩
        · rw [if_neg c4] at H
          exact absurd H (by simp)
      · rw [if_neg c3] at H
        have c3b0 : decide (x4_1 < (l0_3.length : Int)) = false := decide_eq_false c3
        clear c3
        obtain rfl := Option.some.inj H
        have hcz8_0 : wr.cell? ⟨gb185, 0, none⟩ = some (.int .i64 a0_0) := (blk_cell BK185.out 0).trans rfl
        have hcz8_1 : wr.cell? ⟨gb185, 1, none⟩ = some (.string a0_1) := (blk_cell BK185.out 1).trans rfl
        have hcz8_2 : wr.cell? ⟨gb185, 2, none⟩ = some (.int .i64 a0_2) := (blk_cell BK185.out 2).trans rfl
        have hcz8_3 : wr.cell? ⟨gb185, 3, none⟩ = some (.slice A0_3 l0_3.length c0_3) := (blk_cell BK185.out 3).trans rfl
        have hfz8_0 := blk_frozen BK185.out 0
        have hfz8_1 := blk_frozen BK185.out 1
        have hfz8_2 := blk_frozen BK185.out 2
        have hfz8_3 := blk_frozen BK185.out 3
        go_wp2
        go_ret
        exact ⟨by first | rfl | (simp [errW_none, errW_some] <;> rfl) | (simp [*, errW_none, errW_some] <;> rfl), by repeat (first | (with_reducible first | exact HB.out | apply below_alloc | apply pw_below_drewN | apply below_drew1 | refine below_set ?_ GE185.out) | exact HB.out)⟩
end Go.Proofs.YtgcpfelccfnnbaaDoor.X
namespace Go.Proofs.YtgcpfelccfnnbaaDoor
namespace X
open Go.RowKit Go.Proofs.YtgcpfelccfnnbaaDoorW.PrintWords Go.Proofs.YtgcpfelccfnnbaaDoorW.PrintLast Go.Proofs.YtgcpfelccfnnbaaDoorW.PrintMore
set_option linter.unusedVariables false
set_option linter.unusedSimpArgs false
theorem wrap_id {a : Int} (h0 : -9223372036854775808 ≤ a) (h1 : a ≤ 9223372036854775807) : wrap64 a = a := by unfold wrap64; omega
theorem rd_nth (l : List S24) (j : Nat) : rd_T24 l (j : Int) = nth l j := by unfold rd_T24 nth; rw [Int.toNat_natCast]
theorem cntL_drop {l : List S24} {j : Nat} (h : j < l.length) : cntL (l.drop j) = cnt (nth l j) + cntL (l.drop (j + 1)) := by rw [drop_nth h, cntL]
theorem left_abs (cn : S24 → Nat) (tl : List S24 → Nat → Nat) (H1 : ∀ x, cn x = 1 + tl x.f3 0) (H2 : ∀ l j, j < l.length → tl l j = cn (nth l j) + tl l (j + 1)) (H3 : ∀ l j, l.length ≤ j → tl l j = 0) (H4 : ∀ l j, cn (nth l j) ≤ tl l 0 ∨ l.length ≤ j) (N : Nat) :
    ∀ (x : S24) (m : Int) (k : Nat), cn x ≤ N → 0 ≤ m → m ≤ 1000 → 2 * cn x ≤ k →
    ∃ v, vinculumref09_left.f k x.f0 x.f1 x.f2 x.f3 m = some v ∧ -1 ≤ v ∧ (0 ≤ v → (cn x : Int) ≤ m ∧ v = m - cn x) ∧ ((cn x : Int) ≤ m → 0 ≤ v) := by
  induction N with
  | zero => intro x m k h; have := H1 x; omega
  | succ N ih =>
    intro x m k hN hm0 hm hk
    have hx := H1 x
    obtain ⟨k, rfl⟩ : ∃ q, k = q + 1 := ⟨k - 1, by omega⟩
    have hl : ∀ (d j : Nat) (q : Int) (k : Nat), j + d = x.f3.length → -1 ≤ q → (j : Int) + q ≤ 1000 → 2 * tl x.f3 j + 1 ≤ k →
        ∃ v, vinculumref09_left.l0 k q (j : Int) x.f0 x.f1 x.f2 x.f3 = some v ∧ -1 ≤ v ∧ (0 ≤ v → (tl x.f3 j : Int) ≤ q ∧ v = q - tl x.f3 j) ∧ ((tl x.f3 j : Int) ≤ q → 0 ≤ v) := by
      intro d
      induction d with
      | zero =>
        intro j q k hj h1 h2 hk
        obtain ⟨k, rfl⟩ : ∃ q, k = q + 1 := ⟨k - 1, by omega⟩
        have h3 := H3 x.f3 j (by omega)
        refine ⟨q, ?_, h1, by omega, by omega⟩
        rw [vinculumref09_left.l0, if_neg (by omega)]
      | succ d ihd =>
        intro j q k hj h1 h2 hk
        have hjl : j < x.f3.length := by omega
        have hc := H2 x.f3 j hjl
        have hp := H1 (nth x.f3 j)
        have hs := H4 x.f3 j
        obtain ⟨k, rfl⟩ : ∃ q, k = q + 1 := ⟨k - 1, by omega⟩
        rw [vinculumref09_left.l0, if_pos (by omega)]
        by_cases hq : q ≥ 0
        · rw [if_pos hq, if_pos (by omega), rd_nth]
          obtain ⟨v, e, v1, v2, v3⟩ := ih (nth x.f3 j) q k (by omega) hq (by omega) (by omega)
          rw [e, Option.bind_some, show wrap64 ((j : Int) + 1) = ((j + 1 : Nat) : Int) from wrap_id (by omega) (by omega)]
          by_cases h0 : 0 ≤ v
          · have v4 := v2 h0
            clear v2 v3
            obtain ⟨u, e2, u1, u2, u3⟩ := ihd (j + 1) v k (by omega) v1 (by omega) (by omega)
            refine ⟨u, e2, u1, fun h => ?_, fun h => u3 (by omega)⟩
            have h5 := u2 h
            clear u2 u3
            omega
          · have v5 : ¬ (cn (nth x.f3 j) : Int) ≤ q := fun h => h0 (v3 h)
            clear v2 v3
            obtain ⟨u, e2, u1, u2, u3⟩ := ihd (j + 1) v k (by omega) v1 (by omega) (by omega)
            refine ⟨u, e2, u1, fun h => ?_, fun h => ?_⟩
            · have h5 := u2 h
              clear u2 u3
              omega
            · clear u2 u3
              omega
        · rw [if_neg hq]
          exact ⟨q, rfl, h1, by omega, by omega⟩
    rw [vinculumref09_left.f, show wrap64 (m - 1) = m - 1 from wrap_id (by omega) (by omega)]
    obtain ⟨v, e, v1, v2, v3⟩ := hl x.f3.length 0 (m - 1) k (by omega) (by omega) (by omega) (by omega)
    refine ⟨v, e, v1, fun h => ?_, fun h => v3 (by omega)⟩
    have := v2 h
    clear v2 v3
    omega
theorem Count_abs (cn : S24 → Nat) (tl : List S24 → Nat → Nat) (H1 : ∀ x, cn x = 1 + tl x.f3 0) (H2 : ∀ l j, j < l.length → tl l j = cn (nth l j) + tl l (j + 1)) (H3 : ∀ l j, l.length ≤ j → tl l j = 0) (H4 : ∀ l j, cn (nth l j) ≤ tl l 0 ∨ l.length ≤ j) (H5 : ∀ l, l.length ≤ tl l 0) (N : Nat) :
    ∀ (x : S24) (k : Nat), cn x ≤ N → N ≤ 1000000 → 2 * cn x ≤ k → vinculumref09_Count.f k x.f0 x.f1 x.f2 x.f3 = some (cn x : Int) := by
  induction N with
  | zero => intro x k h; have := H1 x; omega
  | succ N ih =>
    intro x k hN hb hk
    have hx := H1 x
    have hlen := H5 x.f3
    obtain ⟨k, rfl⟩ : ∃ q, k = q + 1 := ⟨k - 1, by omega⟩
    have hl : ∀ (d j : Nat) (s : Int) (k : Nat), j + d = x.f3.length → 0 ≤ s → s + tl x.f3 j ≤ 1000000 → 2 * tl x.f3 j + 1 ≤ k →
        vinculumref09_Count.l0 k s (j : Int) x.f0 x.f1 x.f2 x.f3 = some (s + tl x.f3 j) := by
      intro d
      induction d with
      | zero =>
        intro j s k hj h1 h2 hk
        obtain ⟨k, rfl⟩ : ∃ q, k = q + 1 := ⟨k - 1, by omega⟩
        have h3 := H3 x.f3 j (by omega)
        rw [vinculumref09_Count.l0, if_neg (by omega), h3]
        simp
      | succ d ihd =>
        intro j s k hj h1 h2 hk
        have hjl : j < x.f3.length := by omega
        have hc := H2 x.f3 j hjl
        have hp := H1 (nth x.f3 j)
        have hs := H4 x.f3 j
        obtain ⟨k, rfl⟩ : ∃ q, k = q + 1 := ⟨k - 1, by omega⟩
        rw [vinculumref09_Count.l0, if_pos (by omega), if_pos (by omega), rd_nth, ih (nth x.f3 j) k (by omega) (by omega) (by omega), Option.bind_some,
          show wrap64 ((j : Int) + 1) = ((j + 1 : Nat) : Int) from wrap_id (by omega) (by omega), show wrap64 (s + (cn (nth x.f3 j) : Int)) = s + cn (nth x.f3 j) from wrap_id (by omega) (by omega), ihd (j + 1) _ k (by omega) (by omega) (by omega) (by omega), hc]
        congr 1
        omega
    rw [vinculumref09_Count.f]
    have := hl x.f3.length 0 1 k (by omega) (by omega) (by omega) (by omega)
    rw [show (0 : Int) = ((0 : Nat) : Int) from rfl, this, hx]
    congr 1
theorem tl_two (l : List S24) (j : Nat) (h : j < l.length) : cntL (l.drop j) = cnt (nth l j) + cntL (l.drop (j + 1)) := cntL_drop h
theorem tl_end (l : List S24) (j : Nat) (h : l.length ≤ j) : cntL (l.drop j) = 0 := by rw [List.drop_of_length_le h, cntL]
theorem tl_sub (l : List S24) (j : Nat) : cnt (nth l j) ≤ cntL (l.drop 0) ∨ l.length ≤ j := by
  rw [List.drop_zero]
  by_cases h : j < l.length
  · exact .inl (cntL_get (nth_some h))
  · exact .inr (by omega)
theorem left_spec (x : S24) (m : Int) (k : Nat) (hm0 : 0 ≤ m) (hm : m ≤ 1000) (hk : 2 * cnt x ≤ k) : ∃ v, vinculumref09_left.f k x.f0 x.f1 x.f2 x.f3 m = some v ∧ -1 ≤ v ∧ (0 ≤ v → (cnt x : Int) ≤ m ∧ v = m - cnt x) ∧ ((cnt x : Int) ≤ m → 0 ≤ v) :=
  left_abs cnt (fun l j => cntL (l.drop j)) (fun x => by rw [List.drop_zero]; exact cnt_eq x) tl_two tl_end tl_sub (cnt x) x m k (Nat.le_refl _) hm0 hm hk
theorem Count_spec (x : S24) (k : Nat) (hx : cnt x ≤ 1000000) (hk : 2 * cnt x ≤ k) : vinculumref09_Count.f k x.f0 x.f1 x.f2 x.f3 = some (cnt x : Int) :=
  Count_abs cnt (fun l j => cntL (l.drop j)) (fun x => by rw [List.drop_zero]; exact cnt_eq x) tl_two tl_end tl_sub (fun l => by rw [List.drop_zero]; exact cntL_len l) (cnt x) x k (Nat.le_refl _) hx hk
theorem Few_spec (x : S24) (m : Int) (k : Nat) (hm0 : 0 ≤ m) (hm : m ≤ 1000) (hk : 2 * cnt x ≤ k) : vinculumref09_Few.f k x.f0 x.f1 x.f2 x.f3 m = some (decide ((cnt x : Int) ≤ m)) := by
  obtain ⟨v, e, _, v2, v3⟩ := left_spec x m k hm0 hm hk
  unfold vinculumref09_Few.f
  rw [e, Option.bind_some]
  congr 1
  exact decide_eq_decide.2 ⟨fun h => (v2 h).1, v3⟩
/-- An operation is small. -/
def fewO (o : S27) : Bool := decide (1 + cntL o.f4 ≤ 100) && decide (o.f1.length ≤ 60)
theorem FewO_spec (o : S27) (k : Nat) (hk : 2 * (1 + cntL o.f4) ≤ k) : vinculumref12_Few.f k o.f0 o.f1 o.f2 o.f3 o.f4 o.f5 o.f6 o.f7 = some (fewO o) := by
  unfold vinculumref12_Few.f vinculumref09_ToRow.f fewO
  rw [Option.bind_some]
  have h := Few_spec ⟨1, ⟨#[]⟩, 0, o.f4⟩ 100 k (by omega) (by omega) (by rw [cnt]; exact hk)
  simp only at h ⊢
  rw [h, Option.bind_some, cnt]
  by_cases hc : 1 + cntL o.f4 ≤ 100
  · rw [decide_eq_true (show ((1 + cntL o.f4 : Nat) : Int) ≤ 100 by omega), if_pos rfl, decide_eq_true hc, Bool.true_and]
    congr 1
    exact decide_eq_decide.2 (by omega)
  · rw [decide_eq_false (show ¬ ((1 + cntL o.f4 : Nat) : Int) ≤ 100 by omega), if_neg (by decide), decide_eq_false hc]; rfl
theorem rd_op (l : List S27) (j : Nat) (h : j < l.length) : rd_T27 l (j : Int) = l[j] := by
  unfold rd_T27
  rw [Int.toNat_natCast, List.getD_eq_getElem?_getD, List.getElem?_eq_getElem h]
  rfl
/-- How many rounds the small bounds want. -/
def fewK (x : S24) : List S27 → Nat
  | [] => 2 * cnt x + 1
  | o :: l => 2 * (1 + cntL o.f4) + fewK x l + 1
/-- A tree and operations are small. -/
def fewB (x : S24) (l : List S27) : Bool := l.all fewO && (decide (cnt x ≤ 300) && decide (l.length ≤ 12))
theorem few_spec (x : S24) (l : List S27) (hl : l.length ≤ 9223372036854775807) (k : Nat) (hk : fewK x l ≤ k) : vinculumlaw12_few.f k x.f0 x.f1 x.f2 x.f3 l = some (fewB x l) := by
  unfold vinculumlaw12_few.f
  have h : ∀ (d j k : Nat), j + d = l.length → fewK x (l.drop j) ≤ k → vinculumlaw12_few.l0 k l l (l.length : Int) (j : Int) x.f0 x.f1 x.f2 x.f3 = some ((l.drop j).all fewO && (decide (cnt x ≤ 300) && decide (l.length ≤ 12))) := by
    intro d
    induction d with
    | zero =>
      intro j k hj hk
      rw [List.drop_of_length_le (by omega)] at hk ⊢
      rw [fewK] at hk
      obtain ⟨k, rfl⟩ : ∃ q, k = q + 1 := ⟨k - 1, by omega⟩
      rw [vinculumlaw12_few.l0, if_neg (by omega), Few_spec x 300 k (by omega) (by omega) (by omega), Option.bind_some]
      by_cases hc : cnt x ≤ 300
      · rw [decide_eq_true (show (cnt x : Int) ≤ 300 by omega), if_pos rfl, decide_eq_true hc]
        simp
        omega
      · rw [decide_eq_false (show ¬ (cnt x : Int) ≤ 300 by omega), if_neg (by decide), decide_eq_false hc]; rfl
    | succ d ih =>
      intro j k hj hk
      have hjl : j < l.length := by omega
      rw [List.drop_eq_getElem_cons hjl] at hk ⊢
      rw [fewK] at hk
      obtain ⟨k, rfl⟩ : ∃ q, k = q + 1 := ⟨k - 1, by omega⟩
      rw [vinculumlaw12_few.l0, if_pos (by omega), if_pos (by omega), if_pos (by omega), rd_op l j hjl, FewO_spec _ k (by omega), Option.bind_some, List.all_cons]
      cases hf : fewO l[j]
      · rw [if_neg (by decide)]; rfl
      · rw [if_pos rfl]
        have hw : wrap64 ((j : Int) + 1) = ((j + 1 : Nat) : Int) := wrap_id (by omega) (by omega)
        rw [hw, ih (j + 1) k (by omega) (by omega), Bool.true_and]
  have := h l.length 0 k (by omega) (by rw [List.drop_zero]; exact hk)
  rw [List.drop_zero] at this
  exact this
theorem fewB_op {x : S24} {l : List S27} (h : fewB x l = true) {o : S27} (ho : o ∈ l) : cntL o.f4 < 100 ∧ o.f1.length ≤ 60 := by
  unfold fewB at h
  simp only [Bool.and_eq_true] at h
  have := List.all_eq_true.1 h.1 o ho
  unfold fewO at this
  simp only [Bool.and_eq_true, decide_eq_true_eq] at this
  omega
theorem fewB_tree {x : S24} {l : List S27} (h : fewB x l = true) : cnt x ≤ 300 ∧ l.length ≤ 12 := by
  unfold fewB at h
  simp only [Bool.and_eq_true, decide_eq_true_eq] at h
  exact h.2
end X
end Go.Proofs.YtgcpfelccfnnbaaDoor
namespace Go.Proofs.YtgcpfelccfnnbaaDoor.X
open Go.RowKit Go.Proofs.YtgcpfelccfnnbaaDoorW.PrintWords Go.Proofs.YtgcpfelccfnnbaaDoorW.PrintLast Go.Proofs.YtgcpfelccfnnbaaDoorW.PrintMore
attribute [local go_sem] max2_int min2_int max_two min_two max_three min_three max_four min_four   -- for this text's walks alone
set_option linter.unusedVariables false
set_option linter.unusedSimpArgs false
set_option maxRecDepth 100000 in
set_option maxHeartbeats 1000000 in
theorem sameItems_step (N : Nat) (hE : EqSpec 15 N) (l ys : List S24) (A B : Option Addr) (c d : Nat) (w : World) (hN : cntL l ≤ N) (hc : l.length ≤ c) (hd : ys.length ≤ d) (hA : Kd.C k24 w A l.length l) (hB : Kd.C k24 w B ys.length ys) :
    Calls Tryd.prog 36 #[.slice A l.length c, .slice B ys.length d] w fun e w' => e = .returned (.bool (eqL l ys)) ∧ Below w.heap.size w w' := by
  have hlA := hA.2.1
  have hlB := hB.2.1
  by_cases hl : l.length = ys.length
  · have HA := Aside0.mk hA
    have HB := Aside0.mk hB
    have HL := Aside0.mk hl
    have q0 : ((l.length : Int) != (ys.length : Int)) = false := by rw [hl]; simp
    have q1 : (l.length != ys.length) = false := by rw [hl]; simp
    have q2 : (l.length == ys.length) = true := by rw [hl]; simp
    clear hl hA hB
    go_enter Tryd.func36, Tryd.ntmps36
    go_wp2_with fail
    go_loopg [5] l.length (fun kq v5 wr => ∃ i : Nat, v5 = .int .i64 i ∧ Aside0 (i + kq = l.length) ∧ Aside0 (Below w.heap.size w wr) ∧ Aside0 (eqL (l.drop i) (ys.drop i) = eqL l ys))
    case atStart => exact ⟨0, rfl, ⟨by omega⟩, ⟨Below.refl _ _⟩, ⟨by rw [List.drop_zero, List.drop_zero]⟩⟩
    case round =>
      obtain ⟨i, rfl, HK, HW, HE⟩ := hrel
      by_cases hlt : i < l.length
      · have hlt2 : i < ys.length := by have := HL.out; omega
        obtain ⟨ad, A3, c3, rfl, hl3, HF3, e0, e1, e2, e3⟩ := elemAt HA.out HW.out hlt
        obtain ⟨bd, B3, d3, rfl, hm3, HG3, g0, g1, g2, g3⟩ := elemAt HB.out HW.out hlt2
        have HC2 : Aside0 (cnt (nth l i) ≤ N) := ⟨Nat.le_trans (cntL_get (nth_some hlt)) hN⟩
        have HE2 : Aside0 ((eqN (nth l i) (nth ys i) && eqL (l.drop (i + 1)) (ys.drop (i + 1))) = eqL l ys) := ⟨by have h2 := HE.out; rw [drop_nth hlt, drop_nth hlt2, eqL] at h2; exact h2⟩
        have g0' := fun o => cell_alloc g0 o
        have g1' := fun o => cell_alloc g1 o
        have g2' := fun o => cell_alloc g2 o
        have g3' := fun o => cell_alloc g3 o
        clear HE
        cases he : eqN (nth l i) (nth ys i) with
        | false =>
          have HEN := Aside0.mk he
          clear he
          go_wp2_with fail
          go_still_tail 8, (by kernel_rfl)
          change wpList _ _ _ _ _ wr.drew
          have hdb : Aside0 (Below wr.heap.size wr wr.drew) := ⟨below_drew (Below.refl _ _)⟩
          generalize wr.drew = w2 at hdb ⊢
          go_wp2_with (go_at_call 15; go_loud (refine (hE (nth l i) (nth ys i) A3 B3 c3 d3 _ HC2.out hl3 hm3 ?qa ?qb).mono ?_; (case qa => exact Kd.C_below HF3.out hdb.out); (case qb => exact Kd.C_below HG3.out hdb.out); rintro e w3 ⟨he, hb3⟩; rw [HEN.out] at he; subst he))
          go_ret
          refine ⟨by rw [← HE2.out, HEN.out]; rfl, below_then (below_then HW.out HW.out.size hdb.out) ?_ hb3⟩
          exact Nat.le_trans HW.out.size hdb.out.size
        | true =>
          have HEN := Aside0.mk he
          clear he
          go_wp2_with fail
          go_still_tail 8, (by kernel_rfl)
          change wpList _ _ _ _ _ wr.drew
          have hdb : Aside0 (Below wr.heap.size wr wr.drew) := ⟨below_drew (Below.refl _ _)⟩
          generalize wr.drew = w2 at hdb ⊢
          go_wp2_with (go_at_call 15; go_loud (refine (hE (nth l i) (nth ys i) A3 B3 c3 d3 _ HC2.out hl3 hm3 ?qa ?qb).mono ?_; (case qa => exact Kd.C_below HF3.out hdb.out); (case qb => exact Kd.C_below HG3.out hdb.out); rintro e w3 ⟨he, hb3⟩; rw [HEN.out] at he; subst he))
          obtain ⟨k', rfl⟩ : ∃ k', gk = k' + 1 := ⟨gk - 1, by have := HK.out; omega⟩
          have HB3 : Aside0 (Below w.heap.size w w3) := ⟨below_then (below_then HW.out HW.out.size hdb.out) (Nat.le_trans HW.out.size hdb.out.size) hb3⟩
          go_roundg k'
          case measure => omega
          case rel => exact ⟨i + 1, by go_num, ⟨by have := HK.out; omega⟩, HB3, ⟨by rw [← HE2.out, HEN.out]; rfl⟩⟩
      · have hil : i = l.length := by have := HK.out; omega
        have HR : Aside0 (eqL l ys = true) := ⟨by rw [← HE.out, hil, List.drop_eq_nil_of_le (Nat.le_refl _), List.drop_eq_nil_of_le (by have := HL.out; omega)]; rfl⟩
        clear hil
        go_wp2
        go_ret
        exact ⟨by rw [HR.out]; rfl, HW.out⟩
  · have HR : Aside0 (eqL l ys = false) := ⟨eqL_len hl⟩
    have q0 : ((l.length : Int) != (ys.length : Int)) = true := by rw [bne_iff_ne]; omega
    have q1 : (l.length != ys.length) = true := by rw [bne_iff_ne]; exact hl
    have q2 : (l.length == ys.length) = false := beq_eq_false_iff_ne.2 hl
    clear hl hA hB
    go_enter Tryd.func36, Tryd.ntmps36
    go_wp2_with fail
    go_ret
    exact ⟨by rw [HR.out]; rfl, Below.refl _ _⟩
end Go.Proofs.YtgcpfelccfnnbaaDoor.X
namespace Go.Proofs.YtgcpfelccfnnbaaDoor.X
open Go.RowKit Go.Proofs.YtgcpfelccfnnbaaDoorW.PrintWords Go.Proofs.YtgcpfelccfnnbaaDoorW.PrintLast Go.Proofs.YtgcpfelccfnnbaaDoorW.PrintMore
attribute [local go_sem] max2_int min2_int max_two min_two max_three min_three max_four min_four   -- for this text's walks alone
set_option linter.unusedVariables false
set_option linter.unusedSimpArgs false
set_option maxRecDepth 100000 in
set_option maxHeartbeats 1000000 in
theorem refEqual_any (N : Nat) : EqSpec 15 N := by
  induction N with
  | zero => intro x y A B c d w h; have := cnt_pos x; omega
  | succ N ih =>
  intro x y A B c d w hN hc hd hA hB
  have hsub : cntL x.f3 ≤ N := by rw [cnt_eq] at hN; omega
  obtain ⟨f0, f1, f2, l⟩ := x
  obtain ⟨g0, g1, g2, m⟩ := y
  simp only at hsub hc hd hA hB ⊢
  have hbb : ∀ o1 o2 : Obj, Aside0 (Below w.heap.size w ((w.alloc o1).alloc o2)) := fun o1 o2 => ⟨below_alloc (below_alloc (Below.refl _ _) _) _⟩
  have hstep := fun o1 o2 : Obj => sameItems_step N ih l m A B c d ((w.alloc o1).alloc o2) hsub hc hd (Kd.C_below hA (hbb o1 o2).out) (Kd.C_below hB (hbb o1 o2).out)
  have HST := Aside0.mk hstep
  clear hstep ih hA hB hN
  by_cases h0 : f0 = g0
  · by_cases h1 : f1.data.toList = g1.data.toList
    · by_cases h2 : f2 = g2
      · have HR : Aside0 (eqN ⟨f0, f1, f2, l⟩ ⟨g0, g1, g2, m⟩ = eqL l m) := ⟨by rw [eqN, decide_eq_true h0, decide_eq_true h1, decide_eq_true h2]; rfl⟩
        have q0 : (f0 == g0) = true := beq_iff_eq.2 h0
        have q1 : (f1.toList == g1.toList) = true := by rw [ba_toList, ba_toList, h1]; simp
        have q2 : (f2 == g2) = true := beq_iff_eq.2 h2
        clear h0 h1 h2
        go_enter Tryd.func15, Tryd.ntmps15
        go_wp2_with (go_at_call 36; go_loud (refine (HST.out _ _).mono ?_; rintro e w3 ⟨rfl, hb3⟩))
        go_ret
        exact ⟨by rw [HR.out]; rfl, below_then (hbb _ _).out (hbb _ _).out.size hb3⟩
      · have HR : Aside0 (eqN ⟨f0, f1, f2, l⟩ ⟨g0, g1, g2, m⟩ = false) := ⟨by rw [eqN, decide_eq_true h0, decide_eq_true h1, decide_eq_false h2]; rfl⟩
        have q0 : (f0 == g0) = true := beq_iff_eq.2 h0
        have q1 : (f1.toList == g1.toList) = true := by rw [ba_toList, ba_toList, h1]; simp
        have q2 : (f2 == g2) = false := beq_eq_false_iff_ne.2 h2
        clear h0 h1 h2
        go_enter Tryd.func15, Tryd.ntmps15
        go_wp2_with fail
        go_ret
        exact ⟨by rw [HR.out]; rfl, (hbb _ _).out⟩
    · have HR : Aside0 (eqN ⟨f0, f1, f2, l⟩ ⟨g0, g1, g2, m⟩ = false) := ⟨by rw [eqN, decide_eq_true h0, decide_eq_false h1]; rfl⟩
      have q0 : (f0 == g0) = true := beq_iff_eq.2 h0
      have q1 : (f1.toList == g1.toList) = false := by rw [ba_toList, ba_toList]; simpa using h1
      clear h0 h1
      go_enter Tryd.func15, Tryd.ntmps15
      go_wp2_with fail
      go_ret
      exact ⟨by rw [HR.out]; rfl, (hbb _ _).out⟩
  · have HR : Aside0 (eqN ⟨f0, f1, f2, l⟩ ⟨g0, g1, g2, m⟩ = false) := ⟨by rw [eqN, decide_eq_false h0]; rfl⟩
    have q0 : (f0 == g0) = false := beq_eq_false_iff_ne.2 h0
    clear h0
    go_enter Tryd.func15, Tryd.ntmps15
    go_wp2_with fail
    go_ret
    exact ⟨by rw [HR.out]; rfl, (hbb _ _).out⟩
def vinculumref09_Equal.f (a0_0 : Int) (a0_1 : ByteArray) (a0_2 : Int) (l0_3 : List S24) (a1_0 : Int) (a1_1 : ByteArray) (a1_2 : Int) (l1_3 : List S24) : Option Bool := some (eqN ⟨a0_0, a0_1, a0_2, l0_3⟩ ⟨a1_0, a1_1, a1_2, l1_3⟩)
theorem vinculumref09_Equal.calls (a0_0 : Int) (a0_1 : ByteArray) (a0_2 : Int) (A0_3 : Option Addr) (c0_3 : Nat) (l0_3 : List S24) (a1_0 : Int) (a1_1 : ByteArray) (a1_2 : Int) (A1_3 : Option Addr) (c1_3 : Nat) (l1_3 : List S24) (r : Bool) (w : World) (hr0_3 : Kd.C k24 w A0_3 l0_3.length l0_3) (hc0_3 : l0_3.length ≤ c0_3) (hr1_3 : Kd.C k24 w A1_3 l1_3.length l1_3) (hc1_3 : l1_3.length ≤ c1_3) (h : vinculumref09_Equal.f a0_0 a0_1 a0_2 l0_3 a1_0 a1_1 a1_2 l1_3 = some r) :
    Calls Tryd.prog 15 #[.agg #[.int .i64 a0_0, .string a0_1, .int .i64 a0_2, .slice A0_3 l0_3.length c0_3], .agg #[.int .i64 a1_0, .string a1_1, .int .i64 a1_2, .slice A1_3 l1_3.length c1_3]] w fun e w' => e = .returned (.bool r) ∧ Below w.heap.size w w' := by
  unfold vinculumref09_Equal.f at h
  injection h with h
  subst h
  exact refEqual_any _ ⟨a0_0, a0_1, a0_2, l0_3⟩ ⟨a1_0, a1_1, a1_2, l1_3⟩ A0_3 A1_3 c0_3 c1_3 w (Nat.le_refl _) hc0_3 hc1_3 hr0_3 hr1_3
theorem sameItems_any0 (l ys : List S24) (A B : Option Addr) (c d : Nat) (w : World) (hc : l.length ≤ c) (hd : ys.length ≤ d) (hA : Kd.C k24 w A l.length l) (hB : Kd.C k24 w B ys.length ys) :
    Calls Tryd.prog 36 #[.slice A l.length c, .slice B ys.length d] w fun e w' => e = .returned (.bool (eqL l ys)) ∧ Below w.heap.size w w' :=
  sameItems_step (cntL l) (refEqual_any _) l ys A B c d w (Nat.le_refl _) hc hd hA hB
def vinculumref09_SameItems.f (l0 l1 : List S24) : Option Bool := some (eqL l0 l1)
theorem vinculumref09_SameItems.calls (A0 : Option Addr) (c0 : Nat) (l0 : List S24) (A1 : Option Addr) (c1 : Nat) (l1 : List S24) (r : Bool) (w : World) (hr0 : Kd.C k24 w A0 l0.length l0) (hc0 : l0.length ≤ c0) (hr1 : Kd.C k24 w A1 l1.length l1) (hc1 : l1.length ≤ c1) (h : vinculumref09_SameItems.f l0 l1 = some r) :
    Calls Tryd.prog 36 #[.slice A0 l0.length c0, .slice A1 l1.length c1] w fun e w' => e = .returned (.bool r) ∧ Below w.heap.size w w' := by
  unfold vinculumref09_SameItems.f at h
  injection h with h
  subst h
  exact sameItems_any0 l0 l1 A0 A1 c0 c1 w hc0 hc1 hr0 hr1
end Go.Proofs.YtgcpfelccfnnbaaDoor.X
namespace Go.Proofs.YtgcpfelccfnnbaaDoor.X
open Go.RowKit Go.Proofs.YtgcpfelccfnnbaaDoorW.PrintWords Go.Proofs.YtgcpfelccfnnbaaDoorW.PrintLast Go.Proofs.YtgcpfelccfnnbaaDoorW.PrintMore
attribute [local go_sem] max2_int min2_int max_two min_two max_three min_three max_four min_four   -- for this text's walks alone
set_option linter.unusedVariables false
set_option linter.unusedSimpArgs false
theorem twoF {W : World} {x y : S24} {A3 B3 : Option Addr} {c3 d3 : Nat} {ok : Nat → Prop} (h3 : x.f3.length ≤ c3) (hF : Kd.F k24 W ok A3 x.f3.length x.f3) (h4 : y.f3.length ≤ d3) (hG : Kd.F k24 W ok B3 y.f3.length y.f3) :
    Kd.F k24 (W.alloc (.cells #[.int .i64 x.f0, .string x.f1, .int .i64 x.f2, .slice A3 x.f3.length c3, .int .i64 y.f0, .string y.f1, .int .i64 y.f2, .slice B3 y.f3.length d3] 24)) (fun j => ok j ∨ j = W.heap.size) (some ⟨W.heap.size, 0, none⟩) 2 [x, y] := by
  intro W' hW
  have hb : W'.heap[W.heap.size]? = some (.cells #[.int .i64 x.f0, .string x.f1, .int .i64 x.f2, .slice A3 x.f3.length c3, .int .i64 y.f0, .string y.f1, .int .i64 y.f2, .slice B3 y.f3.length d3] 24 (0, 0)) := (hW _ (.inr rfl) (by simp)).trans (heap_alloc_new W _)
  have hs : ∀ k, ok k → k < W.heap.size → W'.heap[k]? = W.heap[k]? := fun k hk hlt => (hW k (.inl hk) (by simp; omega)).trans (Below.heap_alloc _ _ _ hlt)
  have hK : k24.K W' x [.int .i64 x.f0, .string x.f1, .int .i64 x.f2, .slice A3 x.f3.length c3] := k24_mk W' x h3 (hF W' hs)
  have hL : k24.K W' y [.int .i64 y.f0, .string y.f1, .int .i64 y.f2, .slice B3 y.f3.length d3] := k24_mk W' y h4 (hG W' hs)
  refine ⟨rfl, by simp, fun _ => ⟨_, rfl, fun j p hj => ?_⟩⟩
  match j, hj with
  | 0, hj =>
    simp only [List.getElem?_cons_zero, Option.some.injEq] at hj
    subst hj
    refine ⟨_, rfl, hK, fun i u hu => ?_⟩
    rw [add_plain, Nat.zero_mul, Nat.zero_add, blk_cell hb i]
    match i, hu with
    | 0, hu => simpa using hu
    | 1, hu => simpa using hu
    | 2, hu => simpa using hu
    | 3, hu => simpa using hu
    | i + 4, hu => simp at hu
  | 1, hj =>
    simp only [List.getElem?_cons_succ, List.getElem?_cons_zero, Option.some.injEq] at hj
    subst hj
    refine ⟨_, rfl, hL, fun i u hu => ?_⟩
    rw [add_plain, blk_cell hb]
    match i, hu with
    | 0, hu => exact hu
    | 1, hu => exact hu
    | 2, hu => exact hu
    | 3, hu => exact hu
    | i + 4, hu => simp at hu
  | j + 2, hj => simp at hj
set_option maxRecDepth 100000 in
theorem awakeRow_any (n : Nat) (A : Option Addr) (c : Nat) (w : World) :
    Calls Tryd.prog 24 #[.slice A n c] w fun e w' => e = .returned (.agg #[.int .i64 1, .string ⟨#[]⟩, .int .i64 0, .slice A n c]) ∧ Below w.heap.size w w' := by
  go_enter Tryd.func24, Tryd.ntmps24
  go_wp2
  refine bodyPost_ret (results_cell_row rfl _ _ w.heap.size 24 #[.int .i64 1, .string ⟨#[]⟩, .int .i64 0, .slice A n c] (0, 0) _ rfl (heap_alloc_new _ _) Tryd.underlying24 rfl (by kernel_rfl)) rfl ?_
  exact ⟨rfl, below_alloc (Below.refl _ _) _⟩
def nodeA : S24 := ⟨2, ⟨#[97]⟩, 0, []⟩
def nodeB : S24 := ⟨2, ⟨#[98]⟩, 0, []⟩
def nodeR : S24 := ⟨1, ⟨#[]⟩, 0, []⟩
def opW : S27 := ⟨3, [], 0, 2, [⟨5, ⟨#[]⟩, 0, [nodeR, nodeR]⟩], 0, ⟨#[]⟩, ⟨#[]⟩⟩
def treeIn : S24 := ⟨1, ⟨#[]⟩, 0, [nodeA, nodeB]⟩
def treeOut : S24 := ⟨1, ⟨#[]⟩, 0, [⟨5, ⟨#[]⟩, 0, [⟨1, ⟨#[]⟩, 0, [nodeA, nodeB]⟩, nodeR]⟩]⟩
theorem awake_apply : applyE treeIn opW = (treeOut, 0) := by kernel_rfl
theorem awake_eq : eqN treeOut treeOut = true := (eqN_iff _ _).2 rfl
end Go.Proofs.YtgcpfelccfnnbaaDoor.X
namespace Go.Proofs.YtgcpfelccfnnbaaDoor.X
open Go.RowKit Go.Proofs.YtgcpfelccfnnbaaDoorW.PrintWords Go.Proofs.YtgcpfelccfnnbaaDoorW.PrintLast Go.Proofs.YtgcpfelccfnnbaaDoorW.PrintMore
attribute [local go_sem] max2_int min2_int max_two min_two max_three min_three max_four min_four   -- for this text's walks alone
set_option linter.unusedVariables false
set_option linter.unusedSimpArgs false
def awake4.T : Bool × List (List Nat × List Nat) := (true, [([], []), ([], []), ([], []), ([1, 2], [1, 2]), ([0, 3], [0, 3]), ([], []), ([4, 5, 4], [4, 5]), ([6], [6]), ([7], [7]), ([7], [7]), ([], []), ([10, 8, 6, 0, 1, 2, 3, 4, 5, 6, 7, 8, 10], [8, 10]), ([9, 11, 0, 1, 2, 3, 4, 5, 6, 7, 8, 9, 10, 11], [9])])
def awake4.B : List Nat := [0, 0, 0, 6, 15, 0, 63, 127, 255, 255, 0, 1535, 4095]
theorem awake4.tab : rtab .any (opsOf Tryd.f9 4) = awake4.T := by kernel_rfl
theorem awake4.bits : waitsOk awake4.T.2 awake4.B = true := by kernel_rfl
def awake5.T : Bool × List (List Nat × List Nat) := (true, [([], []), ([0], [0]), ([1], [1]), ([2], [2]), ([2], [2]), ([2], [2]), ([2], [2]), ([2], [2]), ([6, 7, 2], [2, 6, 7]), ([5, 8, 2, 2], [2, 5, 8]), ([2], [2]), ([10, 9, 2], [2, 10]), ([9, 11, 2], [2, 9, 11]), ([12, 2], [2, 12]), ([13, 2], [2, 13]), ([4, 14, 11, 2], [2, 4, 14]), ([3, 15, 15, 2], [2, 3, 15]), ([2, 16], [2, 16]), ([17, 16, 0, 1, 2, 3, 4, 5, 6, 7, 8, 9, 10, 11, 12, 13, 14, 15, 16, 17], [17])])
def awake5.B : List Nat := [0, 1, 3, 7, 7, 7, 7, 7, 199, 487, 7, 2023, 4071, 8167, 16359, 32759, 65535, 131071, 262143]
theorem awake5.tab : rtab .any (opsOf Tryd.f9 5) = awake5.T := by kernel_rfl
theorem awake5.bits : waitsOk awake5.T.2 awake5.B = true := by kernel_rfl
set_option maxRecDepth 100000 in
set_option maxHeartbeats 4000000 in
theorem HEQ (A : Option Addr) (g c : Nat) (W : World) (hc : 1 ≤ c) (h1 : Kd.C k24 W A 1 treeOut.f3) (h2 : Kd.C k24 W (some ⟨g, 0, none⟩) 1 treeOut.f3) :
    Calls Tryd.prog 15 #[.agg #[.int .i64 1, .string ⟨#[]⟩, .int .i64 0, .slice A 1 c], .agg #[.int .i64 1, .string ⟨#[]⟩, .int .i64 0, .slice (some ⟨g, 0, none⟩) 1 1]] W fun e w' => e = .returned (.bool true) ∧ Below W.heap.size W w' := by
  have h := refEqual_any (cnt treeOut) treeOut treeOut A (some ⟨g, 0, none⟩) c 1 W (Nat.le_refl _) hc (Nat.le_refl _) h1 h2
  rw [awake_eq] at h
  exact h
set_option maxRecDepth 100000 in
set_option maxHeartbeats 4000000 in
theorem awake_any (w : World) : Calls Tryd.prog 9 #[] w fun e w' => e = .returned (.bool true) ∧ Below w.heap.size w w' := by
  have HB2 : Aside0 (Below w.heap.size w ((w.alloc (.cells #[.int .i64 2, .string ⟨#[97]⟩, .int .i64 0, .slice none 0 0] 24)).alloc (.cells #[.int .i64 2, .string ⟨#[98]⟩, .int .i64 0, .slice none 0 0] 24))) := ⟨below_alloc (below_alloc (Below.refl _ _) _) _⟩
  have HROW := Aside0.mk (fun W => awakeRow_any 0 none 0 W)
  have HAP : Aside0 (∀ (W : World) (ga gb : Nat), Kd.C k24 W (some ⟨ga, 0, none⟩) 2 treeIn.f3 → Kd.C k24 W (some ⟨gb, 0, none⟩) 1 opW.f4 → Calls Tryd.prog 11 #[.agg #[.int .i64 1, .string ⟨#[]⟩, .int .i64 0, .slice (some ⟨ga, 0, none⟩) 2 2], .agg #[.int .i64 3, .slice none 0 0, .int .i64 0, .int .i64 2, .slice (some ⟨gb, 0, none⟩) 1 1, .int .i64 0, .string ⟨#[]⟩, .string ⟨#[]⟩]] W fun e w' => ∃ (A' : Option Addr) (c' : Nat), e = .returned (.tuple #[.agg #[.int .i64 1, .string ⟨#[]⟩, .int .i64 0, .slice A' 1 c'], .int .i64 0]) ∧ 1 ≤ c' ∧ Kd.F k24 w' (fun k => W.heap.size ≤ k) A' 1 treeOut.f3 ∧ Below W.heap.size W w') := ⟨fun W ga gb h1 h2 => by
    have h := apply_any treeIn opW (some ⟨ga, 0, none⟩) none (some ⟨gb, 0, none⟩) 2 0 1 W (by kernel_rfl) (by kernel_rfl) (by decide) (by decide) (by decide) (by decide) h1 (Kd.C_nil _ _) h2
    rw [awake_apply] at h
    exact h⟩
  go_enter Tryd.func9, Tryd.ntmps9
  go_wp2_with (first | (go_at_call 24; have hg := HX; clear hg; go_loud (refine (HROW.out _).mono ?_; rintro e w4 ⟨rfl, hb⟩; have HA := Aside0.mk (blk_on HX.out hb); have HC := Aside0.mk (blk_on HY.out hb); have HB4 := Aside0.mk (below_then HB.out HB.out.size hb); clear hb HX HY HB)) | (go_at_call 24; go_loud (refine (HROW.out _).mono ?_; rintro e w3 ⟨rfl, hb⟩; have HX := Aside0.mk (blk_on (alloc2_fst w _ _) hb); have HY := Aside0.mk (blk_on (alloc2_snd w _ _) hb); have HB := Aside0.mk (below_then HB2.out HB2.out.size hb); clear hb)))
  have H1 := twoF (W := w4) (x := nodeR) (y := nodeR) (A3 := none) (B3 := none) (c3 := 0) (d3 := 0) (ok := fun _ => True) (Nat.le_refl _) (Kd.F_nil _ _ _) (Nat.le_refl _) (Kd.F_nil _ _ _)
  have H2 := oneF (W := w4.alloc (.cells #[.int .i64 1, .string ⟨#[]⟩, .int .i64 0, .slice none 0 0, .int .i64 1, .string ⟨#[]⟩, .int .i64 0, .slice none 0 0] 24)) (x := ⟨5, ⟨#[]⟩, 0, [nodeR, nodeR]⟩) (A3 := some ⟨w4.heap.size, 0, none⟩) (c3 := 2) (ok := fun _ => True) (Nat.le_refl _) (Kd.F_mono H1 (fun _ _ => trivial))
  have hz1 : (w4.alloc (.cells #[.int .i64 1, .string ⟨#[]⟩, .int .i64 0, .slice none 0 0, .int .i64 1, .string ⟨#[]⟩, .int .i64 0, .slice none 0 0] 24)).heap.size = w4.heap.size + 1 := by simp
  have hz2 : ((w4.alloc (.cells #[.int .i64 1, .string ⟨#[]⟩, .int .i64 0, .slice none 0 0, .int .i64 1, .string ⟨#[]⟩, .int .i64 0, .slice none 0 0] 24)).alloc (.cells #[.int .i64 5, .string ⟨#[]⟩, .int .i64 0, .slice (some ⟨w4.heap.size, 0, none⟩) 2 2] 24)).heap.size = w4.heap.size + 1 + 1 := by simp
  rw [hz1] at H2
  have HFR : Aside0 (Kd.F k24 (((w4.alloc (.cells #[.int .i64 1, .string ⟨#[]⟩, .int .i64 0, .slice none 0 0, .int .i64 1, .string ⟨#[]⟩, .int .i64 0, .slice none 0 0] 24)).alloc (.cells #[.int .i64 5, .string ⟨#[]⟩, .int .i64 0, .slice (some ⟨w4.heap.size, 0, none⟩) 2 2] 24)).alloc (.cells #[.int .i64 3, .slice none 0 0, .int .i64 0, .int .i64 2, .slice (some ⟨w4.heap.size + 1, 0, none⟩) 1 1, .int .i64 0, .string ⟨#[]⟩, .string ⟨#[]⟩] 27)) (fun _ => True) (some ⟨w4.heap.size + 1, 0, none⟩) 1 opW.f4) := ⟨Kd.F_mono (Kd.F_alloc H2 _) (fun _ _ => trivial)⟩
  have HO5 : Aside0 ((((w4.alloc (.cells #[.int .i64 1, .string ⟨#[]⟩, .int .i64 0, .slice none 0 0, .int .i64 1, .string ⟨#[]⟩, .int .i64 0, .slice none 0 0] 24)).alloc (.cells #[.int .i64 5, .string ⟨#[]⟩, .int .i64 0, .slice (some ⟨w4.heap.size, 0, none⟩) 2 2] 24)).alloc (.cells #[.int .i64 3, .slice none 0 0, .int .i64 0, .int .i64 2, .slice (some ⟨w4.heap.size + 1, 0, none⟩) 1 1, .int .i64 0, .string ⟨#[]⟩, .string ⟨#[]⟩] 27)).heap[w4.heap.size + 1 + 1]? = some (.cells #[.int .i64 3, .slice none 0 0, .int .i64 0, .int .i64 2, .slice (some ⟨w4.heap.size + 1, 0, none⟩) 1 1, .int .i64 0, .string ⟨#[]⟩, .string ⟨#[]⟩] 27)) := ⟨by rw [← hz2]; exact heap_alloc_new _ _⟩
  have HA5 : Aside0 ((((w4.alloc (.cells #[.int .i64 1, .string ⟨#[]⟩, .int .i64 0, .slice none 0 0, .int .i64 1, .string ⟨#[]⟩, .int .i64 0, .slice none 0 0] 24)).alloc (.cells #[.int .i64 5, .string ⟨#[]⟩, .int .i64 0, .slice (some ⟨w4.heap.size, 0, none⟩) 2 2] 24)).alloc (.cells #[.int .i64 3, .slice none 0 0, .int .i64 0, .int .i64 2, .slice (some ⟨w4.heap.size + 1, 0, none⟩) 1 1, .int .i64 0, .string ⟨#[]⟩, .string ⟨#[]⟩] 27)).heap[w.heap.size]? = some (.cells #[.int .i64 2, .string ⟨#[97]⟩, .int .i64 0, .slice none 0 0] 24)) := ⟨blk_allocO (blk_allocO (blk_allocO HA.out _) _) _⟩
  have HC5 : Aside0 ((((w4.alloc (.cells #[.int .i64 1, .string ⟨#[]⟩, .int .i64 0, .slice none 0 0, .int .i64 1, .string ⟨#[]⟩, .int .i64 0, .slice none 0 0] 24)).alloc (.cells #[.int .i64 5, .string ⟨#[]⟩, .int .i64 0, .slice (some ⟨w4.heap.size, 0, none⟩) 2 2] 24)).alloc (.cells #[.int .i64 3, .slice none 0 0, .int .i64 0, .int .i64 2, .slice (some ⟨w4.heap.size + 1, 0, none⟩) 1 1, .int .i64 0, .string ⟨#[]⟩, .string ⟨#[]⟩] 27)).heap[w.heap.size + 1]? = some (.cells #[.int .i64 2, .string ⟨#[98]⟩, .int .i64 0, .slice none 0 0] 24)) := ⟨blk_allocO (blk_allocO (blk_allocO HC.out _) _) _⟩
  have HB5 : Aside0 (Below w.heap.size w (((w4.alloc (.cells #[.int .i64 1, .string ⟨#[]⟩, .int .i64 0, .slice none 0 0, .int .i64 1, .string ⟨#[]⟩, .int .i64 0, .slice none 0 0] 24)).alloc (.cells #[.int .i64 5, .string ⟨#[]⟩, .int .i64 0, .slice (some ⟨w4.heap.size, 0, none⟩) 2 2] 24)).alloc (.cells #[.int .i64 3, .slice none 0 0, .int .i64 0, .int .i64 2, .slice (some ⟨w4.heap.size + 1, 0, none⟩) 1 1, .int .i64 0, .string ⟨#[]⟩, .string ⟨#[]⟩] 27))) := ⟨below_alloc (below_alloc (below_alloc HB4.out _) _) _⟩
  clear H1 H2 hz1 hz2 HA HC HB4 HB2
  generalize (((w4.alloc (.cells #[.int .i64 1, .string ⟨#[]⟩, .int .i64 0, .slice none 0 0, .int .i64 1, .string ⟨#[]⟩, .int .i64 0, .slice none 0 0] 24)).alloc (.cells #[.int .i64 5, .string ⟨#[]⟩, .int .i64 0, .slice (some ⟨w4.heap.size, 0, none⟩) 2 2] 24)).alloc (.cells #[.int .i64 3, .slice none 0 0, .int .i64 0, .int .i64 2, .slice (some ⟨w4.heap.size + 1, 0, none⟩) 1 1, .int .i64 0, .string ⟨#[]⟩, .string ⟨#[]⟩] 27)) = w5 at HFR HO5 HA5 HC5 HB5 ⊢
  generalize w4.heap.size + 1 + 1 = gO at HO5 ⊢
  generalize w4.heap.size + 1 = g3 at HFR HO5 ⊢
  refine start_ (n := 13) (S := fun w' => w'.cell? ⟨w.heap.size, 0, none⟩ = some (.int .i64 2) ∧ w'.cell? ⟨w.heap.size, 1, none⟩ = some (.string ⟨#[97]⟩) ∧ w'.cell? ⟨w.heap.size, 2, none⟩ = some (.int .i64 0) ∧ w'.cell? ⟨w.heap.size, 3, none⟩ = some (.slice none 0 0) ∧ w'.cell? ⟨w.heap.size + 1, 0, none⟩ = some (.int .i64 2) ∧ w'.cell? ⟨w.heap.size + 1, 1, none⟩ = some (.string ⟨#[98]⟩) ∧ w'.cell? ⟨w.heap.size + 1, 2, none⟩ = some (.int .i64 0) ∧ w'.cell? ⟨w.heap.size + 1, 3, none⟩ = some (.slice none 0 0) ∧ w'.cell? ⟨gO, 0, none⟩ = some (.int .i64 3) ∧ w'.cell? ⟨gO, 1, none⟩ = some (.slice none 0 0) ∧ w'.cell? ⟨gO, 2, none⟩ = some (.int .i64 0) ∧ w'.cell? ⟨gO, 3, none⟩ = some (.int .i64 2) ∧ w'.cell? ⟨gO, 4, none⟩ = some (.slice (some ⟨g3, 0, none⟩) 1 1) ∧ w'.cell? ⟨gO, 5, none⟩ = some (.int .i64 0) ∧ w'.cell? ⟨gO, 6, none⟩ = some (.string ⟨#[]⟩) ∧ w'.cell? ⟨gO, 7, none⟩ = some (.string ⟨#[]⟩)) (ds := [11]) #[false, false, false, false, false, false, false, false, false, false, false, false, false] (by kernel_rfl) rfl rfl ⟨blk_cell HA5.out 0, blk_cell HA5.out 1, blk_cell HA5.out 2, blk_cell HA5.out 3, blk_cell HC5.out 0, blk_cell HC5.out 1, blk_cell HC5.out 2, blk_cell HC5.out 3, blk_cell HO5.out 0, blk_cell HO5.out 1, blk_cell HO5.out 2, blk_cell HO5.out 3, blk_cell HO5.out 4, blk_cell HO5.out 5, blk_cell HO5.out 6, blk_cell HO5.out 7⟩ (fun hHeld => ?_); refine with_tabW awake4.tab awake4.bits (fun HT_ HW_ => ?_)
  have HA_w6 : Aside0 (w5.drew.heap[w.heap.size]? = _) := ⟨HA5.out⟩
  have HC_w6 : Aside0 (w5.drew.heap[w.heap.size + 1]? = _) := ⟨HC5.out⟩
  have HO_w6 : Aside0 (w5.drew.heap[gO]? = _) := ⟨HO5.out⟩
  have HFR_w6 := Aside0.mk (Kd.F_drew HFR.out)
  have HB_w6 := Aside0.mk (below_drew1 HB5.out)
  clear HA5 HC5 HO5 HFR HB5
  generalize w5.drew = w6 at HA_w6 HC_w6 HO_w6 HFR_w6 HB_w6 hHeld ⊢
  refine pure_ (i := 0) (N := some 18) (v := ?_) (a' := ?_) #[true, false, false, false, false, false, false, false, false, false, false, false, false] rfl rfl (any_of HT_.out (by kernel_rfl)) (fun _ _ _ h => h) (Or.inl ⟨by rfl, ?_⟩) ?_ ?_
  rotate_left
  · intro w'
    go_simp
    with_reducible rfl
  rotate_left
  · simp only [Act.put, List.setIfInBounds_toArray, List.set_cons_zero, List.set_cons_succ, i64_w, i32_w]
    rfl
  refine take_ (i := 1) (N := some 19) (v := ?_) (a' := ?_) #[true, true, false, false, false, false, false, false, false, false, false, false, false] rfl rfl (take_ofW HT_.out HW_.out (by kernel_rfl)) (fun _ _ _ h => h) (Or.inl ⟨by rfl, ?_⟩) hHeld ?_ ?_
  rotate_left
  · rintro w' ⟨s0, s1, s2, s3, s4, s5, s6, s7, s8, s9, s10, s11, s12, s13, s14, s15⟩
    go_simp
    with_reducible rfl
  rotate_left
  · simp only [Act.put, List.setIfInBounds_toArray, List.set_cons_zero, List.set_cons_succ, i64_w, i32_w]
    rfl
  refine take_ (i := 2) (N := some 20) (v := ?_) (a' := ?_) #[true, true, true, false, false, false, false, false, false, false, false, false, false] rfl rfl (take_ofW HT_.out HW_.out (by kernel_rfl)) (fun _ _ _ h => h) (Or.inl ⟨by rfl, ?_⟩) hHeld ?_ ?_
  rotate_left
  · rintro w' ⟨s0, s1, s2, s3, s4, s5, s6, s7, s8, s9, s10, s11, s12, s13, s14, s15⟩
    go_simp
    with_reducible rfl
  rotate_left
  · simp only [Act.put, List.setIfInBounds_toArray, List.set_cons_zero, List.set_cons_succ, i64_w, i32_w]
    rfl
  refine take_ (i := 5) (N := some 23) (v := ?_) (a' := ?_) #[true, true, true, false, false, true, false, false, false, false, false, false, false] rfl rfl (take_ofW HT_.out HW_.out (by kernel_rfl)) (fun _ _ _ h => h) (Or.inl ⟨by rfl, ?_⟩) hHeld ?_ ?_
  rotate_left
  · rintro w' ⟨s0, s1, s2, s3, s4, s5, s6, s7, s8, s9, s10, s11, s12, s13, s14, s15⟩
    go_simp
    with_reducible rfl
  rotate_left
  · simp only [Act.put, List.setIfInBounds_toArray, List.set_cons_zero, List.set_cons_succ, i64_w, i32_w]
    rfl
  refine join_ (σ := Nat × Nat × Option Addr × Nat) 2 #[true, true, true, true, true, true, true, true, true, true, true, false, false] (fun s_ => [(21, .slice (some ⟨s_.1, 0, none⟩) 2 2), (22, .agg #[.int .i64 1, .string ⟨#[]⟩, .int .i64 0, .slice (some ⟨s_.1, 0, none⟩) 2 2]), (24, .tuple #[.agg #[.int .i64 1, .string ⟨#[]⟩, .int .i64 0, .slice s_.2.2.1 1 s_.2.2.2], .int .i64 0]), (17, .tuple #[.agg #[.int .i64 1, .string ⟨#[]⟩, .int .i64 0, .slice s_.2.2.1 1 s_.2.2.2], .int .i64 0]), (25, .agg #[.int .i64 1, .string ⟨#[]⟩, .int .i64 0, .slice s_.2.2.1 1 s_.2.2.2]), (26, .int .i64 0), (5, .pointer (some ⟨s_.2.1, 0, none⟩))]) (fun s_ w' => w'.heap[w.heap.size]? = some (.cells #[.int .i64 2, .string ⟨#[97]⟩, .int .i64 0, .slice none 0 0] 24) ∧ w'.heap[w.heap.size + 1]? = some (.cells #[.int .i64 2, .string ⟨#[98]⟩, .int .i64 0, .slice none 0 0] 24) ∧ w'.heap[s_.2.1]? = some (.cells #[.int .i64 0, .string ⟨#[]⟩, .int .i64 0, .slice none 0 0] 24) ∧ Kd.F k24 w' (fun k => k ≠ s_.2.1) s_.2.2.1 1 treeOut.f3 ∧ 1 ≤ s_.2.2.2 ∧ Below w.heap.size w w' ∧ w.heap.size + 2 ≤ s_.2.1) ?_ ?_
  rotate_left
  · intro hCont
    refine two_ (i := 3) (j := 10) (Ni := some 21) (Nj := some 5) #[true, true, true, true, false, true, false, false, false, false, false, false, false] #[true, true, true, false, false, true, false, false, false, false, true, false, false] rfl rfl rfl rfl (two_of HT_.out (by kernel_rfl)) (by decide) (by decide) (fun K hK => ?_) (fun K hK => ?_)
    · skip
      refine value_ (v := .slice (some ⟨w6.heap.size, 0, none⟩) 2 2) (w1 := (w6.alloc (.cells #[.int .i64 2, .string ⟨#[97]⟩, .int .i64 0, .slice none 0 0, .int .i64 2, .string ⟨#[98]⟩, .int .i64 0, .slice none 0 0] 24))) (by rfl) rfl ?_ ?_
      · go_simp
      refine hK.out _ _ ⟨blk_cell (blk_allocO HA_w6.out _) 0, blk_cell (blk_allocO HA_w6.out _) 1, blk_cell (blk_allocO HA_w6.out _) 2, blk_cell (blk_allocO HA_w6.out _) 3, blk_cell (blk_allocO HC_w6.out _) 0, blk_cell (blk_allocO HC_w6.out _) 1, blk_cell (blk_allocO HC_w6.out _) 2, blk_cell (blk_allocO HC_w6.out _) 3, blk_cell (blk_allocO HO_w6.out _) 0, blk_cell (blk_allocO HO_w6.out _) 1, blk_cell (blk_allocO HO_w6.out _) 2, blk_cell (blk_allocO HO_w6.out _) 3, blk_cell (blk_allocO HO_w6.out _) 4, blk_cell (blk_allocO HO_w6.out _) 5, blk_cell (blk_allocO HO_w6.out _) 6, blk_cell (blk_allocO HO_w6.out _) 7⟩ (fun hHeld => ?_)
      clear hK K
      refine norm_ (a' := ?_) ?_ ?_
      rotate_left
      · show Act.put _ (some 21) _ = _
        simp only [Act.put, List.setIfInBounds_toArray, List.set_cons_zero, List.set_cons_succ, i64_w, i32_w]
        rfl
      have HFA_w7 : Aside0 (Kd.F k24 (w6.alloc (.cells #[.int .i64 2, .string ⟨#[97]⟩, .int .i64 0, .slice none 0 0, .int .i64 2, .string ⟨#[98]⟩, .int .i64 0, .slice none 0 0] 24)) (fun _ => True) (some ⟨w6.heap.size, 0, none⟩) 2 treeIn.f3) := ⟨Kd.F_mono (twoF (W := w6) (x := nodeA) (y := nodeB) (A3 := none) (B3 := none) (c3 := 0) (d3 := 0) (ok := fun _ => True) (Nat.le_refl _) (Kd.F_nil _ _ _) (Nat.le_refl _) (Kd.F_nil _ _ _)) (fun _ _ => trivial)⟩
      have HA_w7 := Aside0.mk (blk_allocO HA_w6.out (.cells #[.int .i64 2, .string ⟨#[97]⟩, .int .i64 0, .slice none 0 0, .int .i64 2, .string ⟨#[98]⟩, .int .i64 0, .slice none 0 0] 24))
      have HC_w7 := Aside0.mk (blk_allocO HC_w6.out (.cells #[.int .i64 2, .string ⟨#[97]⟩, .int .i64 0, .slice none 0 0, .int .i64 2, .string ⟨#[98]⟩, .int .i64 0, .slice none 0 0] 24))
      have HO_w7 := Aside0.mk (blk_allocO HO_w6.out (.cells #[.int .i64 2, .string ⟨#[97]⟩, .int .i64 0, .slice none 0 0, .int .i64 2, .string ⟨#[98]⟩, .int .i64 0, .slice none 0 0] 24))
      have HFR_w7 := Aside0.mk (Kd.F_alloc HFR_w6.out (.cells #[.int .i64 2, .string ⟨#[97]⟩, .int .i64 0, .slice none 0 0, .int .i64 2, .string ⟨#[98]⟩, .int .i64 0, .slice none 0 0] 24))
      have HB_w7 := Aside0.mk (below_alloc HB_w6.out (.cells #[.int .i64 2, .string ⟨#[97]⟩, .int .i64 0, .slice none 0 0, .int .i64 2, .string ⟨#[98]⟩, .int .i64 0, .slice none 0 0] 24))
      clear HA_w6 HC_w6 HO_w6 HFR_w6 HB_w6
      generalize (w6.alloc (.cells #[.int .i64 2, .string ⟨#[97]⟩, .int .i64 0, .slice none 0 0, .int .i64 2, .string ⟨#[98]⟩, .int .i64 0, .slice none 0 0] 24)) = w7 at HA_w7 HC_w7 HO_w7 HFR_w7 HFA_w7 HB_w7 hHeld ⊢
      generalize w6.heap.size = g6 at HFA_w7  ⊢
      refine two_ (i := 4) (j := 10) (Ni := some 22) (Nj := some 5) #[true, true, true, true, true, true, false, false, false, false, false, false, false] #[true, true, true, true, false, true, false, false, false, false, true, false, false] rfl rfl rfl rfl (two_of HT_.out (by kernel_rfl)) (by decide) (by decide) (fun K hK => ?_) (fun K hK => ?_)
      · skip
        refine call_ 24 #[.slice (some ⟨g6, 0, none⟩) 2 2] (by rfl) rfl (by have he_ := fun W_ => enters_ Tryd.func24 (by kernel_rfl) rfl #[.slice (some ⟨g6, 0, none⟩) 2 2] W_; unfold execOp; simp [resolve, Deferred.ofValue, invoke, Act.eval, he_]) ?_
        refine (awakeRow_any 2 (some ⟨g6, 0, none⟩) 2 w7).mono ?_
        rintro e w8 ⟨rfl, hb⟩
        have HA_w8 := Aside0.mk (blk_on HA_w7.out hb)
        have HC_w8 := Aside0.mk (blk_on HC_w7.out hb)
        have HO_w8 := Aside0.mk (blk_on HO_w7.out hb)
        have HFR_w8 := Aside0.mk (Kd.F_below HFR_w7.out hb)
        have HFA_w8 := Aside0.mk (Kd.F_below HFA_w7.out hb)
        have HB_w8 := Aside0.mk (below_then HB_w7.out HB_w7.out.size hb)
        clear hb hHeld HA_w7 HC_w7 HO_w7 HFR_w7 HFA_w7 HB_w7
        refine ⟨_, rfl, ?_⟩
        refine hK.out _ _ ⟨blk_cell HA_w8.out 0, blk_cell HA_w8.out 1, blk_cell HA_w8.out 2, blk_cell HA_w8.out 3, blk_cell HC_w8.out 0, blk_cell HC_w8.out 1, blk_cell HC_w8.out 2, blk_cell HC_w8.out 3, blk_cell HO_w8.out 0, blk_cell HO_w8.out 1, blk_cell HO_w8.out 2, blk_cell HO_w8.out 3, blk_cell HO_w8.out 4, blk_cell HO_w8.out 5, blk_cell HO_w8.out 6, blk_cell HO_w8.out 7⟩ (fun hHeld => ?_)
        clear hK K
        refine norm_ (a' := ?_) ?_ ?_
        rotate_left
        · show Act.put _ (some 22) _ = _
          simp only [Act.put, List.setIfInBounds_toArray, List.set_cons_zero, List.set_cons_succ, i64_w, i32_w]
          rfl
        refine two_ (i := 6) (j := 10) (Ni := some 24) (Nj := some 5) #[true, true, true, true, true, true, true, false, false, false, false, false, false] #[true, true, true, true, true, true, false, false, false, false, true, false, false] rfl rfl rfl rfl (two_of HT_.out (by kernel_rfl)) (by decide) (by decide) (fun K hK => ?_) (fun K hK => ?_)
        · skip
          refine goes_ Tryd.func11 (by kernel_rfl) rfl #[.agg #[.int .i64 1, .string ⟨#[]⟩, .int .i64 0, .slice (some ⟨g6, 0, none⟩) 2 2], .agg #[.int .i64 3, .slice none 0 0, .int .i64 0, .int .i64 2, .slice (some ⟨g3, 0, none⟩) 1 1, .int .i64 0, .string ⟨#[]⟩, .string ⟨#[]⟩]] (by rfl) rfl rfl (by (try simp only [List.map_toArray, List.map_cons, List.map_nil]); first | done | rfl | (simp only [List.length_drop, List.length_take]; rfl)) ?_
          refine (HAP.out w8 g6 g3 (Kd.F_now HFA_w8.out) (Kd.F_now HFR_w8.out)).mono ?_
          rintro e w9 ⟨A9, c9, rfl, hl9, hF9, hb⟩
          have HA_w9 := Aside0.mk (blk_on HA_w8.out hb)
          have HC_w9 := Aside0.mk (blk_on HC_w8.out hb)
          have HO_w9 := Aside0.mk (blk_on HO_w8.out hb)
          have HFR_w9 := Aside0.mk (Kd.F_below HFR_w8.out hb)
          have HFA_w9 := Aside0.mk (Kd.F_below HFA_w8.out hb)
          have HB_w9 := Aside0.mk (below_then HB_w8.out HB_w8.out.size hb)
          have HF9_w9 : Aside0 (Kd.F k24 w9 (fun k => k < w9.heap.size) A9 1 treeOut.f3) := ⟨Kd.F_mono (Kd.F_bound hF9) (fun k hk => hk.2)⟩
          clear hF9
          clear hb hHeld HA_w8 HC_w8 HO_w8 HFR_w8 HFA_w8 HB_w8
          refine ⟨_, rfl, ?_⟩
          refine hK.out _ _ ⟨blk_cell HA_w9.out 0, blk_cell HA_w9.out 1, blk_cell HA_w9.out 2, blk_cell HA_w9.out 3, blk_cell HC_w9.out 0, blk_cell HC_w9.out 1, blk_cell HC_w9.out 2, blk_cell HC_w9.out 3, blk_cell HO_w9.out 0, blk_cell HO_w9.out 1, blk_cell HO_w9.out 2, blk_cell HO_w9.out 3, blk_cell HO_w9.out 4, blk_cell HO_w9.out 5, blk_cell HO_w9.out 6, blk_cell HO_w9.out 7⟩ (fun hHeld => ?_)
          clear hK K
          refine norm_ (a' := ?_) ?_ ?_
          rotate_left
          · show Act.put _ (some 24) _ = _
            simp only [Act.put, List.setIfInBounds_toArray, List.set_cons_zero, List.set_cons_succ, i64_w, i32_w]
            rfl
          refine pure_ (i := 7) (N := some 17) (v := ?_) (a' := ?_) #[true, true, true, true, true, true, true, true, false, false, false, false, false] rfl rfl (any_of HT_.out (by kernel_rfl)) (fun _ _ _ h => h) (Or.inl ⟨by rfl, ?_⟩) ?_ ?_
          rotate_left
          · intro w'
            go_simp
            with_reducible rfl
          rotate_left
          · simp only [Act.put, List.setIfInBounds_toArray, List.set_cons_zero, List.set_cons_succ, i64_w, i32_w]
            rfl
          refine pure_ (i := 8) (N := some 25) (v := ?_) (a' := ?_) #[true, true, true, true, true, true, true, true, true, false, false, false, false] rfl rfl (any_of HT_.out (by kernel_rfl)) (fun _ _ _ h => h) (Or.inl ⟨by rfl, ?_⟩) ?_ ?_
          rotate_left
          · intro w'
            go_simp
            with_reducible rfl
          rotate_left
          · simp only [Act.put, List.setIfInBounds_toArray, List.set_cons_zero, List.set_cons_succ, i64_w, i32_w]
            rfl
          refine pure_ (i := 9) (N := some 26) (v := ?_) (a' := ?_) #[true, true, true, true, true, true, true, true, true, true, false, false, false] rfl rfl (any_of HT_.out (by kernel_rfl)) (fun _ _ _ h => h) (Or.inl ⟨by rfl, ?_⟩) ?_ ?_
          rotate_left
          · intro w'
            go_simp
            with_reducible rfl
          rotate_left
          · simp only [Act.put, List.setIfInBounds_toArray, List.set_cons_zero, List.set_cons_succ, i64_w, i32_w]
            rfl
          refine one_ (i := 10) (N := some 5) #[true, true, true, true, true, true, true, true, true, true, true, false, false] rfl rfl (one_of HT_.out (by kernel_rfl)) (by decide) (fun K hK => ?_)
          refine value_ (v := .pointer (some ⟨w9.heap.size, 0, none⟩)) (w1 := (w9.alloc (.cells #[.int .i64 0, .string ⟨#[]⟩, .int .i64 0, .slice none 0 0] 24))) (by rfl) rfl ?_ ?_
          · go_simp
          refine hK.out _ _ ⟨blk_cell (blk_allocO HA_w9.out _) 0, blk_cell (blk_allocO HA_w9.out _) 1, blk_cell (blk_allocO HA_w9.out _) 2, blk_cell (blk_allocO HA_w9.out _) 3, blk_cell (blk_allocO HC_w9.out _) 0, blk_cell (blk_allocO HC_w9.out _) 1, blk_cell (blk_allocO HC_w9.out _) 2, blk_cell (blk_allocO HC_w9.out _) 3, blk_cell (blk_allocO HO_w9.out _) 0, blk_cell (blk_allocO HO_w9.out _) 1, blk_cell (blk_allocO HO_w9.out _) 2, blk_cell (blk_allocO HO_w9.out _) 3, blk_cell (blk_allocO HO_w9.out _) 4, blk_cell (blk_allocO HO_w9.out _) 5, blk_cell (blk_allocO HO_w9.out _) 6, blk_cell (blk_allocO HO_w9.out _) 7⟩ (fun hHeld => ?_)
          clear hK K
          refine norm_ (a' := ?_) ?_ ?_
          rotate_left
          · show Act.put _ (some 5) _ = _
            simp only [Act.put, List.setIfInBounds_toArray, List.set_cons_zero, List.set_cons_succ, i64_w, i32_w]
            rfl
          have HG_g5 : Aside0 (w.heap.size + 2 ≤ w9.heap.size) := ⟨by have := blk_lt HC_w9.out; omega⟩
          have HZ_w10 : Aside0 ((w9.alloc (.cells #[.int .i64 0, .string ⟨#[]⟩, .int .i64 0, .slice none 0 0] 24)).heap[w9.heap.size]? = some (.cells #[.int .i64 0, .string ⟨#[]⟩, .int .i64 0, .slice none 0 0] 24)) := ⟨heap_alloc_new _ _⟩
          replace HF9_w9 : Aside0 (Kd.F k24 w9 (fun k => k ≠ w9.heap.size) A9 1 treeOut.f3) := ⟨Kd.F_mono HF9_w9.out (fun k hk => Nat.ne_of_lt hk)⟩
          have HA_w10 := Aside0.mk (blk_allocO HA_w9.out (.cells #[.int .i64 0, .string ⟨#[]⟩, .int .i64 0, .slice none 0 0] 24))
          have HC_w10 := Aside0.mk (blk_allocO HC_w9.out (.cells #[.int .i64 0, .string ⟨#[]⟩, .int .i64 0, .slice none 0 0] 24))
          have HO_w10 := Aside0.mk (blk_allocO HO_w9.out (.cells #[.int .i64 0, .string ⟨#[]⟩, .int .i64 0, .slice none 0 0] 24))
          have HFR_w10 := Aside0.mk (Kd.F_alloc HFR_w9.out (.cells #[.int .i64 0, .string ⟨#[]⟩, .int .i64 0, .slice none 0 0] 24))
          have HFA_w10 := Aside0.mk (Kd.F_alloc HFA_w9.out (.cells #[.int .i64 0, .string ⟨#[]⟩, .int .i64 0, .slice none 0 0] 24))
          have HF9_w10 := Aside0.mk (Kd.F_alloc HF9_w9.out (.cells #[.int .i64 0, .string ⟨#[]⟩, .int .i64 0, .slice none 0 0] 24))
          have HB_w10 := Aside0.mk (below_alloc HB_w9.out (.cells #[.int .i64 0, .string ⟨#[]⟩, .int .i64 0, .slice none 0 0] 24))
          clear HA_w9 HC_w9 HO_w9 HFR_w9 HFA_w9 HF9_w9 HB_w9
          generalize (w9.alloc (.cells #[.int .i64 0, .string ⟨#[]⟩, .int .i64 0, .slice none 0 0] 24)) = w10 at HA_w10 HC_w10 HO_w10 HZ_w10 HFR_w10 HFA_w10 HF9_w10 HB_w10 hHeld ⊢
          generalize w9.heap.size = g5 at HZ_w10 HG_g5 HF9_w10 ⊢
          refine norm_ ?_ (hCont (g6, g5, A9, c9) w10 ⟨HA_w10.out, HC_w10.out, HZ_w10.out, HF9_w10.out, hl9, HB_w10.out, HG_g5.out⟩)
          simp only [putAll, Act.put, List.setIfInBounds_toArray, List.set_cons_zero, List.set_cons_succ]
          try rfl
        · skip
          refine value_ (v := .pointer (some ⟨w8.heap.size, 0, none⟩)) (w1 := (w8.alloc (.cells #[.int .i64 0, .string ⟨#[]⟩, .int .i64 0, .slice none 0 0] 24))) (by rfl) rfl ?_ ?_
          · go_simp
          refine hK.out _ _ ⟨blk_cell (blk_allocO HA_w8.out _) 0, blk_cell (blk_allocO HA_w8.out _) 1, blk_cell (blk_allocO HA_w8.out _) 2, blk_cell (blk_allocO HA_w8.out _) 3, blk_cell (blk_allocO HC_w8.out _) 0, blk_cell (blk_allocO HC_w8.out _) 1, blk_cell (blk_allocO HC_w8.out _) 2, blk_cell (blk_allocO HC_w8.out _) 3, blk_cell (blk_allocO HO_w8.out _) 0, blk_cell (blk_allocO HO_w8.out _) 1, blk_cell (blk_allocO HO_w8.out _) 2, blk_cell (blk_allocO HO_w8.out _) 3, blk_cell (blk_allocO HO_w8.out _) 4, blk_cell (blk_allocO HO_w8.out _) 5, blk_cell (blk_allocO HO_w8.out _) 6, blk_cell (blk_allocO HO_w8.out _) 7⟩ (fun hHeld => ?_)
          clear hK K
          refine norm_ (a' := ?_) ?_ ?_
          rotate_left
          · show Act.put _ (some 5) _ = _
            simp only [Act.put, List.setIfInBounds_toArray, List.set_cons_zero, List.set_cons_succ, i64_w, i32_w]
            rfl
          have HG_g5 : Aside0 (w.heap.size + 2 ≤ w8.heap.size) := ⟨by have := blk_lt HC_w8.out; omega⟩
          have HZ_w11 : Aside0 ((w8.alloc (.cells #[.int .i64 0, .string ⟨#[]⟩, .int .i64 0, .slice none 0 0] 24)).heap[w8.heap.size]? = some (.cells #[.int .i64 0, .string ⟨#[]⟩, .int .i64 0, .slice none 0 0] 24)) := ⟨heap_alloc_new _ _⟩
          have HA_w11 := Aside0.mk (blk_allocO HA_w8.out (.cells #[.int .i64 0, .string ⟨#[]⟩, .int .i64 0, .slice none 0 0] 24))
          have HC_w11 := Aside0.mk (blk_allocO HC_w8.out (.cells #[.int .i64 0, .string ⟨#[]⟩, .int .i64 0, .slice none 0 0] 24))
          have HO_w11 := Aside0.mk (blk_allocO HO_w8.out (.cells #[.int .i64 0, .string ⟨#[]⟩, .int .i64 0, .slice none 0 0] 24))
          have HFR_w11 := Aside0.mk (Kd.F_alloc HFR_w8.out (.cells #[.int .i64 0, .string ⟨#[]⟩, .int .i64 0, .slice none 0 0] 24))
          have HFA_w11 := Aside0.mk (Kd.F_alloc HFA_w8.out (.cells #[.int .i64 0, .string ⟨#[]⟩, .int .i64 0, .slice none 0 0] 24))
          have HB_w11 := Aside0.mk (below_alloc HB_w8.out (.cells #[.int .i64 0, .string ⟨#[]⟩, .int .i64 0, .slice none 0 0] 24))
          clear HA_w8 HC_w8 HO_w8 HFR_w8 HFA_w8 HB_w8
          generalize (w8.alloc (.cells #[.int .i64 0, .string ⟨#[]⟩, .int .i64 0, .slice none 0 0] 24)) = w11 at HA_w11 HC_w11 HO_w11 HZ_w11 HFR_w11 HFA_w11 HB_w11 hHeld ⊢
          generalize w8.heap.size = g5 at HZ_w11 HG_g5 ⊢
          refine one_ (i := 6) (N := some 24) #[true, true, true, true, true, true, true, false, false, false, true, false, false] rfl rfl (one_of HT_.out (by kernel_rfl)) (by decide) (fun K hK => ?_)
          refine goes_ Tryd.func11 (by kernel_rfl) rfl #[.agg #[.int .i64 1, .string ⟨#[]⟩, .int .i64 0, .slice (some ⟨g6, 0, none⟩) 2 2], .agg #[.int .i64 3, .slice none 0 0, .int .i64 0, .int .i64 2, .slice (some ⟨g3, 0, none⟩) 1 1, .int .i64 0, .string ⟨#[]⟩, .string ⟨#[]⟩]] (by rfl) rfl rfl (by (try simp only [List.map_toArray, List.map_cons, List.map_nil]); first | done | rfl | (simp only [List.length_drop, List.length_take]; rfl)) ?_
          refine (HAP.out w11 g6 g3 (Kd.F_now HFA_w11.out) (Kd.F_now HFR_w11.out)).mono ?_
          rintro e w12 ⟨A9, c9, rfl, hl9, hF9, hb⟩
          have HA_w12 := Aside0.mk (blk_on HA_w11.out hb)
          have HC_w12 := Aside0.mk (blk_on HC_w11.out hb)
          have HO_w12 := Aside0.mk (blk_on HO_w11.out hb)
          have HZ_w12 := Aside0.mk (blk_on HZ_w11.out hb)
          have HFR_w12 := Aside0.mk (Kd.F_below HFR_w11.out hb)
          have HFA_w12 := Aside0.mk (Kd.F_below HFA_w11.out hb)
          have HB_w12 := Aside0.mk (below_then HB_w11.out HB_w11.out.size hb)
          have HF9_w12 : Aside0 (Kd.F k24 w12 (fun k => k ≠ g5) A9 1 treeOut.f3) := ⟨Kd.F_mono hF9 (fun k hk => by have := blk_lt HZ_w11.out; omega)⟩
          clear hF9
          clear hb hHeld HA_w11 HC_w11 HO_w11 HZ_w11 HFR_w11 HFA_w11 HB_w11
          refine ⟨_, rfl, ?_⟩
          refine hK.out _ _ ⟨blk_cell HA_w12.out 0, blk_cell HA_w12.out 1, blk_cell HA_w12.out 2, blk_cell HA_w12.out 3, blk_cell HC_w12.out 0, blk_cell HC_w12.out 1, blk_cell HC_w12.out 2, blk_cell HC_w12.out 3, blk_cell HO_w12.out 0, blk_cell HO_w12.out 1, blk_cell HO_w12.out 2, blk_cell HO_w12.out 3, blk_cell HO_w12.out 4, blk_cell HO_w12.out 5, blk_cell HO_w12.out 6, blk_cell HO_w12.out 7⟩ (fun hHeld => ?_)
          clear hK K
          refine norm_ (a' := ?_) ?_ ?_
          rotate_left
          · show Act.put _ (some 24) _ = _
            simp only [Act.put, List.setIfInBounds_toArray, List.set_cons_zero, List.set_cons_succ, i64_w, i32_w]
            rfl
          refine pure_ (i := 7) (N := some 17) (v := ?_) (a' := ?_) #[true, true, true, true, true, true, true, true, false, false, true, false, false] rfl rfl (any_of HT_.out (by kernel_rfl)) (fun _ _ _ h => h) (Or.inl ⟨by rfl, ?_⟩) ?_ ?_
          rotate_left
          · intro w'
            go_simp
            with_reducible rfl
          rotate_left
          · simp only [Act.put, List.setIfInBounds_toArray, List.set_cons_zero, List.set_cons_succ, i64_w, i32_w]
            rfl
          refine pure_ (i := 8) (N := some 25) (v := ?_) (a' := ?_) #[true, true, true, true, true, true, true, true, true, false, true, false, false] rfl rfl (any_of HT_.out (by kernel_rfl)) (fun _ _ _ h => h) (Or.inl ⟨by rfl, ?_⟩) ?_ ?_
          rotate_left
          · intro w'
            go_simp
            with_reducible rfl
          rotate_left
          · simp only [Act.put, List.setIfInBounds_toArray, List.set_cons_zero, List.set_cons_succ, i64_w, i32_w]
            rfl
          refine pure_ (i := 9) (N := some 26) (v := ?_) (a' := ?_) #[true, true, true, true, true, true, true, true, true, true, true, false, false] rfl rfl (any_of HT_.out (by kernel_rfl)) (fun _ _ _ h => h) (Or.inl ⟨by rfl, ?_⟩) ?_ ?_
          rotate_left
          · intro w'
            go_simp
            with_reducible rfl
          rotate_left
          · simp only [Act.put, List.setIfInBounds_toArray, List.set_cons_zero, List.set_cons_succ, i64_w, i32_w]
            rfl
          refine norm_ ?_ (hCont (g6, g5, A9, c9) w12 ⟨HA_w12.out, HC_w12.out, HZ_w12.out, HF9_w12.out, hl9, HB_w12.out, HG_g5.out⟩)
          simp only [putAll, Act.put, List.setIfInBounds_toArray, List.set_cons_zero, List.set_cons_succ]
          try rfl
      · skip
        refine value_ (v := .pointer (some ⟨w7.heap.size, 0, none⟩)) (w1 := (w7.alloc (.cells #[.int .i64 0, .string ⟨#[]⟩, .int .i64 0, .slice none 0 0] 24))) (by rfl) rfl ?_ ?_
        · go_simp
        refine hK.out _ _ ⟨blk_cell (blk_allocO HA_w7.out _) 0, blk_cell (blk_allocO HA_w7.out _) 1, blk_cell (blk_allocO HA_w7.out _) 2, blk_cell (blk_allocO HA_w7.out _) 3, blk_cell (blk_allocO HC_w7.out _) 0, blk_cell (blk_allocO HC_w7.out _) 1, blk_cell (blk_allocO HC_w7.out _) 2, blk_cell (blk_allocO HC_w7.out _) 3, blk_cell (blk_allocO HO_w7.out _) 0, blk_cell (blk_allocO HO_w7.out _) 1, blk_cell (blk_allocO HO_w7.out _) 2, blk_cell (blk_allocO HO_w7.out _) 3, blk_cell (blk_allocO HO_w7.out _) 4, blk_cell (blk_allocO HO_w7.out _) 5, blk_cell (blk_allocO HO_w7.out _) 6, blk_cell (blk_allocO HO_w7.out _) 7⟩ (fun hHeld => ?_)
        clear hK K
        refine norm_ (a' := ?_) ?_ ?_
        rotate_left
        · show Act.put _ (some 5) _ = _
          simp only [Act.put, List.setIfInBounds_toArray, List.set_cons_zero, List.set_cons_succ, i64_w, i32_w]
          rfl
        have HG_g5 : Aside0 (w.heap.size + 2 ≤ w7.heap.size) := ⟨by have := blk_lt HC_w7.out; omega⟩
        have HZ_w13 : Aside0 ((w7.alloc (.cells #[.int .i64 0, .string ⟨#[]⟩, .int .i64 0, .slice none 0 0] 24)).heap[w7.heap.size]? = some (.cells #[.int .i64 0, .string ⟨#[]⟩, .int .i64 0, .slice none 0 0] 24)) := ⟨heap_alloc_new _ _⟩
        have HA_w13 := Aside0.mk (blk_allocO HA_w7.out (.cells #[.int .i64 0, .string ⟨#[]⟩, .int .i64 0, .slice none 0 0] 24))
        have HC_w13 := Aside0.mk (blk_allocO HC_w7.out (.cells #[.int .i64 0, .string ⟨#[]⟩, .int .i64 0, .slice none 0 0] 24))
        have HO_w13 := Aside0.mk (blk_allocO HO_w7.out (.cells #[.int .i64 0, .string ⟨#[]⟩, .int .i64 0, .slice none 0 0] 24))
        have HFR_w13 := Aside0.mk (Kd.F_alloc HFR_w7.out (.cells #[.int .i64 0, .string ⟨#[]⟩, .int .i64 0, .slice none 0 0] 24))
        have HFA_w13 := Aside0.mk (Kd.F_alloc HFA_w7.out (.cells #[.int .i64 0, .string ⟨#[]⟩, .int .i64 0, .slice none 0 0] 24))
        have HB_w13 := Aside0.mk (below_alloc HB_w7.out (.cells #[.int .i64 0, .string ⟨#[]⟩, .int .i64 0, .slice none 0 0] 24))
        clear HA_w7 HC_w7 HO_w7 HFR_w7 HFA_w7 HB_w7
        generalize (w7.alloc (.cells #[.int .i64 0, .string ⟨#[]⟩, .int .i64 0, .slice none 0 0] 24)) = w13 at HA_w13 HC_w13 HO_w13 HZ_w13 HFR_w13 HFA_w13 HB_w13 hHeld ⊢
        generalize w7.heap.size = g5 at HZ_w13 HG_g5 ⊢
        refine one_ (i := 4) (N := some 22) #[true, true, true, true, true, true, false, false, false, false, true, false, false] rfl rfl (one_of HT_.out (by kernel_rfl)) (by decide) (fun K hK => ?_)
        refine call_ 24 #[.slice (some ⟨g6, 0, none⟩) 2 2] (by rfl) rfl (by have he_ := fun W_ => enters_ Tryd.func24 (by kernel_rfl) rfl #[.slice (some ⟨g6, 0, none⟩) 2 2] W_; unfold execOp; simp [resolve, Deferred.ofValue, invoke, Act.eval, he_]) ?_
        refine (awakeRow_any 2 (some ⟨g6, 0, none⟩) 2 w13).mono ?_
        rintro e w14 ⟨rfl, hb⟩
        have HA_w14 := Aside0.mk (blk_on HA_w13.out hb)
        have HC_w14 := Aside0.mk (blk_on HC_w13.out hb)
        have HO_w14 := Aside0.mk (blk_on HO_w13.out hb)
        have HZ_w14 := Aside0.mk (blk_on HZ_w13.out hb)
        have HFR_w14 := Aside0.mk (Kd.F_below HFR_w13.out hb)
        have HFA_w14 := Aside0.mk (Kd.F_below HFA_w13.out hb)
        have HB_w14 := Aside0.mk (below_then HB_w13.out HB_w13.out.size hb)
        clear hb hHeld HA_w13 HC_w13 HO_w13 HZ_w13 HFR_w13 HFA_w13 HB_w13
        refine ⟨_, rfl, ?_⟩
        refine hK.out _ _ ⟨blk_cell HA_w14.out 0, blk_cell HA_w14.out 1, blk_cell HA_w14.out 2, blk_cell HA_w14.out 3, blk_cell HC_w14.out 0, blk_cell HC_w14.out 1, blk_cell HC_w14.out 2, blk_cell HC_w14.out 3, blk_cell HO_w14.out 0, blk_cell HO_w14.out 1, blk_cell HO_w14.out 2, blk_cell HO_w14.out 3, blk_cell HO_w14.out 4, blk_cell HO_w14.out 5, blk_cell HO_w14.out 6, blk_cell HO_w14.out 7⟩ (fun hHeld => ?_)
        clear hK K
        refine norm_ (a' := ?_) ?_ ?_
        rotate_left
        · show Act.put _ (some 22) _ = _
          simp only [Act.put, List.setIfInBounds_toArray, List.set_cons_zero, List.set_cons_succ, i64_w, i32_w]
          rfl
        refine one_ (i := 6) (N := some 24) #[true, true, true, true, true, true, true, false, false, false, true, false, false] rfl rfl (one_of HT_.out (by kernel_rfl)) (by decide) (fun K hK => ?_)
        refine goes_ Tryd.func11 (by kernel_rfl) rfl #[.agg #[.int .i64 1, .string ⟨#[]⟩, .int .i64 0, .slice (some ⟨g6, 0, none⟩) 2 2], .agg #[.int .i64 3, .slice none 0 0, .int .i64 0, .int .i64 2, .slice (some ⟨g3, 0, none⟩) 1 1, .int .i64 0, .string ⟨#[]⟩, .string ⟨#[]⟩]] (by rfl) rfl rfl (by (try simp only [List.map_toArray, List.map_cons, List.map_nil]); first | done | rfl | (simp only [List.length_drop, List.length_take]; rfl)) ?_
        refine (HAP.out w14 g6 g3 (Kd.F_now HFA_w14.out) (Kd.F_now HFR_w14.out)).mono ?_
        rintro e w15 ⟨A9, c9, rfl, hl9, hF9, hb⟩
        have HA_w15 := Aside0.mk (blk_on HA_w14.out hb)
        have HC_w15 := Aside0.mk (blk_on HC_w14.out hb)
        have HO_w15 := Aside0.mk (blk_on HO_w14.out hb)
        have HZ_w15 := Aside0.mk (blk_on HZ_w14.out hb)
        have HFR_w15 := Aside0.mk (Kd.F_below HFR_w14.out hb)
        have HFA_w15 := Aside0.mk (Kd.F_below HFA_w14.out hb)
        have HB_w15 := Aside0.mk (below_then HB_w14.out HB_w14.out.size hb)
        have HF9_w15 : Aside0 (Kd.F k24 w15 (fun k => k ≠ g5) A9 1 treeOut.f3) := ⟨Kd.F_mono hF9 (fun k hk => by have := blk_lt HZ_w14.out; omega)⟩
        clear hF9
        clear hb hHeld HA_w14 HC_w14 HO_w14 HZ_w14 HFR_w14 HFA_w14 HB_w14
        refine ⟨_, rfl, ?_⟩
        refine hK.out _ _ ⟨blk_cell HA_w15.out 0, blk_cell HA_w15.out 1, blk_cell HA_w15.out 2, blk_cell HA_w15.out 3, blk_cell HC_w15.out 0, blk_cell HC_w15.out 1, blk_cell HC_w15.out 2, blk_cell HC_w15.out 3, blk_cell HO_w15.out 0, blk_cell HO_w15.out 1, blk_cell HO_w15.out 2, blk_cell HO_w15.out 3, blk_cell HO_w15.out 4, blk_cell HO_w15.out 5, blk_cell HO_w15.out 6, blk_cell HO_w15.out 7⟩ (fun hHeld => ?_)
        clear hK K
        refine norm_ (a' := ?_) ?_ ?_
        rotate_left
        · show Act.put _ (some 24) _ = _
          simp only [Act.put, List.setIfInBounds_toArray, List.set_cons_zero, List.set_cons_succ, i64_w, i32_w]
          rfl
        refine pure_ (i := 7) (N := some 17) (v := ?_) (a' := ?_) #[true, true, true, true, true, true, true, true, false, false, true, false, false] rfl rfl (any_of HT_.out (by kernel_rfl)) (fun _ _ _ h => h) (Or.inl ⟨by rfl, ?_⟩) ?_ ?_
        rotate_left
        · intro w'
          go_simp
          with_reducible rfl
        rotate_left
        · simp only [Act.put, List.setIfInBounds_toArray, List.set_cons_zero, List.set_cons_succ, i64_w, i32_w]
          rfl
        refine pure_ (i := 8) (N := some 25) (v := ?_) (a' := ?_) #[true, true, true, true, true, true, true, true, true, false, true, false, false] rfl rfl (any_of HT_.out (by kernel_rfl)) (fun _ _ _ h => h) (Or.inl ⟨by rfl, ?_⟩) ?_ ?_
        rotate_left
        · intro w'
          go_simp
          with_reducible rfl
        rotate_left
        · simp only [Act.put, List.setIfInBounds_toArray, List.set_cons_zero, List.set_cons_succ, i64_w, i32_w]
          rfl
        refine pure_ (i := 9) (N := some 26) (v := ?_) (a' := ?_) #[true, true, true, true, true, true, true, true, true, true, true, false, false] rfl rfl (any_of HT_.out (by kernel_rfl)) (fun _ _ _ h => h) (Or.inl ⟨by rfl, ?_⟩) ?_ ?_
        rotate_left
        · intro w'
          go_simp
          with_reducible rfl
        rotate_left
        · simp only [Act.put, List.setIfInBounds_toArray, List.set_cons_zero, List.set_cons_succ, i64_w, i32_w]
          rfl
        refine norm_ ?_ (hCont (g6, g5, A9, c9) w15 ⟨HA_w15.out, HC_w15.out, HZ_w15.out, HF9_w15.out, hl9, HB_w15.out, HG_g5.out⟩)
        simp only [putAll, Act.put, List.setIfInBounds_toArray, List.set_cons_zero, List.set_cons_succ]
        try rfl
    · skip
      refine value_ (v := .pointer (some ⟨w6.heap.size, 0, none⟩)) (w1 := (w6.alloc (.cells #[.int .i64 0, .string ⟨#[]⟩, .int .i64 0, .slice none 0 0] 24))) (by rfl) rfl ?_ ?_
      · go_simp
      refine hK.out _ _ ⟨blk_cell (blk_allocO HA_w6.out _) 0, blk_cell (blk_allocO HA_w6.out _) 1, blk_cell (blk_allocO HA_w6.out _) 2, blk_cell (blk_allocO HA_w6.out _) 3, blk_cell (blk_allocO HC_w6.out _) 0, blk_cell (blk_allocO HC_w6.out _) 1, blk_cell (blk_allocO HC_w6.out _) 2, blk_cell (blk_allocO HC_w6.out _) 3, blk_cell (blk_allocO HO_w6.out _) 0, blk_cell (blk_allocO HO_w6.out _) 1, blk_cell (blk_allocO HO_w6.out _) 2, blk_cell (blk_allocO HO_w6.out _) 3, blk_cell (blk_allocO HO_w6.out _) 4, blk_cell (blk_allocO HO_w6.out _) 5, blk_cell (blk_allocO HO_w6.out _) 6, blk_cell (blk_allocO HO_w6.out _) 7⟩ (fun hHeld => ?_)
      clear hK K
      refine norm_ (a' := ?_) ?_ ?_
      rotate_left
      · show Act.put _ (some 5) _ = _
        simp only [Act.put, List.setIfInBounds_toArray, List.set_cons_zero, List.set_cons_succ, i64_w, i32_w]
        rfl
      have HG_g5 : Aside0 (w.heap.size + 2 ≤ w6.heap.size) := ⟨by have := blk_lt HC_w6.out; omega⟩
      have HZ_w16 : Aside0 ((w6.alloc (.cells #[.int .i64 0, .string ⟨#[]⟩, .int .i64 0, .slice none 0 0] 24)).heap[w6.heap.size]? = some (.cells #[.int .i64 0, .string ⟨#[]⟩, .int .i64 0, .slice none 0 0] 24)) := ⟨heap_alloc_new _ _⟩
      have HA_w16 := Aside0.mk (blk_allocO HA_w6.out (.cells #[.int .i64 0, .string ⟨#[]⟩, .int .i64 0, .slice none 0 0] 24))
      have HC_w16 := Aside0.mk (blk_allocO HC_w6.out (.cells #[.int .i64 0, .string ⟨#[]⟩, .int .i64 0, .slice none 0 0] 24))
      have HO_w16 := Aside0.mk (blk_allocO HO_w6.out (.cells #[.int .i64 0, .string ⟨#[]⟩, .int .i64 0, .slice none 0 0] 24))
      have HFR_w16 := Aside0.mk (Kd.F_alloc HFR_w6.out (.cells #[.int .i64 0, .string ⟨#[]⟩, .int .i64 0, .slice none 0 0] 24))
      have HB_w16 := Aside0.mk (below_alloc HB_w6.out (.cells #[.int .i64 0, .string ⟨#[]⟩, .int .i64 0, .slice none 0 0] 24))
      clear HA_w6 HC_w6 HO_w6 HFR_w6 HB_w6
      generalize (w6.alloc (.cells #[.int .i64 0, .string ⟨#[]⟩, .int .i64 0, .slice none 0 0] 24)) = w16 at HA_w16 HC_w16 HO_w16 HZ_w16 HFR_w16 HB_w16 hHeld ⊢
      generalize w6.heap.size = g5 at HZ_w16 HG_g5 ⊢
      refine one_ (i := 3) (N := some 21) #[true, true, true, true, false, true, false, false, false, false, true, false, false] rfl rfl (one_of HT_.out (by kernel_rfl)) (by decide) (fun K hK => ?_)
      refine value_ (v := .slice (some ⟨w16.heap.size, 0, none⟩) 2 2) (w1 := (w16.alloc (.cells #[.int .i64 2, .string ⟨#[97]⟩, .int .i64 0, .slice none 0 0, .int .i64 2, .string ⟨#[98]⟩, .int .i64 0, .slice none 0 0] 24))) (by rfl) rfl ?_ ?_
      · go_simp
      refine hK.out _ _ ⟨blk_cell (blk_allocO HA_w16.out _) 0, blk_cell (blk_allocO HA_w16.out _) 1, blk_cell (blk_allocO HA_w16.out _) 2, blk_cell (blk_allocO HA_w16.out _) 3, blk_cell (blk_allocO HC_w16.out _) 0, blk_cell (blk_allocO HC_w16.out _) 1, blk_cell (blk_allocO HC_w16.out _) 2, blk_cell (blk_allocO HC_w16.out _) 3, blk_cell (blk_allocO HO_w16.out _) 0, blk_cell (blk_allocO HO_w16.out _) 1, blk_cell (blk_allocO HO_w16.out _) 2, blk_cell (blk_allocO HO_w16.out _) 3, blk_cell (blk_allocO HO_w16.out _) 4, blk_cell (blk_allocO HO_w16.out _) 5, blk_cell (blk_allocO HO_w16.out _) 6, blk_cell (blk_allocO HO_w16.out _) 7⟩ (fun hHeld => ?_)
      clear hK K
      refine norm_ (a' := ?_) ?_ ?_
      rotate_left
      · show Act.put _ (some 21) _ = _
        simp only [Act.put, List.setIfInBounds_toArray, List.set_cons_zero, List.set_cons_succ, i64_w, i32_w]
        rfl
      have HFA_w17 : Aside0 (Kd.F k24 (w16.alloc (.cells #[.int .i64 2, .string ⟨#[97]⟩, .int .i64 0, .slice none 0 0, .int .i64 2, .string ⟨#[98]⟩, .int .i64 0, .slice none 0 0] 24)) (fun _ => True) (some ⟨w16.heap.size, 0, none⟩) 2 treeIn.f3) := ⟨Kd.F_mono (twoF (W := w16) (x := nodeA) (y := nodeB) (A3 := none) (B3 := none) (c3 := 0) (d3 := 0) (ok := fun _ => True) (Nat.le_refl _) (Kd.F_nil _ _ _) (Nat.le_refl _) (Kd.F_nil _ _ _)) (fun _ _ => trivial)⟩
      have HA_w17 := Aside0.mk (blk_allocO HA_w16.out (.cells #[.int .i64 2, .string ⟨#[97]⟩, .int .i64 0, .slice none 0 0, .int .i64 2, .string ⟨#[98]⟩, .int .i64 0, .slice none 0 0] 24))
      have HC_w17 := Aside0.mk (blk_allocO HC_w16.out (.cells #[.int .i64 2, .string ⟨#[97]⟩, .int .i64 0, .slice none 0 0, .int .i64 2, .string ⟨#[98]⟩, .int .i64 0, .slice none 0 0] 24))
      have HO_w17 := Aside0.mk (blk_allocO HO_w16.out (.cells #[.int .i64 2, .string ⟨#[97]⟩, .int .i64 0, .slice none 0 0, .int .i64 2, .string ⟨#[98]⟩, .int .i64 0, .slice none 0 0] 24))
      have HZ_w17 := Aside0.mk (blk_allocO HZ_w16.out (.cells #[.int .i64 2, .string ⟨#[97]⟩, .int .i64 0, .slice none 0 0, .int .i64 2, .string ⟨#[98]⟩, .int .i64 0, .slice none 0 0] 24))
      have HFR_w17 := Aside0.mk (Kd.F_alloc HFR_w16.out (.cells #[.int .i64 2, .string ⟨#[97]⟩, .int .i64 0, .slice none 0 0, .int .i64 2, .string ⟨#[98]⟩, .int .i64 0, .slice none 0 0] 24))
      have HB_w17 := Aside0.mk (below_alloc HB_w16.out (.cells #[.int .i64 2, .string ⟨#[97]⟩, .int .i64 0, .slice none 0 0, .int .i64 2, .string ⟨#[98]⟩, .int .i64 0, .slice none 0 0] 24))
      clear HA_w16 HC_w16 HO_w16 HZ_w16 HFR_w16 HB_w16
      generalize (w16.alloc (.cells #[.int .i64 2, .string ⟨#[97]⟩, .int .i64 0, .slice none 0 0, .int .i64 2, .string ⟨#[98]⟩, .int .i64 0, .slice none 0 0] 24)) = w17 at HA_w17 HC_w17 HO_w17 HZ_w17 HFR_w17 HFA_w17 HB_w17 hHeld ⊢
      generalize w16.heap.size = g6 at HFA_w17  ⊢
      refine one_ (i := 4) (N := some 22) #[true, true, true, true, true, true, false, false, false, false, true, false, false] rfl rfl (one_of HT_.out (by kernel_rfl)) (by decide) (fun K hK => ?_)
      refine call_ 24 #[.slice (some ⟨g6, 0, none⟩) 2 2] (by rfl) rfl (by have he_ := fun W_ => enters_ Tryd.func24 (by kernel_rfl) rfl #[.slice (some ⟨g6, 0, none⟩) 2 2] W_; unfold execOp; simp [resolve, Deferred.ofValue, invoke, Act.eval, he_]) ?_
      refine (awakeRow_any 2 (some ⟨g6, 0, none⟩) 2 w17).mono ?_
      rintro e w18 ⟨rfl, hb⟩
      have HA_w18 := Aside0.mk (blk_on HA_w17.out hb)
      have HC_w18 := Aside0.mk (blk_on HC_w17.out hb)
      have HO_w18 := Aside0.mk (blk_on HO_w17.out hb)
      have HZ_w18 := Aside0.mk (blk_on HZ_w17.out hb)
      have HFR_w18 := Aside0.mk (Kd.F_below HFR_w17.out hb)
      have HFA_w18 := Aside0.mk (Kd.F_below HFA_w17.out hb)
      have HB_w18 := Aside0.mk (below_then HB_w17.out HB_w17.out.size hb)
      clear hb hHeld HA_w17 HC_w17 HO_w17 HZ_w17 HFR_w17 HFA_w17 HB_w17
      refine ⟨_, rfl, ?_⟩
      refine hK.out _ _ ⟨blk_cell HA_w18.out 0, blk_cell HA_w18.out 1, blk_cell HA_w18.out 2, blk_cell HA_w18.out 3, blk_cell HC_w18.out 0, blk_cell HC_w18.out 1, blk_cell HC_w18.out 2, blk_cell HC_w18.out 3, blk_cell HO_w18.out 0, blk_cell HO_w18.out 1, blk_cell HO_w18.out 2, blk_cell HO_w18.out 3, blk_cell HO_w18.out 4, blk_cell HO_w18.out 5, blk_cell HO_w18.out 6, blk_cell HO_w18.out 7⟩ (fun hHeld => ?_)
      clear hK K
      refine norm_ (a' := ?_) ?_ ?_
      rotate_left
      · show Act.put _ (some 22) _ = _
        simp only [Act.put, List.setIfInBounds_toArray, List.set_cons_zero, List.set_cons_succ, i64_w, i32_w]
        rfl
      refine one_ (i := 6) (N := some 24) #[true, true, true, true, true, true, true, false, false, false, true, false, false] rfl rfl (one_of HT_.out (by kernel_rfl)) (by decide) (fun K hK => ?_)
      refine goes_ Tryd.func11 (by kernel_rfl) rfl #[.agg #[.int .i64 1, .string ⟨#[]⟩, .int .i64 0, .slice (some ⟨g6, 0, none⟩) 2 2], .agg #[.int .i64 3, .slice none 0 0, .int .i64 0, .int .i64 2, .slice (some ⟨g3, 0, none⟩) 1 1, .int .i64 0, .string ⟨#[]⟩, .string ⟨#[]⟩]] (by rfl) rfl rfl (by (try simp only [List.map_toArray, List.map_cons, List.map_nil]); first | done | rfl | (simp only [List.length_drop, List.length_take]; rfl)) ?_
      refine (HAP.out w18 g6 g3 (Kd.F_now HFA_w18.out) (Kd.F_now HFR_w18.out)).mono ?_
      rintro e w19 ⟨A9, c9, rfl, hl9, hF9, hb⟩
      have HA_w19 := Aside0.mk (blk_on HA_w18.out hb)
      have HC_w19 := Aside0.mk (blk_on HC_w18.out hb)
      have HO_w19 := Aside0.mk (blk_on HO_w18.out hb)
      have HZ_w19 := Aside0.mk (blk_on HZ_w18.out hb)
      have HFR_w19 := Aside0.mk (Kd.F_below HFR_w18.out hb)
      have HFA_w19 := Aside0.mk (Kd.F_below HFA_w18.out hb)
      have HB_w19 := Aside0.mk (below_then HB_w18.out HB_w18.out.size hb)
      have HF9_w19 : Aside0 (Kd.F k24 w19 (fun k => k ≠ g5) A9 1 treeOut.f3) := ⟨Kd.F_mono hF9 (fun k hk => by have := blk_lt HZ_w18.out; omega)⟩
      clear hF9
      clear hb hHeld HA_w18 HC_w18 HO_w18 HZ_w18 HFR_w18 HFA_w18 HB_w18
      refine ⟨_, rfl, ?_⟩
      refine hK.out _ _ ⟨blk_cell HA_w19.out 0, blk_cell HA_w19.out 1, blk_cell HA_w19.out 2, blk_cell HA_w19.out 3, blk_cell HC_w19.out 0, blk_cell HC_w19.out 1, blk_cell HC_w19.out 2, blk_cell HC_w19.out 3, blk_cell HO_w19.out 0, blk_cell HO_w19.out 1, blk_cell HO_w19.out 2, blk_cell HO_w19.out 3, blk_cell HO_w19.out 4, blk_cell HO_w19.out 5, blk_cell HO_w19.out 6, blk_cell HO_w19.out 7⟩ (fun hHeld => ?_)
      clear hK K
      refine norm_ (a' := ?_) ?_ ?_
      rotate_left
      · show Act.put _ (some 24) _ = _
        simp only [Act.put, List.setIfInBounds_toArray, List.set_cons_zero, List.set_cons_succ, i64_w, i32_w]
        rfl
      refine pure_ (i := 7) (N := some 17) (v := ?_) (a' := ?_) #[true, true, true, true, true, true, true, true, false, false, true, false, false] rfl rfl (any_of HT_.out (by kernel_rfl)) (fun _ _ _ h => h) (Or.inl ⟨by rfl, ?_⟩) ?_ ?_
      rotate_left
      · intro w'
        go_simp
        with_reducible rfl
      rotate_left
      · simp only [Act.put, List.setIfInBounds_toArray, List.set_cons_zero, List.set_cons_succ, i64_w, i32_w]
        rfl
      refine pure_ (i := 8) (N := some 25) (v := ?_) (a' := ?_) #[true, true, true, true, true, true, true, true, true, false, true, false, false] rfl rfl (any_of HT_.out (by kernel_rfl)) (fun _ _ _ h => h) (Or.inl ⟨by rfl, ?_⟩) ?_ ?_
      rotate_left
      · intro w'
        go_simp
        with_reducible rfl
      rotate_left
      · simp only [Act.put, List.setIfInBounds_toArray, List.set_cons_zero, List.set_cons_succ, i64_w, i32_w]
        rfl
      refine pure_ (i := 9) (N := some 26) (v := ?_) (a' := ?_) #[true, true, true, true, true, true, true, true, true, true, true, false, false] rfl rfl (any_of HT_.out (by kernel_rfl)) (fun _ _ _ h => h) (Or.inl ⟨by rfl, ?_⟩) ?_ ?_
      rotate_left
      · intro w'
        go_simp
        with_reducible rfl
      rotate_left
      · simp only [Act.put, List.setIfInBounds_toArray, List.set_cons_zero, List.set_cons_succ, i64_w, i32_w]
        rfl
      refine norm_ ?_ (hCont (g6, g5, A9, c9) w19 ⟨HA_w19.out, HC_w19.out, HZ_w19.out, HF9_w19.out, hl9, HB_w19.out, HG_g5.out⟩)
      simp only [putAll, Act.put, List.setIfInBounds_toArray, List.set_cons_zero, List.set_cons_succ]
      try rfl
  rintro ⟨g6, g5, A9, c9⟩ w30 ⟨hA, hC, hZ, hF, hl, hB, hG⟩
  simp only at hZ hF hl hG
  refine norm_ (a' := ?_) ?_ ?_
  rotate_left
  · simp only [putAll, Act.put, List.setIfInBounds_toArray, List.set_cons_zero, List.set_cons_succ]
    rfl
  have z0 := (blk_cell hZ 0 : w30.cell? ⟨g5, 0, none⟩ = _)
  have y0 := (blk_frozen hZ 0 : w30.frozen? ⟨g5, 0, none⟩ = false)
  have z1 := (blk_cell hZ 1 : w30.cell? ⟨g5, 1, none⟩ = _)
  have y1 := (blk_frozen hZ 1 : w30.frozen? ⟨g5, 1, none⟩ = false)
  have z2 := (blk_cell hZ 2 : w30.cell? ⟨g5, 2, none⟩ = _)
  have y2 := (blk_frozen hZ 2 : w30.frozen? ⟨g5, 2, none⟩ = false)
  have z3 := (blk_cell hZ 3 : w30.cell? ⟨g5, 3, none⟩ = _)
  have y3 := (blk_frozen hZ 3 : w30.frozen? ⟨g5, 3, none⟩ = false)
  refine last_ (i := 11) (N := none) #[true, true, true, true, true, true, true, true, true, true, true, true, false] rfl rfl (one_of HT_.out (by kernel_rfl)) (by decide) (fun K hK => ?_)
  refine skip_ (w1 := ?_) (by rfl) rfl ?_ ?_
  rotate_left
  · go_simp
    rfl
  refine hK.out _ _ ?_
  clear hK K
  refine pure_ (i := 12) (N := some 6) (v := ?_) (a' := ?_) #[true, true, true, true, true, true, true, true, true, true, true, true, true] rfl rfl (any_of HT_.out (by kernel_rfl)) (fun _ _ _ h => h) (Or.inl ⟨by rfl, ?_⟩) ?_ ?_
  rotate_left
  · intro w'
    go_simp
    with_reducible rfl
  rotate_left
  · simp only [Act.put, List.setIfInBounds_toArray, List.set_cons_zero, List.set_cons_succ, i64_w, i32_w]
    rfl
  refine done_ (done_of HT_.out (by kernel_rfl)) ?_
  have HZ_w31 : Aside0 (((((w30.setCell ⟨g5, 0, none⟩ (.int .i64 1)).setCell ⟨g5, 1, none⟩ (.string ⟨#[]⟩)).setCell ⟨g5, 2, none⟩ (.int .i64 0)).setCell ⟨g5, 3, none⟩ (.slice A9 1 c9)).heap[g5]? = some (.cells #[.int .i64 1, .string ⟨#[]⟩, .int .i64 0, .slice A9 1 c9] 24)) := ⟨blk_put4 hZ⟩
  have HA_w31 : Aside0 (((((w30.setCell ⟨g5, 0, none⟩ (.int .i64 1)).setCell ⟨g5, 1, none⟩ (.string ⟨#[]⟩)).setCell ⟨g5, 2, none⟩ (.int .i64 0)).setCell ⟨g5, 3, none⟩ (.slice A9 1 c9)).heap[w.heap.size]? = some (.cells #[.int .i64 2, .string ⟨#[97]⟩, .int .i64 0, .slice none 0 0] 24)) := ⟨(heap_set4 (by omega)).trans hA⟩
  have HC_w31 : Aside0 (((((w30.setCell ⟨g5, 0, none⟩ (.int .i64 1)).setCell ⟨g5, 1, none⟩ (.string ⟨#[]⟩)).setCell ⟨g5, 2, none⟩ (.int .i64 0)).setCell ⟨g5, 3, none⟩ (.slice A9 1 c9)).heap[w.heap.size + 1]? = some (.cells #[.int .i64 2, .string ⟨#[98]⟩, .int .i64 0, .slice none 0 0] 24)) := ⟨(heap_set4 (by omega)).trans hC⟩
  have HF_w31 : Aside0 (Kd.F k24 ((((w30.setCell ⟨g5, 0, none⟩ (.int .i64 1)).setCell ⟨g5, 1, none⟩ (.string ⟨#[]⟩)).setCell ⟨g5, 2, none⟩ (.int .i64 0)).setCell ⟨g5, 3, none⟩ (.slice A9 1 c9)) (fun k => k ≠ g5) A9 1 treeOut.f3) := ⟨F_set4 hF (fun k hk => hk)⟩
  have HB_w31 : Aside0 (Below w.heap.size w ((((w30.setCell ⟨g5, 0, none⟩ (.int .i64 1)).setCell ⟨g5, 1, none⟩ (.string ⟨#[]⟩)).setCell ⟨g5, 2, none⟩ (.int .i64 0)).setCell ⟨g5, 3, none⟩ (.slice A9 1 c9))) := ⟨below_set4 hB (by omega)⟩
  have HL := Aside0.mk hl
  clear hZ hA hC hF hB hG hl z0 z1 z2 z3 y0 y1 y2 y3 HAP HROW
  try go_wp2
  generalize ((((w30.setCell ⟨g5, 0, none⟩ (.int .i64 1)).setCell ⟨g5, 1, none⟩ (.string ⟨#[]⟩)).setCell ⟨g5, 2, none⟩ (.int .i64 0)).setCell ⟨g5, 3, none⟩ (.slice A9 1 c9)) = w31 at HZ_w31 HA_w31 HC_w31 HF_w31 HB_w31 ⊢
  refine start_ (n := 19) (S := fun w' => w'.cell? ⟨g5, 0, none⟩ = some (.int .i64 1) ∧ w'.cell? ⟨g5, 1, none⟩ = some (.string ⟨#[]⟩) ∧ w'.cell? ⟨g5, 2, none⟩ = some (.int .i64 0) ∧ w'.cell? ⟨g5, 3, none⟩ = some (.slice A9 1 c9) ∧ w'.cell? ⟨w.heap.size, 0, none⟩ = some (.int .i64 2) ∧ w'.cell? ⟨w.heap.size, 1, none⟩ = some (.string ⟨#[97]⟩) ∧ w'.cell? ⟨w.heap.size, 2, none⟩ = some (.int .i64 0) ∧ w'.cell? ⟨w.heap.size, 3, none⟩ = some (.slice none 0 0) ∧ w'.cell? ⟨w.heap.size + 1, 0, none⟩ = some (.int .i64 2) ∧ w'.cell? ⟨w.heap.size + 1, 1, none⟩ = some (.string ⟨#[98]⟩) ∧ w'.cell? ⟨w.heap.size + 1, 2, none⟩ = some (.int .i64 0) ∧ w'.cell? ⟨w.heap.size + 1, 3, none⟩ = some (.slice none 0 0)) (ds := []) #[false, false, false, false, false, false, false, false, false, false, false, false, false, false, false, false, false, false, false] (by kernel_rfl) rfl rfl ⟨blk_cell HZ_w31.out 0, blk_cell HZ_w31.out 1, blk_cell HZ_w31.out 2, blk_cell HZ_w31.out 3, blk_cell HA_w31.out 0, blk_cell HA_w31.out 1, blk_cell HA_w31.out 2, blk_cell HA_w31.out 3, blk_cell HC_w31.out 0, blk_cell HC_w31.out 1, blk_cell HC_w31.out 2, blk_cell HC_w31.out 3⟩ (fun hHeld => ?_); refine with_tabW awake5.tab awake5.bits (fun HT_ HW_ => ?_)
  have HZ_w32 : Aside0 (w31.drew.heap[g5]? = _) := ⟨HZ_w31.out⟩
  have HA_w32 : Aside0 (w31.drew.heap[w.heap.size]? = _) := ⟨HA_w31.out⟩
  have HC_w32 : Aside0 (w31.drew.heap[w.heap.size + 1]? = _) := ⟨HC_w31.out⟩
  have HF_w32 := Aside0.mk (Kd.F_drew HF_w31.out)
  have HB_w32 := Aside0.mk (below_drew1 HB_w31.out)
  clear HZ_w31 HA_w31 HC_w31 HF_w31 HB_w31
  generalize w31.drew = w32 at HZ_w32 HA_w32 HC_w32 HF_w32 HB_w32 hHeld ⊢
  refine pure_ (i := 0) (N := some 27) (v := ?_) (a' := ?_) #[true, false, false, false, false, false, false, false, false, false, false, false, false, false, false, false, false, false, false] rfl rfl (any_of HT_.out (by kernel_rfl)) (fun _ _ _ h => h) (Or.inl ⟨by rfl, ?_⟩) ?_ ?_
  rotate_left
  · intro w'
    go_simp
    with_reducible rfl
  rotate_left
  · simp only [Act.put, List.setIfInBounds_toArray, List.set_cons_zero, List.set_cons_succ, i64_w, i32_w]
    rfl
  refine pure_ (i := 1) (N := some 28) (v := ?_) (a' := ?_) #[true, true, false, false, false, false, false, false, false, false, false, false, false, false, false, false, false, false, false] rfl rfl (any_of HT_.out (by kernel_rfl)) (fun _ _ _ h => h) (Or.inl ⟨by rfl, ?_⟩) ?_ ?_
  rotate_left
  · intro w'
    go_simp
    with_reducible rfl
  rotate_left
  · simp only [Act.put, List.setIfInBounds_toArray, List.set_cons_zero, List.set_cons_succ, i64_w, i32_w]
    rfl
  refine pure_ (i := 2) (N := some 29) (v := ?_) (a' := ?_) #[true, true, true, false, false, false, false, false, false, false, false, false, false, false, false, false, false, false, false] rfl rfl (any_of HT_.out (by kernel_rfl)) (fun _ _ _ h => h) (Or.inl ⟨by rfl, ?_⟩) ?_ ?_
  rotate_left
  · intro w'
    go_simp
    with_reducible rfl
  rotate_left
  · simp only [Act.put, List.setIfInBounds_toArray, List.set_cons_zero, List.set_cons_succ, i64_w, i32_w]
    rfl
  refine take_ (i := 3) (N := some 30) (v := ?_) (a' := ?_) #[true, true, true, true, false, false, false, false, false, false, false, false, false, false, false, false, false, false, false] rfl rfl (take_ofW HT_.out HW_.out (by kernel_rfl)) (fun _ _ _ h => h) (Or.inl ⟨by rfl, ?_⟩) hHeld ?_ ?_
  rotate_left
  · rintro w' ⟨s0, s1, s2, s3, s4, s5, s6, s7, s8, s9, s10, s11⟩
    go_simp
    with_reducible rfl
  rotate_left
  · simp only [Act.put, List.setIfInBounds_toArray, List.set_cons_zero, List.set_cons_succ, i64_w, i32_w]
    rfl
  refine pure_ (i := 4) (N := some 31) (v := ?_) (a' := ?_) #[true, true, true, true, true, false, false, false, false, false, false, false, false, false, false, false, false, false, false] rfl rfl (any_of HT_.out (by kernel_rfl)) (fun _ _ _ h => h) (Or.inl ⟨by rfl, ?_⟩) ?_ ?_
  rotate_left
  · intro w'
    go_simp
    with_reducible rfl
  rotate_left
  · simp only [Act.put, List.setIfInBounds_toArray, List.set_cons_zero, List.set_cons_succ, i64_w, i32_w]
    rfl
  refine pure_ (i := 5) (N := some 32) (v := ?_) (a' := ?_) #[true, true, true, true, true, true, false, false, false, false, false, false, false, false, false, false, false, false, false] rfl rfl (any_of HT_.out (by kernel_rfl)) (fun _ _ _ h => h) (Or.inl ⟨by rfl, ?_⟩) ?_ ?_
  rotate_left
  · intro w'
    go_simp
    with_reducible rfl
  rotate_left
  · simp only [Act.put, List.setIfInBounds_toArray, List.set_cons_zero, List.set_cons_succ, i64_w, i32_w]
    rfl
  refine take_ (i := 6) (N := some 33) (v := ?_) (a' := ?_) #[true, true, true, true, true, true, true, false, false, false, false, false, false, false, false, false, false, false, false] rfl rfl (take_ofW HT_.out HW_.out (by kernel_rfl)) (fun _ _ _ h => h) (Or.inl ⟨by rfl, ?_⟩) hHeld ?_ ?_
  rotate_left
  · rintro w' ⟨s0, s1, s2, s3, s4, s5, s6, s7, s8, s9, s10, s11⟩
    go_simp
    with_reducible rfl
  rotate_left
  · simp only [Act.put, List.setIfInBounds_toArray, List.set_cons_zero, List.set_cons_succ, i64_w, i32_w]
    rfl
  refine take_ (i := 7) (N := some 34) (v := ?_) (a' := ?_) #[true, true, true, true, true, true, true, true, false, false, false, false, false, false, false, false, false, false, false] rfl rfl (take_ofW HT_.out HW_.out (by kernel_rfl)) (fun _ _ _ h => h) (Or.inl ⟨by rfl, ?_⟩) hHeld ?_ ?_
  rotate_left
  · rintro w' ⟨s0, s1, s2, s3, s4, s5, s6, s7, s8, s9, s10, s11⟩
    go_simp
    with_reducible rfl
  rotate_left
  · simp only [Act.put, List.setIfInBounds_toArray, List.set_cons_zero, List.set_cons_succ, i64_w, i32_w]
    rfl
  refine pure_ (i := 10) (N := some 37) (v := ?_) (a' := ?_) #[true, true, true, true, true, true, true, true, false, false, true, false, false, false, false, false, false, false, false] rfl rfl (any_of HT_.out (by kernel_rfl)) (fun _ _ _ h => h) (Or.inl ⟨by rfl, ?_⟩) ?_ ?_
  rotate_left
  · intro w'
    go_simp
    with_reducible rfl
  rotate_left
  · simp only [Act.put, List.setIfInBounds_toArray, List.set_cons_zero, List.set_cons_succ, i64_w, i32_w]
    rfl
  refine one_ (i := 8) (N := some 35) #[true, true, true, true, true, true, true, true, true, false, true, false, false, false, false, false, false, false, false] rfl rfl (one_of HT_.out (by kernel_rfl)) (by decide) (fun K hK => ?_)
  refine value_ (v := .slice (some ⟨w32.heap.size, 0, none⟩) 2 2) (w1 := (w32.alloc (.cells #[.int .i64 2, .string ⟨#[97]⟩, .int .i64 0, .slice none 0 0, .int .i64 2, .string ⟨#[98]⟩, .int .i64 0, .slice none 0 0] 24))) (by rfl) rfl ?_ ?_
  · go_simp
  refine hK.out _ _ ⟨blk_cell (blk_allocO HZ_w32.out _) 0, blk_cell (blk_allocO HZ_w32.out _) 1, blk_cell (blk_allocO HZ_w32.out _) 2, blk_cell (blk_allocO HZ_w32.out _) 3, blk_cell (blk_allocO HA_w32.out _) 0, blk_cell (blk_allocO HA_w32.out _) 1, blk_cell (blk_allocO HA_w32.out _) 2, blk_cell (blk_allocO HA_w32.out _) 3, blk_cell (blk_allocO HC_w32.out _) 0, blk_cell (blk_allocO HC_w32.out _) 1, blk_cell (blk_allocO HC_w32.out _) 2, blk_cell (blk_allocO HC_w32.out _) 3⟩ (fun hHeld => ?_)
  clear hK K
  refine norm_ (a' := ?_) ?_ ?_
  rotate_left
  · show Act.put _ (some 35) _ = _
    simp only [Act.put, List.setIfInBounds_toArray, List.set_cons_zero, List.set_cons_succ, i64_w, i32_w]
    rfl
  have H8_w33 : Aside0 (Kd.F k24 (w32.alloc (.cells #[.int .i64 2, .string ⟨#[97]⟩, .int .i64 0, .slice none 0 0, .int .i64 2, .string ⟨#[98]⟩, .int .i64 0, .slice none 0 0] 24)) (fun _ => True) (some ⟨w32.heap.size, 0, none⟩) 2 treeIn.f3) := ⟨Kd.F_mono (twoF (W := w32) (x := nodeA) (y := nodeB) (A3 := none) (B3 := none) (c3 := 0) (d3 := 0) (ok := fun _ => True) (Nat.le_refl _) (Kd.F_nil _ _ _) (Nat.le_refl _) (Kd.F_nil _ _ _)) (fun _ _ => trivial)⟩
  have HZ_w33 := Aside0.mk (blk_allocO HZ_w32.out (.cells #[.int .i64 2, .string ⟨#[97]⟩, .int .i64 0, .slice none 0 0, .int .i64 2, .string ⟨#[98]⟩, .int .i64 0, .slice none 0 0] 24))
  have HA_w33 := Aside0.mk (blk_allocO HA_w32.out (.cells #[.int .i64 2, .string ⟨#[97]⟩, .int .i64 0, .slice none 0 0, .int .i64 2, .string ⟨#[98]⟩, .int .i64 0, .slice none 0 0] 24))
  have HC_w33 := Aside0.mk (blk_allocO HC_w32.out (.cells #[.int .i64 2, .string ⟨#[97]⟩, .int .i64 0, .slice none 0 0, .int .i64 2, .string ⟨#[98]⟩, .int .i64 0, .slice none 0 0] 24))
  have HF_w33 := Aside0.mk (Kd.F_alloc HF_w32.out (.cells #[.int .i64 2, .string ⟨#[97]⟩, .int .i64 0, .slice none 0 0, .int .i64 2, .string ⟨#[98]⟩, .int .i64 0, .slice none 0 0] 24))
  have HB_w33 := Aside0.mk (below_alloc HB_w32.out (.cells #[.int .i64 2, .string ⟨#[97]⟩, .int .i64 0, .slice none 0 0, .int .i64 2, .string ⟨#[98]⟩, .int .i64 0, .slice none 0 0] 24))
  clear HZ_w32 HA_w32 HC_w32 HF_w32 HB_w32
  generalize (w32.alloc (.cells #[.int .i64 2, .string ⟨#[97]⟩, .int .i64 0, .slice none 0 0, .int .i64 2, .string ⟨#[98]⟩, .int .i64 0, .slice none 0 0] 24)) = w33 at HZ_w33 HA_w33 HC_w33 HF_w33 H8_w33 HB_w33 hHeld ⊢
  generalize w32.heap.size = g8 at H8_w33  ⊢
  refine one_ (i := 9) (N := some 36) #[true, true, true, true, true, true, true, true, true, true, true, false, false, false, false, false, false, false, false] rfl rfl (one_of HT_.out (by kernel_rfl)) (by decide) (fun K hK => ?_)
  refine call_ 24 #[.slice (some ⟨g8, 0, none⟩) 2 2] (by rfl) rfl (by have he_ := fun W_ => enters_ Tryd.func24 (by kernel_rfl) rfl #[.slice (some ⟨g8, 0, none⟩) 2 2] W_; unfold execOp; simp [resolve, Deferred.ofValue, invoke, Act.eval, he_]) ?_
  refine (awakeRow_any 2 (some ⟨g8, 0, none⟩) 2 w33).mono ?_
  rintro e w34 ⟨rfl, hb⟩
  have HZ_w34 := Aside0.mk (blk_on HZ_w33.out hb)
  have HA_w34 := Aside0.mk (blk_on HA_w33.out hb)
  have HC_w34 := Aside0.mk (blk_on HC_w33.out hb)
  have HF_w34 := Aside0.mk (Kd.F_below HF_w33.out hb)
  have H8_w34 := Aside0.mk (Kd.F_below H8_w33.out hb)
  have HB_w34 := Aside0.mk (below_then HB_w33.out HB_w33.out.size hb)
  clear hb hHeld HZ_w33 HA_w33 HC_w33 HF_w33 H8_w33 HB_w33
  refine ⟨_, rfl, ?_⟩
  refine hK.out _ _ ⟨blk_cell HZ_w34.out 0, blk_cell HZ_w34.out 1, blk_cell HZ_w34.out 2, blk_cell HZ_w34.out 3, blk_cell HA_w34.out 0, blk_cell HA_w34.out 1, blk_cell HA_w34.out 2, blk_cell HA_w34.out 3, blk_cell HC_w34.out 0, blk_cell HC_w34.out 1, blk_cell HC_w34.out 2, blk_cell HC_w34.out 3⟩ (fun hHeld => ?_)
  clear hK K
  refine norm_ (a' := ?_) ?_ ?_
  rotate_left
  · show Act.put _ (some 36) _ = _
    simp only [Act.put, List.setIfInBounds_toArray, List.set_cons_zero, List.set_cons_succ, i64_w, i32_w]
    rfl
  refine one_ (i := 11) (N := some 38) #[true, true, true, true, true, true, true, true, true, true, true, true, false, false, false, false, false, false, false] rfl rfl (one_of HT_.out (by kernel_rfl)) (by decide) (fun K hK => ?_)
  refine call_ 24 #[.slice none 0 0] (by rfl) rfl (by have he_ := fun W_ => enters_ Tryd.func24 (by kernel_rfl) rfl #[.slice none 0 0] W_; unfold execOp; simp [resolve, Deferred.ofValue, invoke, Act.eval, he_]) ?_
  refine (awakeRow_any 0 none 0 w34).mono ?_
  rintro e w35 ⟨rfl, hb⟩
  have HZ_w35 := Aside0.mk (blk_on HZ_w34.out hb)
  have HA_w35 := Aside0.mk (blk_on HA_w34.out hb)
  have HC_w35 := Aside0.mk (blk_on HC_w34.out hb)
  have HF_w35 := Aside0.mk (Kd.F_below HF_w34.out hb)
  have H8_w35 := Aside0.mk (Kd.F_below H8_w34.out hb)
  have HB_w35 := Aside0.mk (below_then HB_w34.out HB_w34.out.size hb)
  clear hb hHeld HZ_w34 HA_w34 HC_w34 HF_w34 H8_w34 HB_w34
  refine ⟨_, rfl, ?_⟩
  refine hK.out _ _ ⟨blk_cell HZ_w35.out 0, blk_cell HZ_w35.out 1, blk_cell HZ_w35.out 2, blk_cell HZ_w35.out 3, blk_cell HA_w35.out 0, blk_cell HA_w35.out 1, blk_cell HA_w35.out 2, blk_cell HA_w35.out 3, blk_cell HC_w35.out 0, blk_cell HC_w35.out 1, blk_cell HC_w35.out 2, blk_cell HC_w35.out 3⟩ (fun hHeld => ?_)
  clear hK K
  refine norm_ (a' := ?_) ?_ ?_
  rotate_left
  · show Act.put _ (some 38) _ = _
    simp only [Act.put, List.setIfInBounds_toArray, List.set_cons_zero, List.set_cons_succ, i64_w, i32_w]
    rfl
  refine one_ (i := 12) (N := some 39) #[true, true, true, true, true, true, true, true, true, true, true, true, true, false, false, false, false, false, false] rfl rfl (one_of HT_.out (by kernel_rfl)) (by decide) (fun K hK => ?_)
  refine value_ (v := .slice (some ⟨w35.heap.size, 0, none⟩) 2 2) (w1 := (w35.alloc (.cells #[.int .i64 1, .string ⟨#[]⟩, .int .i64 0, .slice (some ⟨g8, 0, none⟩) 2 2, .int .i64 1, .string ⟨#[]⟩, .int .i64 0, .slice none 0 0] 24))) (by rfl) rfl ?_ ?_
  · go_simp
  refine hK.out _ _ ⟨blk_cell (blk_allocO HZ_w35.out _) 0, blk_cell (blk_allocO HZ_w35.out _) 1, blk_cell (blk_allocO HZ_w35.out _) 2, blk_cell (blk_allocO HZ_w35.out _) 3, blk_cell (blk_allocO HA_w35.out _) 0, blk_cell (blk_allocO HA_w35.out _) 1, blk_cell (blk_allocO HA_w35.out _) 2, blk_cell (blk_allocO HA_w35.out _) 3, blk_cell (blk_allocO HC_w35.out _) 0, blk_cell (blk_allocO HC_w35.out _) 1, blk_cell (blk_allocO HC_w35.out _) 2, blk_cell (blk_allocO HC_w35.out _) 3⟩ (fun hHeld => ?_)
  clear hK K
  refine norm_ (a' := ?_) ?_ ?_
  rotate_left
  · show Act.put _ (some 39) _ = _
    simp only [Act.put, List.setIfInBounds_toArray, List.set_cons_zero, List.set_cons_succ, i64_w, i32_w]
    rfl
  have H12_w36 : Aside0 (Kd.F k24 (w35.alloc (.cells #[.int .i64 1, .string ⟨#[]⟩, .int .i64 0, .slice (some ⟨g8, 0, none⟩) 2 2, .int .i64 1, .string ⟨#[]⟩, .int .i64 0, .slice none 0 0] 24)) (fun _ => True) (some ⟨w35.heap.size, 0, none⟩) 2 [treeIn, nodeR]) := ⟨Kd.F_mono (twoF (W := w35) (x := treeIn) (y := nodeR) (A3 := some ⟨g8, 0, none⟩) (B3 := none) (c3 := 2) (d3 := 0) (ok := fun _ => True) (Nat.le_refl _) (H8_w35.out) (Nat.le_refl _) (Kd.F_nil _ _ _)) (fun _ _ => trivial)⟩
  have HZ_w36 := Aside0.mk (blk_allocO HZ_w35.out (.cells #[.int .i64 1, .string ⟨#[]⟩, .int .i64 0, .slice (some ⟨g8, 0, none⟩) 2 2, .int .i64 1, .string ⟨#[]⟩, .int .i64 0, .slice none 0 0] 24))
  have HA_w36 := Aside0.mk (blk_allocO HA_w35.out (.cells #[.int .i64 1, .string ⟨#[]⟩, .int .i64 0, .slice (some ⟨g8, 0, none⟩) 2 2, .int .i64 1, .string ⟨#[]⟩, .int .i64 0, .slice none 0 0] 24))
  have HC_w36 := Aside0.mk (blk_allocO HC_w35.out (.cells #[.int .i64 1, .string ⟨#[]⟩, .int .i64 0, .slice (some ⟨g8, 0, none⟩) 2 2, .int .i64 1, .string ⟨#[]⟩, .int .i64 0, .slice none 0 0] 24))
  have HF_w36 := Aside0.mk (Kd.F_alloc HF_w35.out (.cells #[.int .i64 1, .string ⟨#[]⟩, .int .i64 0, .slice (some ⟨g8, 0, none⟩) 2 2, .int .i64 1, .string ⟨#[]⟩, .int .i64 0, .slice none 0 0] 24))
  have H8_w36 := Aside0.mk (Kd.F_alloc H8_w35.out (.cells #[.int .i64 1, .string ⟨#[]⟩, .int .i64 0, .slice (some ⟨g8, 0, none⟩) 2 2, .int .i64 1, .string ⟨#[]⟩, .int .i64 0, .slice none 0 0] 24))
  have HB_w36 := Aside0.mk (below_alloc HB_w35.out (.cells #[.int .i64 1, .string ⟨#[]⟩, .int .i64 0, .slice (some ⟨g8, 0, none⟩) 2 2, .int .i64 1, .string ⟨#[]⟩, .int .i64 0, .slice none 0 0] 24))
  clear HZ_w35 HA_w35 HC_w35 HF_w35 H8_w35 HB_w35
  generalize (w35.alloc (.cells #[.int .i64 1, .string ⟨#[]⟩, .int .i64 0, .slice (some ⟨g8, 0, none⟩) 2 2, .int .i64 1, .string ⟨#[]⟩, .int .i64 0, .slice none 0 0] 24)) = w36 at HZ_w36 HA_w36 HC_w36 HF_w36 H8_w36 H12_w36 HB_w36 hHeld ⊢
  generalize w35.heap.size = g12 at H12_w36  ⊢
  refine pure_ (i := 13) (N := some 40) (v := ?_) (a' := ?_) #[true, true, true, true, true, true, true, true, true, true, true, true, true, true, false, false, false, false, false] rfl rfl (any_of HT_.out (by kernel_rfl)) (fun _ _ _ h => h) (Or.inl ⟨by rfl, ?_⟩) ?_ ?_
  rotate_left
  · intro w'
    go_simp
    with_reducible rfl
  rotate_left
  · simp only [Act.put, List.setIfInBounds_toArray, List.set_cons_zero, List.set_cons_succ, i64_w, i32_w]
    rfl
  refine one_ (i := 14) (N := some 41) #[true, true, true, true, true, true, true, true, true, true, true, true, true, true, true, false, false, false, false] rfl rfl (one_of HT_.out (by kernel_rfl)) (by decide) (fun K hK => ?_)
  refine value_ (v := .slice (some ⟨w36.heap.size, 0, none⟩) 1 1) (w1 := (w36.alloc (.cells #[.int .i64 5, .string ⟨#[]⟩, .int .i64 0, .slice (some ⟨g12, 0, none⟩) 2 2] 24))) (by rfl) rfl ?_ ?_
  · go_simp
  refine hK.out _ _ ⟨blk_cell (blk_allocO HZ_w36.out _) 0, blk_cell (blk_allocO HZ_w36.out _) 1, blk_cell (blk_allocO HZ_w36.out _) 2, blk_cell (blk_allocO HZ_w36.out _) 3, blk_cell (blk_allocO HA_w36.out _) 0, blk_cell (blk_allocO HA_w36.out _) 1, blk_cell (blk_allocO HA_w36.out _) 2, blk_cell (blk_allocO HA_w36.out _) 3, blk_cell (blk_allocO HC_w36.out _) 0, blk_cell (blk_allocO HC_w36.out _) 1, blk_cell (blk_allocO HC_w36.out _) 2, blk_cell (blk_allocO HC_w36.out _) 3⟩ (fun hHeld => ?_)
  clear hK K
  refine norm_ (a' := ?_) ?_ ?_
  rotate_left
  · show Act.put _ (some 41) _ = _
    simp only [Act.put, List.setIfInBounds_toArray, List.set_cons_zero, List.set_cons_succ, i64_w, i32_w]
    rfl
  have H14_w37 : Aside0 (Kd.F k24 (w36.alloc (.cells #[.int .i64 5, .string ⟨#[]⟩, .int .i64 0, .slice (some ⟨g12, 0, none⟩) 2 2] 24)) (fun _ => True) (some ⟨w36.heap.size, 0, none⟩) 1 treeOut.f3) := ⟨Kd.F_mono (oneF (W := w36) (x := ⟨5, ⟨#[]⟩, 0, [treeIn, nodeR]⟩) (A3 := some ⟨g12, 0, none⟩) (c3 := 2) (ok := fun _ => True) (Nat.le_refl _) H12_w36.out) (fun _ _ => trivial)⟩
  have HZ_w37 := Aside0.mk (blk_allocO HZ_w36.out (.cells #[.int .i64 5, .string ⟨#[]⟩, .int .i64 0, .slice (some ⟨g12, 0, none⟩) 2 2] 24))
  have HA_w37 := Aside0.mk (blk_allocO HA_w36.out (.cells #[.int .i64 5, .string ⟨#[]⟩, .int .i64 0, .slice (some ⟨g12, 0, none⟩) 2 2] 24))
  have HC_w37 := Aside0.mk (blk_allocO HC_w36.out (.cells #[.int .i64 5, .string ⟨#[]⟩, .int .i64 0, .slice (some ⟨g12, 0, none⟩) 2 2] 24))
  have HF_w37 := Aside0.mk (Kd.F_alloc HF_w36.out (.cells #[.int .i64 5, .string ⟨#[]⟩, .int .i64 0, .slice (some ⟨g12, 0, none⟩) 2 2] 24))
  have H8_w37 := Aside0.mk (Kd.F_alloc H8_w36.out (.cells #[.int .i64 5, .string ⟨#[]⟩, .int .i64 0, .slice (some ⟨g12, 0, none⟩) 2 2] 24))
  have H12_w37 := Aside0.mk (Kd.F_alloc H12_w36.out (.cells #[.int .i64 5, .string ⟨#[]⟩, .int .i64 0, .slice (some ⟨g12, 0, none⟩) 2 2] 24))
  have HB_w37 := Aside0.mk (below_alloc HB_w36.out (.cells #[.int .i64 5, .string ⟨#[]⟩, .int .i64 0, .slice (some ⟨g12, 0, none⟩) 2 2] 24))
  clear HZ_w36 HA_w36 HC_w36 HF_w36 H8_w36 H12_w36 HB_w36
  generalize (w36.alloc (.cells #[.int .i64 5, .string ⟨#[]⟩, .int .i64 0, .slice (some ⟨g12, 0, none⟩) 2 2] 24)) = w37 at HZ_w37 HA_w37 HC_w37 HF_w37 H8_w37 H12_w37 H14_w37 HB_w37 hHeld ⊢
  generalize w36.heap.size = g14 at H14_w37  ⊢
  refine one_ (i := 15) (N := some 42) #[true, true, true, true, true, true, true, true, true, true, true, true, true, true, true, true, false, false, false] rfl rfl (one_of HT_.out (by kernel_rfl)) (by decide) (fun K hK => ?_)
  refine call_ 24 #[.slice (some ⟨g14, 0, none⟩) 1 1] (by rfl) rfl (by have he_ := fun W_ => enters_ Tryd.func24 (by kernel_rfl) rfl #[.slice (some ⟨g14, 0, none⟩) 1 1] W_; unfold execOp; simp [resolve, Deferred.ofValue, invoke, Act.eval, he_]) ?_
  refine (awakeRow_any 1 (some ⟨g14, 0, none⟩) 1 w37).mono ?_
  rintro e w38 ⟨rfl, hb⟩
  have HZ_w38 := Aside0.mk (blk_on HZ_w37.out hb)
  have HA_w38 := Aside0.mk (blk_on HA_w37.out hb)
  have HC_w38 := Aside0.mk (blk_on HC_w37.out hb)
  have HF_w38 := Aside0.mk (Kd.F_below HF_w37.out hb)
  have H8_w38 := Aside0.mk (Kd.F_below H8_w37.out hb)
  have H12_w38 := Aside0.mk (Kd.F_below H12_w37.out hb)
  have H14_w38 := Aside0.mk (Kd.F_below H14_w37.out hb)
  have HB_w38 := Aside0.mk (below_then HB_w37.out HB_w37.out.size hb)
  clear hb hHeld HZ_w37 HA_w37 HC_w37 HF_w37 H8_w37 H12_w37 H14_w37 HB_w37
  refine ⟨_, rfl, ?_⟩
  refine hK.out _ _ ⟨blk_cell HZ_w38.out 0, blk_cell HZ_w38.out 1, blk_cell HZ_w38.out 2, blk_cell HZ_w38.out 3, blk_cell HA_w38.out 0, blk_cell HA_w38.out 1, blk_cell HA_w38.out 2, blk_cell HA_w38.out 3, blk_cell HC_w38.out 0, blk_cell HC_w38.out 1, blk_cell HC_w38.out 2, blk_cell HC_w38.out 3⟩ (fun hHeld => ?_)
  clear hK K
  refine norm_ (a' := ?_) ?_ ?_
  rotate_left
  · show Act.put _ (some 42) _ = _
    simp only [Act.put, List.setIfInBounds_toArray, List.set_cons_zero, List.set_cons_succ, i64_w, i32_w]
    rfl
  refine one_ (i := 16) (N := some 43) #[true, true, true, true, true, true, true, true, true, true, true, true, true, true, true, true, true, false, false] rfl rfl (one_of HT_.out (by kernel_rfl)) (by decide) (fun K hK => ?_)
  refine goes_ Tryd.func15 (by kernel_rfl) rfl #[.agg #[.int .i64 1, .string ⟨#[]⟩, .int .i64 0, .slice A9 1 c9], .agg #[.int .i64 1, .string ⟨#[]⟩, .int .i64 0, .slice (some ⟨g14, 0, none⟩) 1 1]] (by rfl) rfl rfl (by (try simp only [List.map_toArray, List.map_cons, List.map_nil]); first | done | rfl | (simp only [List.length_drop, List.length_take]; rfl)) ?_
  refine (HEQ A9 g14 c9 w38 HL.out (Kd.F_now HF_w38.out) (Kd.F_now H14_w38.out)).mono ?_
  rintro e w39 ⟨rfl, hb⟩
  have HZ_w39 := Aside0.mk (blk_on HZ_w38.out hb)
  have HA_w39 := Aside0.mk (blk_on HA_w38.out hb)
  have HC_w39 := Aside0.mk (blk_on HC_w38.out hb)
  have HF_w39 := Aside0.mk (Kd.F_below HF_w38.out hb)
  have H8_w39 := Aside0.mk (Kd.F_below H8_w38.out hb)
  have H12_w39 := Aside0.mk (Kd.F_below H12_w38.out hb)
  have H14_w39 := Aside0.mk (Kd.F_below H14_w38.out hb)
  have HB_w39 := Aside0.mk (below_then HB_w38.out HB_w38.out.size hb)
  clear hb hHeld HZ_w38 HA_w38 HC_w38 HF_w38 H8_w38 H12_w38 H14_w38 HB_w38
  refine ⟨_, rfl, ?_⟩
  refine hK.out _ _ ⟨blk_cell HZ_w39.out 0, blk_cell HZ_w39.out 1, blk_cell HZ_w39.out 2, blk_cell HZ_w39.out 3, blk_cell HA_w39.out 0, blk_cell HA_w39.out 1, blk_cell HA_w39.out 2, blk_cell HA_w39.out 3, blk_cell HC_w39.out 0, blk_cell HC_w39.out 1, blk_cell HC_w39.out 2, blk_cell HC_w39.out 3⟩ (fun hHeld => ?_)
  clear hK K
  refine norm_ (a' := ?_) ?_ ?_
  rotate_left
  · show Act.put _ (some 43) _ = _
    simp only [Act.put, List.setIfInBounds_toArray, List.set_cons_zero, List.set_cons_succ, i64_w, i32_w]
    rfl
  refine pure_ (i := 17) (N := some 44) (v := ?_) (a' := ?_) #[true, true, true, true, true, true, true, true, true, true, true, true, true, true, true, true, true, true, false] rfl rfl (any_of HT_.out (by kernel_rfl)) (fun _ _ _ h => h) (Or.inl ⟨by rfl, ?_⟩) ?_ ?_
  rotate_left
  · intro w'
    go_simp
    with_reducible rfl
  rotate_left
  · simp only [Act.put, List.setIfInBounds_toArray, List.set_cons_zero, List.set_cons_succ, i64_w, i32_w]
    rfl
  refine pure_ (i := 18) (N := some 0) (v := ?_) (a' := ?_) #[true, true, true, true, true, true, true, true, true, true, true, true, true, true, true, true, true, true, true] rfl rfl (any_of HT_.out (by kernel_rfl)) (fun _ _ _ h => h) (Or.inl ⟨by rfl, ?_⟩) ?_ ?_
  rotate_left
  · intro w'
    go_simp
    with_reducible rfl
  rotate_left
  · simp only [Act.put, List.setIfInBounds_toArray, List.set_cons_zero, List.set_cons_succ, i64_w, i32_w]
    rfl
  refine done_ (done_of HT_.out (by kernel_rfl)) ?_
  try go_wp2
  go_ret
  exact ⟨rfl, HB_w39.out⟩
def vinculumlaw12_awake.f : Option Bool := some true
theorem vinculumlaw12_awake.calls (r : Bool) (w : World) (h : vinculumlaw12_awake.f = some r) : Calls Tryd.prog 9 #[] w fun e w' => e = .returned (.bool r) ∧ Below w.heap.size w w' := by
  injection h with h
  subst h
  exact awake_any w
end Go.Proofs.YtgcpfelccfnnbaaDoor.X
