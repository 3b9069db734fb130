/-
Part 49 of the texts of this proof: the walks through the program's functions.
-/
import Derived.Test.YtgcpfelccfnnbaaDoorMCounts2
import Derived.Test.YtgcpfelccfnnbaaDoorMCounts41
import Derived.Test.YtgcpfelccfnnbaaDoorMCounts45
import Derived.Test.YtgcpfelccfnnbaaDoorMCounts46
import Derived.Test.YtgcpfelccfnnbaaDoorMCounts48
namespace Go.Proofs.YtgcpfelccfnnbaaDoor.X
open Go.RowKit Go.Proofs.YtgcpfelccfnnbaaDoorW.PrintWords Go.Proofs.YtgcpfelccfnnbaaDoorW.PrintLast Go.Proofs.YtgcpfelccfnnbaaDoorW.PrintMore
attribute [local go_sem] max2_int min2_int max_two min_two max_three min_three max_four min_four   -- for this text's walks alone
set_option linter.unusedVariables false
set_option linter.unusedSimpArgs false
mutual
def vinculumlaw12_EditCounts.j0 : Nat → Bool → Int → ByteArray → Int → List (S24) → Int → List Int → Int → Int → List (S24) → Int → ByteArray → ByteArray → Option (Bool)
  | 0, _, _, _, _, _, _, _, _, _, _, _, _, _ => none
  | k + 1, x18, x189000, x189001, x189002, x189003, x190000, x190001, x190002, x190003, x190004, x190005, x190006, x190007 => if x18 = true then ((vinculumlaw12_awake.f).bind fun t195 => (some t195)) else ((edit_Apply.f x189000 x189001 x189002 x189003 x190000 x190001 x190002 x190003 x190004 x190005 x190006 x190007).bind fun bt196 => (if bt196.2.2.2.2 = 0 then (vinculumlaw12_EditCounts.l0 k 0 x190004 (x190004.length : Int) 0 x189000 x189001 x189002 x189003 x190000 x190001 x190002 x190003 x190004 x190005 x190006 x190007 bt196.1 bt196.2.1 bt196.2.2.1 bt196.2.2.2.1) else (some true)))
def vinculumlaw12_EditCounts.l0 : Nat → Int → List (S24) → Int → Int → Int → ByteArray → Int → List (S24) → Int → List Int → Int → Int → List (S24) → Int → ByteArray → ByteArray → Int → ByteArray → Int → List (S24) → Option (Bool)
  | 0, _, _, _, _, _, _, _, _, _, _, _, _, _, _, _, _, _, _, _, _ => none
  | k + 1, x7, x29, x30, x31, x189000, x189001, x189002, x189003, x190000, x190001, x190002, x190003, x190004, x190005, x190006, x190007, x204000, x204001, x204002, x204003 => if x31 < x30 then (if 0 ≤ x31 then (if x31 < (x29.length : Int) then ((vinculumref09_Count.f k ((rd_T24 x29 x31).f0) ((rd_T24 x29 x31).f1) ((rd_T24 x29 x31).f2) ((rd_T24 x29 x31).f3)).bind fun t206 => (vinculumlaw12_EditCounts.l0 k (wrap64 (x7 + t206)) x29 x30 (wrap64 (x31 + 1)) x189000 x189001 x189002 x189003 x190000 x190001 x190002 x190003 x190004 x190005 x190006 x190007 x204000 x204001 x204002 x204003)) else (none)) else (none)) else (if x190000 = 2 then (vinculumlaw12_EditCounts.j2 k x7 true x189000 x189001 x189002 x189003 x204000 x204001 x204002 x204003) else (vinculumlaw12_EditCounts.j2 k x7 (x190000 == 4) x189000 x189001 x189002 x189003 x204000 x204001 x204002 x204003))
def vinculumlaw12_EditCounts.j2 : Nat → Int → Bool → Int → ByteArray → Int → List (S24) → Int → ByteArray → Int → List (S24) → Option (Bool)
  | 0, _, _, _, _, _, _, _, _, _, _ => none
  | k + 1, x7, x47, x189000, x189001, x189002, x189003, x204000, x204001, x204002, x204003 => if x47 = true then ((vinculumref09_Count.f k x204000 x204001 x204002 x204003).bind fun t207 => ((vinculumref09_Count.f k x189000 x189001 x189002 x189003).bind fun t208 => (some (t207 == (wrap64 (t208 + (wrap64 (-x7)))))))) else ((vinculumref09_Count.f k x204000 x204001 x204002 x204003).bind fun t209 => ((vinculumref09_Count.f k x189000 x189001 x189002 x189003).bind fun t210 => (some (t209 == (wrap64 (t210 + x7))))))
end
def vinculumlaw12_EditCounts.f (k : Nat) (a0_0 : Int) (a0_1 : ByteArray) (a0_2 : Int) (l0_3 : List (S24)) (a1_0 : Int) (l1_1 : List Int) (a1_2 : Int) (a1_3 : Int) (l1_4 : List (S24)) (a1_5 : Int) (a1_6 : ByteArray) (a1_7 : ByteArray) : Option (Bool) := (vinculumlaw12_awake.f).bind fun t190 => (if t190 = true then ((vinculumlaw12_few.f k a0_0 a0_1 a0_2 l0_3 (([(⟨a1_0, l1_1, a1_2, a1_3, l1_4, a1_5, a1_6, a1_7⟩ : S27)] : List (S27)))).bind fun t194 => (vinculumlaw12_EditCounts.j0 k (!t194) a0_0 a0_1 a0_2 l0_3 a1_0 l1_1 a1_2 a1_3 l1_4 a1_5 a1_6 a1_7)) else (vinculumlaw12_EditCounts.j0 k true a0_0 a0_1 a0_2 l0_3 a1_0 l1_1 a1_2 a1_3 l1_4 a1_5 a1_6 a1_7))
theorem vinculumlaw12_EditCounts.mono_l : ∀ k, (∀ y0 y1 y2 y3 y4 y5 y6 y7 y8 y9 y10 y11 y12, LeO (vinculumlaw12_EditCounts.j0 k y0 y1 y2 y3 y4 y5 y6 y7 y8 y9 y10 y11 y12) (vinculumlaw12_EditCounts.j0 (k + 1) y0 y1 y2 y3 y4 y5 y6 y7 y8 y9 y10 y11 y12)) ∧ (∀ y0 y1 y2 y3 y4 y5 y6 y7 y8 y9 y10 y11 y12 y13 y14 y15 y16 y17 y18 y19, LeO (vinculumlaw12_EditCounts.l0 k y0 y1 y2 y3 y4 y5 y6 y7 y8 y9 y10 y11 y12 y13 y14 y15 y16 y17 y18 y19) (vinculumlaw12_EditCounts.l0 (k + 1) y0 y1 y2 y3 y4 y5 y6 y7 y8 y9 y10 y11 y12 y13 y14 y15 y16 y17 y18 y19)) ∧ (∀ y0 y1 y2 y3 y4 y5 y6 y7 y8 y9, LeO (vinculumlaw12_EditCounts.j2 k y0 y1 y2 y3 y4 y5 y6 y7 y8 y9) (vinculumlaw12_EditCounts.j2 (k + 1) y0 y1 y2 y3 y4 y5 y6 y7 y8 y9))
  | 0 => ⟨fun _ _ _ _ _ _ _ _ _ _ _ _ _ r h => by simp [vinculumlaw12_EditCounts.j0] at h, fun _ _ _ _ _ _ _ _ _ _ _ _ _ _ _ _ _ _ _ _ r h => by simp [vinculumlaw12_EditCounts.l0] at h, fun _ _ _ _ _ _ _ _ _ _ r h => by simp [vinculumlaw12_EditCounts.j2] at h⟩
  | k + 1 => by
    obtain ⟨ih0, ih1, ih2⟩ := vinculumlaw12_EditCounts.mono_l k
    refine ⟨?_, ?_, ?_⟩
    · intro y0 y1 y2 y3 y4 y5 y6 y7 y8 y9 y10 y11 y12
      unfold vinculumlaw12_EditCounts.j0
      repeat' first
      | (with_reducible exact ih0 _ _ _ _ _ _ _ _ _ _ _ _ _)
      | (with_reducible exact ih1 _ _ _ _ _ _ _ _ _ _ _ _ _ _ _ _ _ _ _ _)
      | (with_reducible exact ih2 _ _ _ _ _ _ _ _ _ _)
      | (with_reducible exact vinculumlaw12_few.mono _ _ _ _ _ _)
      | (with_reducible exact vinculumref09_Count.mono _ _ _ _ _)
      | (with_reducible exact LeO.refl _)
      | (with_reducible exact LeO.none _)
      | (with_reducible refine LeO.ite ?_ ?_)
      | (with_reducible refine LeO.bind ?_ (fun _ => ?_))
      | exact ih0 _ _ _ _ _ _ _ _ _ _ _ _ _
      | exact ih1 _ _ _ _ _ _ _ _ _ _ _ _ _ _ _ _ _ _ _ _
      | exact ih2 _ _ _ _ _ _ _ _ _ _
      | exact vinculumlaw12_few.mono _ _ _ _ _ _
      | exact vinculumref09_Count.mono _ _ _ _ _
      | exact LeO.none _
      | refine LeO.ite ?_ ?_
      | refine LeO.bind ?_ (fun _ => ?_)
    · intro y0 y1 y2 y3 y4 y5 y6 y7 y8 y9 y10 y11 y12 y13 y14 y15 y16 y17 y18 y19
      unfold vinculumlaw12_EditCounts.l0
      repeat' first
      | (with_reducible exact ih0 _ _ _ _ _ _ _ _ _ _ _ _ _)
      | (with_reducible exact ih1 _ _ _ _ _ _ _ _ _ _ _ _ _ _ _ _ _ _ _ _)
      | (with_reducible exact ih2 _ _ _ _ _ _ _ _ _ _)
      | (with_reducible exact vinculumlaw12_few.mono _ _ _ _ _ _)
      | (with_reducible exact vinculumref09_Count.mono _ _ _ _ _)
      | (with_reducible exact LeO.refl _)
      | (with_reducible exact LeO.none _)
      | (with_reducible refine LeO.ite ?_ ?_)
      | (with_reducible refine LeO.bind ?_ (fun _ => ?_))
      | exact ih0 _ _ _ _ _ _ _ _ _ _ _ _ _
      | exact ih1 _ _ _ _ _ _ _ _ _ _ _ _ _ _ _ _ _ _ _ _
      | exact ih2 _ _ _ _ _ _ _ _ _ _
      | exact vinculumlaw12_few.mono _ _ _ _ _ _
      | exact vinculumref09_Count.mono _ _ _ _ _
      | exact LeO.none _
      | refine LeO.ite ?_ ?_
      | refine LeO.bind ?_ (fun _ => ?_)
    · intro y0 y1 y2 y3 y4 y5 y6 y7 y8 y9
      unfold vinculumlaw12_EditCounts.j2
      repeat' first
      | (with_reducible exact ih0 _ _ _ _ _ _ _ _ _ _ _ _ _)
      | (with_reducible exact ih1 _ _ _ _ _ _ _ _ _ _ _ _ _ _ _ _ _ _ _ _)
      | (with_reducible exact ih2 _ _ _ _ _ _ _ _ _ _)
      | (with_reducible exact vinculumlaw12_few.mono _ _ _ _ _ _)
      | (with_reducible exact vinculumref09_Count.mono _ _ _ _ _)
      | (with_reducible exact LeO.refl _)
      | (with_reducible exact LeO.none _)
      | (with_reducible refine LeO.ite ?_ ?_)
      | (with_reducible refine LeO.bind ?_ (fun _ => ?_))
      | exact ih0 _ _ _ _ _ _ _ _ _ _ _ _ _
      | exact ih1 _ _ _ _ _ _ _ _ _ _ _ _ _ _ _ _ _ _ _ _
      | exact ih2 _ _ _ _ _ _ _ _ _ _
      | exact vinculumlaw12_few.mono _ _ _ _ _ _
      | exact vinculumref09_Count.mono _ _ _ _ _
      | exact LeO.none _
      | refine LeO.ite ?_ ?_
      | refine LeO.bind ?_ (fun _ => ?_)
theorem vinculumlaw12_EditCounts.mono : ∀ a0 a1 a2 a3 a4 a5 a6 a7 a8 a9 a10 a11 k, LeO (vinculumlaw12_EditCounts.f k a0 a1 a2 a3 a4 a5 a6 a7 a8 a9 a10 a11) (vinculumlaw12_EditCounts.f (k + 1) a0 a1 a2 a3 a4 a5 a6 a7 a8 a9 a10 a11) := by
  intro a0 a1 a2 a3 a4 a5 a6 a7 a8 a9 a10 a11 k
  obtain ⟨ih0, ih1, ih2⟩ := vinculumlaw12_EditCounts.mono_l k
  unfold vinculumlaw12_EditCounts.f
  repeat' first
      | (with_reducible exact ih0 _ _ _ _ _ _ _ _ _ _ _ _ _)
      | (with_reducible exact ih1 _ _ _ _ _ _ _ _ _ _ _ _ _ _ _ _ _ _ _ _)
      | (with_reducible exact ih2 _ _ _ _ _ _ _ _ _ _)
      | (with_reducible exact vinculumlaw12_few.mono _ _ _ _ _ _)
      | (with_reducible exact vinculumref09_Count.mono _ _ _ _ _)
      | (with_reducible exact LeO.refl _)
      | (with_reducible exact LeO.none _)
      | (with_reducible refine LeO.ite ?_ ?_)
      | (with_reducible refine LeO.bind ?_ (fun _ => ?_))
      | exact ih0 _ _ _ _ _ _ _ _ _ _ _ _ _
      | exact ih1 _ _ _ _ _ _ _ _ _ _ _ _ _ _ _ _ _ _ _ _
      | exact ih2 _ _ _ _ _ _ _ _ _ _
      | exact vinculumlaw12_few.mono _ _ _ _ _ _
      | exact vinculumref09_Count.mono _ _ _ _ _
      | exact LeO.none _
      | refine LeO.ite ?_ ?_
      | refine LeO.bind ?_ (fun _ => ?_)
def vinculumlaw12_EditCounts.T14 : Bool × List (List Nat × List Nat) := (true, [([], []), ([0], [0]), ([], []), ([2, 1], [2]), ([], []), ([3, 4], [3, 4]), ([1, 5], [1, 5]), ([6, 3, 0, 1, 2, 3, 4, 5, 6], [6])])
def vinculumlaw12_EditCounts.B14 : List Nat := [0, 1, 0, 7, 0, 31, 63, 127]
theorem vinculumlaw12_EditCounts.tab14 : rtab .any (opsOf Tryd.f3 14) = vinculumlaw12_EditCounts.T14 := by kernel_rfl
theorem vinculumlaw12_EditCounts.bits14 : waitsOk vinculumlaw12_EditCounts.T14.2 vinculumlaw12_EditCounts.B14 = true := by kernel_rfl
set_option maxHeartbeats 8000000 in
set_option maxRecDepth 100000 in
theorem vinculumlaw12_EditCounts.calls (k : Nat) (a0_0 : Int) (a0_1 : ByteArray) (a0_2 : Int) (A0_3 : Option Addr) (c0_3 : Nat) (l0_3 : List (S24)) (a1_0 : Int) (P1_1_ : Nat → Prop) (A1_1 : Option Addr) (c1_1 : Nat) (l1_1 : List Int) (a1_2 : Int) (a1_3 : Int) (P1_4_ : Nat → Prop) (A1_4 : Option Addr) (c1_4 : Nat) (l1_4 : List (S24)) (a1_5 : Int) (a1_6 : ByteArray) (a1_7 : ByteArray) (r : Bool) (w : World) (hr0_3 : Kd.C k24 w A0_3 l0_3.length l0_3) (hc0_3 : l0_3.length ≤ c0_3) (hs1_1 : Kd.V (Kd.int .i64) 3 w w.heap.size (fun k_ => P1_1_ k_) (.slice A1_1 l1_1.length c1_1) l1_1) (hs1_4 : Kd.V k24 24 w w.heap.size (fun k_ => P1_4_ k_) (.slice A1_4 l1_4.length c1_4) l1_4) (h : vinculumlaw12_EditCounts.f k a0_0 a0_1 a0_2 l0_3 a1_0 l1_1 a1_2 a1_3 l1_4 a1_5 a1_6 a1_7 = some r) :
    Calls Tryd.prog 3 #[.agg #[.int .i64 a0_0, .string a0_1, .int .i64 a0_2, .slice A0_3 l0_3.length c0_3], .agg #[.int .i64 a1_0, .slice A1_1 l1_1.length c1_1, .int .i64 a1_2, .int .i64 a1_3, .slice A1_4 l1_4.length c1_4, .int .i64 a1_5, .string a1_6, .string a1_7]] w fun e w' => e = .returned (.bool r) ∧ Below w.heap.size w w' := by
  have hu24 := Tryd.underlying24
  have hu27 := Tryd.underlying27
  have HR0_3 := Aside0.mk hr0_3
  have HC0_3 := Aside0.mk hc0_3
  clear hr0_3 hc0_3
  have HO1_1 := Aside0.mk (show Kd.V (Kd.int .i64) 3 w w.heap.size (fun k_ => ((P1_1_ k_ ∨ P1_4_ k_) ∨ w.heap.size ≤ k_)) (.slice A1_1 l1_1.length c1_1) l1_1 from Kd.V_mono hs1_1 (fun k_ hk => .inl (.inl hk)))
  have HO1_4 := Aside0.mk (show Kd.V k24 24 w w.heap.size (fun k_ => ((P1_1_ k_ ∨ P1_4_ k_) ∨ w.heap.size ≤ k_)) (.slice A1_4 l1_4.length c1_4) l1_4 from Kd.V_mono hs1_4 (fun k_ hk => .inl (.inr hk)))
  have HB := Aside0.mk (Below.refl w.heap.size w)
  have H : ((vinculumlaw12_awake.f).bind fun t190 => (if t190 = true then ((vinculumlaw12_few.f k a0_0 a0_1 a0_2 l0_3 (([(⟨a1_0, l1_1, a1_2, a1_3, l1_4, a1_5, a1_6, a1_7⟩ : S27)] : List (S27)))).bind fun t194 => (vinculumlaw12_EditCounts.j0 k (!t194) a0_0 a0_1 a0_2 l0_3 a1_0 l1_1 a1_2 a1_3 l1_4 a1_5 a1_6 a1_7)) else (vinculumlaw12_EditCounts.j0 k true a0_0 a0_1 a0_2 l0_3 a1_0 l1_1 a1_2 a1_3 l1_4 a1_5 a1_6 a1_7))) = some r := h
  clear h
  have HC3 := Aside0.mk H
  clear H
  go_enter Tryd.func3, Tryd.ntmps3
  go_upto_region 1 with (first | ((with_reducible refine gate_dst (N := 2) rfl ?_); (try (refine gate_guard (by rfl) ?_; dsimp only)); refine box_event ?hg (N := 2) ?hd (cs := #[.int .i64 a0_0, .string a0_1, .int .i64 a0_2, .slice A0_3 l0_3.length c0_3]) (t := 24) ?hr ?_; (case hd => rfl); (case hg => rfl); (case hr => first | (go_simp; done) | (go_simp; rfl)); intro gb188 hg w4 hbox hb; have n0_ := Aside0.mk (Kd.V_below (Kd.V_elderB (by (with_reducible repeat (first | apply Kd.V_alloc | apply Kd.V_drewN | apply Kd.V_drew)); exact HO1_1.out) gb188 (Nat.le_of_eq hg.symm)) hb); have n1_ := Aside0.mk (Kd.V_below (Kd.V_elderB (by (with_reducible repeat (first | apply Kd.V_alloc | apply Kd.V_drewN | apply Kd.V_drew)); exact HO1_4.out) gb188 (Nat.le_of_eq hg.symm)) hb); have n2_ := Aside0.mk (below_step (by repeat (first | (with_reducible first | exact HB.out | apply below_alloc | apply pw_below_drewN | apply below_drew1) | exact HB.out)) hb); have n3_ := Aside0.mk (hbox); have n4_ := Aside0.mk ((by rw [hg]; exact (below_size (by repeat (first | (with_reducible first | exact HB.out | apply below_alloc | apply pw_below_drewN | apply below_drew1) | exact HB.out))) : w.heap.size ≤ gb188)); have n5_ := Aside0.mk ((by rw [hg]; exact (below_size (by repeat (first | (with_reducible first | exact HB.out | apply below_alloc | apply pw_below_drewN | apply below_drew1) | exact HB.out))) : w.heap.size ≤ gb188)); clear HO1_1; clear HO1_4; clear HB; have HO1_1 := n0_; have HO1_4 := n1_; have HB := n2_; have BK188 := n3_; have GW188 := n4_; have GE188 := n5_; clear n0_ n1_ n2_ n3_ n4_ n5_; clear hb hbox hg) | ((with_reducible refine gate_dst (N := 3) rfl ?_); (try (refine gate_guard (by rfl) ?_; dsimp only)); refine box_event ?hg (N := 3) ?hd (cs := #[.int .i64 a1_0, .slice A1_1 l1_1.length c1_1, .int .i64 a1_2, .int .i64 a1_3, .slice A1_4 l1_4.length c1_4, .int .i64 a1_5, .string a1_6, .string a1_7]) (t := 27) ?hr ?_; (case hd => rfl); (case hg => rfl); (case hr => first | (go_simp; done) | (go_simp; rfl)); intro gb189 hg w5 hbox hb; have n0_ := Aside0.mk (Kd.V_below (Kd.V_elderB (by (with_reducible repeat (first | apply Kd.V_alloc | apply Kd.V_drewN | apply Kd.V_drew)); exact HO1_1.out) gb189 (Nat.le_of_eq hg.symm)) hb); have n1_ := Aside0.mk (Kd.V_below (Kd.V_elderB (by (with_reducible repeat (first | apply Kd.V_alloc | apply Kd.V_drewN | apply Kd.V_drew)); exact HO1_4.out) gb189 (Nat.le_of_eq hg.symm)) hb); have n2_ := Aside0.mk (blk_below (g := gb188) (o := .cells #[.int .i64 a0_0, .string a0_1, .int .i64 a0_2, .slice A0_3 l0_3.length c0_3] 24 (0, 0)) (by (with_reducible repeat (first | refine blk_drewN ?_ _ | refine blk_drew ?_ | refine blk_alloc ?_ _)); exact BK188.out) hb); have n3_ := Aside0.mk (below_step (by repeat (first | (with_reducible first | exact HB.out | apply below_alloc | apply pw_below_drewN | apply below_drew1 | refine below_set ?_ GE188.out) | exact HB.out)) hb); have n4_ := Aside0.mk (hbox); have n5_ := Aside0.mk ((by rw [hg]; exact (below_size (by repeat (first | (with_reducible first | exact HB.out | apply below_alloc | apply pw_below_drewN | apply below_drew1 | refine below_set ?_ GE188.out) | exact HB.out))) : w.heap.size ≤ gb189)); have n6_ := Aside0.mk ((by rw [hg]; exact (below_size (by repeat (first | (with_reducible first | exact HB.out | apply below_alloc | apply pw_below_drewN | apply below_drew1 | refine below_set ?_ GE188.out) | exact HB.out))) : w.heap.size ≤ gb189)); have n7_ := Aside0.mk ((by rw [hg]; exact Nat.ne_of_lt (blk_lt (g := gb188) (o := .cells #[.int .i64 a0_0, .string a0_1, .int .i64 a0_2, .slice A0_3 l0_3.length c0_3] 24 (0, 0)) (by (with_reducible repeat (first | refine blk_drewN ?_ _ | refine blk_drew ?_ | refine blk_alloc ?_ _)); exact BK188.out)) : gb188 ≠ gb189)); have n8_ := Aside0.mk ((by rw [hg]; exact Nat.ne_of_gt (blk_lt (g := gb188) (o := .cells #[.int .i64 a0_0, .string a0_1, .int .i64 a0_2, .slice A0_3 l0_3.length c0_3] 24 (0, 0)) (by (with_reducible repeat (first | refine blk_drewN ?_ _ | refine blk_drew ?_ | refine blk_alloc ?_ _)); exact BK188.out)) : gb189 ≠ gb188)); clear HO1_1; clear HO1_4; clear BK188; clear HB; have HO1_1 := n0_; have HO1_4 := n1_; have BK188 := n2_; have HB := n3_; have BK189 := n4_; have GW189 := n5_; have GE189 := n6_; have NB188_189 := n7_; have NB189_188 := n8_; clear n0_ n1_ n2_ n3_ n4_ n5_ n6_ n7_ n8_; clear hb hbox hg))
  (try simp only [Act.put, List.setIfInBounds_toArray, List.set_cons_zero, List.set_cons_succ])
  go_cut [18] (fun v18 wc => ∃ (kq : Nat) (x18_2 : Bool), v18 = .bool x18_2 ∧ Aside0 (vinculumlaw12_EditCounts.j0 kq x18_2 a0_0 a0_1 a0_2 l0_3 a1_0 l1_1 a1_2 a1_3 l1_4 a1_5 a1_6 a1_7 = some r) ∧ Aside0 (kq ≤ k) ∧ Aside0 (Kd.V (Kd.int .i64) 3 wc w.heap.size (fun k_ => ((P1_1_ k_ ∨ P1_4_ k_) ∨ w.heap.size ≤ k_) ∧ k_ ≠ gb188 ∧ k_ ≠ gb189) (.slice A1_1 l1_1.length c1_1) l1_1) ∧ Aside0 (Kd.V k24 24 wc w.heap.size (fun k_ => ((P1_1_ k_ ∨ P1_4_ k_) ∨ w.heap.size ≤ k_) ∧ k_ ≠ gb188 ∧ k_ ≠ gb189) (.slice A1_4 l1_4.length c1_4) l1_4) ∧ Aside0 (wc.heap[gb188]? = some (.cells #[.int .i64 a0_0, .string a0_1, .int .i64 a0_2, (.slice A0_3 l0_3.length c0_3)] 24 (0, 0))) ∧ Aside0 (wc.heap[gb189]? = some (.cells #[.int .i64 a1_0, (.slice A1_1 l1_1.length c1_1), .int .i64 a1_2, .int .i64 a1_3, (.slice A1_4 l1_4.length c1_4), .int .i64 a1_5, .string a1_6, .string a1_7] 27 (0, 0))) ∧ Aside0 (Below w.heap.size w wc))
  case first =>
    have H := HC3.out
    clear HC3
    replace H := Option.bind_eq_some_iff.mp H
    obtain ⟨t190, A60, H⟩ := H
    replace H : (if t190 = true then ((vinculumlaw12_few.f k a0_0 a0_1 a0_2 l0_3 (([(⟨a1_0, l1_1, a1_2, a1_3, l1_4, a1_5, a1_6, a1_7⟩ : S27)] : List (S27)))).bind fun t194 => (vinculumlaw12_EditCounts.j0 k (!t194) a0_0 a0_1 a0_2 l0_3 a1_0 l1_1 a1_2 a1_3 l1_4 a1_5 a1_6 a1_7)) else (vinculumlaw12_EditCounts.j0 k true a0_0 a0_1 a0_2 l0_3 a1_0 l1_1 a1_2 a1_3 l1_4 a1_5 a1_6 a1_7)) = some r := H
    have A6 := Aside0.mk A60
    clear A60
    by_cases c7 : t190 = true
    · subst c7
      have H1 : ((vinculumlaw12_few.f k a0_0 a0_1 a0_2 l0_3 (([(⟨a1_0, l1_1, a1_2, a1_3, l1_4, a1_5, a1_6, a1_7⟩ : S27)] : List (S27)))).bind fun t194 => (vinculumlaw12_EditCounts.j0 k (!t194) a0_0 a0_1 a0_2 l0_3 a1_0 l1_1 a1_2 a1_3 l1_4 a1_5 a1_6 a1_7)) = some r := by rw [if_pos rfl] at H; exact H
      clear H
      have H := H1
      clear H1
      obtain ⟨y191, hy191⟩ : ∃ y_ : List (S27), y_ = (([(⟨a1_0, l1_1, a1_2, a1_3, l1_4, a1_5, a1_6, a1_7⟩ : S27)] : List (S27))) := ⟨_, rfl⟩
      replace H : ((vinculumlaw12_few.f k a0_0 a0_1 a0_2 l0_3 y191).bind fun t194 => (vinculumlaw12_EditCounts.j0 k (!t194) a0_0 a0_1 a0_2 l0_3 a1_0 l1_1 a1_2 a1_3 l1_4 a1_5 a1_6 a1_7)) = some r := by first | (rw [hy191]; with_reducible exact H) | (have H2_ := (Option.bind_some _ _).symm.trans H; rw [hy191]; with_reducible exact H2_) | (have H2_ := (Option.bind_some _ _).symm.trans H; with_reducible exact H2_) | with_reducible exact H | (rw [hy191]; exact H) | exact H
      have Ny191 := Aside0.mk hy191
      clear hy191
      replace H := Option.bind_eq_some_iff.mp H
      obtain ⟨t194, A80, H⟩ := H
      replace H : (vinculumlaw12_EditCounts.j0 k (!t194) a0_0 a0_1 a0_2 l0_3 a1_0 l1_1 a1_2 a1_3 l1_4 a1_5 a1_6 a1_7) = some r := H
      have A8 := Aside0.mk A80
      clear A80
      have H' := Aside0.mk H
      clear H
      go_wp2_with (first | ((with_reducible refine gate_callee (f := 9) rfl ?_); refine goesL_ (some 10) rfl rfl Tryd.func9 (by kernel_rfl) rfl #[] rfl (by (try simp only [List.map_toArray, List.map_cons, List.map_nil]); first | done | rfl | (simp only [List.length_drop, List.length_take]; rfl)) ?_; (with_reducible refine (vinculumlaw12_awake.calls  true _ A6.out).mono ?_); rintro e w9 ⟨rfl, hb⟩; refine ⟨_, rfl, ?_⟩; have n0_ := Aside0.mk (Kd.V_below (by (with_reducible repeat (first | apply Kd.V_alloc | apply Kd.V_drewN | apply Kd.V_drew)); exact HO1_1.out) hb); have n1_ := Aside0.mk (Kd.V_below (by (with_reducible repeat (first | apply Kd.V_alloc | apply Kd.V_drewN | apply Kd.V_drew)); exact HO1_4.out) hb); have n2_ := Aside0.mk (blk_below (g := gb188) (o := .cells #[.int .i64 a0_0, .string a0_1, .int .i64 a0_2, .slice A0_3 l0_3.length c0_3] 24 (0, 0)) (by (with_reducible repeat (first | refine blk_drewN ?_ _ | refine blk_drew ?_ | refine blk_alloc ?_ _)); exact BK188.out) hb); have n3_ := Aside0.mk (blk_below (g := gb189) (o := .cells #[.int .i64 a1_0, .slice A1_1 l1_1.length c1_1, .int .i64 a1_2, .int .i64 a1_3, .slice A1_4 l1_4.length c1_4, .int .i64 a1_5, .string a1_6, .string a1_7] 27 (0, 0)) (by (with_reducible repeat (first | refine blk_drewN ?_ _ | refine blk_drew ?_ | refine blk_alloc ?_ _)); exact BK189.out) hb); have n4_ := Aside0.mk (below_step (by repeat (first | (with_reducible first | exact HB.out | apply below_alloc | apply pw_below_drewN | apply below_drew1 | refine below_set ?_ GE188.out | refine below_set ?_ GE189.out) | exact HB.out)) hb); clear HO1_1; clear HO1_4; clear BK188; clear BK189; clear HB; have HO1_1 := n0_; have HO1_4 := n1_; have BK188 := n2_; have BK189 := n3_; have HB := n4_; clear n0_ n1_ n2_ n3_ n4_; (try clear hb); (try clear hb2); (try clear hk); (try clear hi); have hnb10 := NB188_189.out; have hnc10 := NB189_188.out; have hcz11_0 : w9.cell? ⟨gb188, 0, none⟩ = some (.int .i64 a0_0) := (blk_cell BK188.out 0).trans rfl; have hcz11_1 : w9.cell? ⟨gb188, 1, none⟩ = some (.string a0_1) := (blk_cell BK188.out 1).trans rfl; have hcz11_2 : w9.cell? ⟨gb188, 2, none⟩ = some (.int .i64 a0_2) := (blk_cell BK188.out 2).trans rfl; have hcz11_3 : w9.cell? ⟨gb188, 3, none⟩ = some (.slice A0_3 l0_3.length c0_3) := (blk_cell BK188.out 3).trans rfl; have hfz11_0 := blk_frozen BK188.out 0; have hfz11_1 := blk_frozen BK188.out 1; have hfz11_2 := blk_frozen BK188.out 2; have hfz11_3 := blk_frozen BK188.out 3; have hcz12_0 : w9.cell? ⟨gb189, 0, none⟩ = some (.int .i64 a1_0) := (blk_cell BK189.out 0).trans rfl; have hcz12_1 : w9.cell? ⟨gb189, 1, none⟩ = some (.slice A1_1 l1_1.length c1_1) := (blk_cell BK189.out 1).trans rfl; have hcz12_2 : w9.cell? ⟨gb189, 2, none⟩ = some (.int .i64 a1_2) := (blk_cell BK189.out 2).trans rfl; have hcz12_3 : w9.cell? ⟨gb189, 3, none⟩ = some (.int .i64 a1_3) := (blk_cell BK189.out 3).trans rfl; have hcz12_4 : w9.cell? ⟨gb189, 4, none⟩ = some (.slice A1_4 l1_4.length c1_4) := (blk_cell BK189.out 4).trans rfl; have hcz12_5 : w9.cell? ⟨gb189, 5, none⟩ = some (.int .i64 a1_5) := (blk_cell BK189.out 5).trans rfl; have hcz12_6 : w9.cell? ⟨gb189, 6, none⟩ = some (.string a1_6) := (blk_cell BK189.out 6).trans rfl; have hcz12_7 : w9.cell? ⟨gb189, 7, none⟩ = some (.string a1_7) := (blk_cell BK189.out 7).trans rfl; have hfz12_0 := blk_frozen BK189.out 0; have hfz12_1 := blk_frozen BK189.out 1; have hfz12_2 := blk_frozen BK189.out 2; have hfz12_3 := blk_frozen BK189.out 3; have hfz12_4 := blk_frozen BK189.out 4; have hfz12_5 := blk_frozen BK189.out 5; have hfz12_6 := blk_frozen BK189.out 6; have hfz12_7 := blk_frozen BK189.out 7) | ((with_reducible refine gate_dst (N := 15) rfl ?_); (try (refine gate_guard (by rfl) ?_; dsimp only)); refine Kd.N_lit k27 _ 27 ?hg (N' := 15) ?hd (xs := ([(⟨a1_0, l1_1, a1_2, a1_3, l1_4, a1_5, a1_6, a1_7⟩ : S27)] : List (S27))) (inner := [.int .i64 a1_0, .slice A1_1 l1_1.length c1_1, .int .i64 a1_2, .int .i64 a1_3, .slice A1_4 l1_4.length c1_4, .int .i64 a1_5, .string a1_6, .string a1_7]) (ok := (fun k_ => ((P1_1_ k_ ∨ P1_4_ k_) ∨ w.heap.size ≤ k_) ∧ k_ ≠ gb188 ∧ k_ ≠ gb189)) (okp := (fun k_ => ((P1_1_ k_ ∨ P1_4_ k_) ∨ w.heap.size ≤ k_) ∧ k_ ≠ gb188 ∧ k_ ≠ gb189)) ?hr ?hp (fun _ hk => hk) ((show ∀ k_, w9.heap.size ≤ k_ → (fun k_ => ((P1_1_ k_ ∨ P1_4_ k_) ∨ w.heap.size ≤ k_) ∧ k_ ≠ gb188 ∧ k_ ≠ gb189) k_ from fun k_ hk => ⟨(.inr (Nat.le_trans (below_size (by repeat (first | (with_reducible first | exact HB.out | apply below_alloc | apply pw_below_drewN | apply below_drew1 | refine below_set ?_ GE188.out | refine below_set ?_ GE189.out) | exact HB.out))) hk)), Kd.freshB (g := gb188) (o := .cells #[.int .i64 a0_0, .string a0_1, .int .i64 a0_2, .slice A0_3 l0_3.length c0_3] 24 (0, 0)) (by (with_reducible repeat (first | refine blk_drewN ?_ _ | refine blk_drew ?_ | refine blk_alloc ?_ _)); exact BK188.out) k_ hk, Kd.freshB (g := gb189) (o := .cells #[.int .i64 a1_0, .slice A1_1 l1_1.length c1_1, .int .i64 a1_2, .int .i64 a1_3, .slice A1_4 l1_4.length c1_4, .int .i64 a1_5, .string a1_6, .string a1_7] 27 (0, 0)) (by (with_reducible repeat (first | refine blk_drewN ?_ _ | refine blk_drew ?_ | refine blk_alloc ?_ _)); exact BK189.out) k_ hk⟩) _ (Nat.le_refl _)) (Below.refl _ _) (Nat.le_refl _) (by simp) ?_; (case hd => rfl); (case hg => rfl); (case hr => first | (go_simp; done) | (go_simp; rfl)); (case hp => exact (Reps.c8 (show Kd.FK k27 _ _ (⟨a1_0, l1_1, a1_2, a1_3, l1_4, a1_5, a1_6, a1_7⟩ : S27) [.int .i64 a1_0, .slice A1_1 l1_1.length c1_1, .int .i64 a1_2, .int .i64 a1_3, .slice A1_4 l1_4.length c1_4, .int .i64 a1_5, .string a1_6, .string a1_7] from (k27_mkF _ _ (⟨a1_0, l1_1, a1_2, a1_3, l1_4, a1_5, a1_6, a1_7⟩ : S27) (Kd.V_reads' (Kd.V_mono (ok' := (fun k_ => ((P1_1_ k_ ∨ P1_4_ k_) ∨ w.heap.size ≤ k_) ∧ k_ ≠ gb188 ∧ k_ ≠ gb189)) (HO1_1.out) (fun k_ hk => ⟨hk.1.1, ⟨hk.1.2, hk.2⟩⟩))).2.1 (Kd.V_F (Kd.V_mono (ok' := (fun k_ => ((P1_1_ k_ ∨ P1_4_ k_) ∨ w.heap.size ≤ k_) ∧ k_ ≠ gb188 ∧ k_ ≠ gb189)) (HO1_1.out) (fun k_ hk => ⟨hk.1.1, ⟨hk.1.2, hk.2⟩⟩))) (Kd.V_reads' (Kd.V_mono (ok' := (fun k_ => ((P1_1_ k_ ∨ P1_4_ k_) ∨ w.heap.size ≤ k_) ∧ k_ ≠ gb188 ∧ k_ ≠ gb189)) (HO1_4.out) (fun k_ hk => ⟨hk.1.1, ⟨hk.1.2, hk.2⟩⟩))).2.1 (Kd.V_F (Kd.V_mono (ok' := (fun k_ => ((P1_1_ k_ ∨ P1_4_ k_) ∨ w.heap.size ≤ k_) ∧ k_ ≠ gb188 ∧ k_ ≠ gb189)) (HO1_4.out) (fun k_ hk => ⟨hk.1.1, ⟨hk.1.2, hk.2⟩⟩))))) (Reps.none _ _))); intro v192 w13 ho14 hb hg_ hnew_; clear hg_ hnew_; (first | rw [← Ny191.out] at ho14 | (simp only [Int.reduceToNat] at ho14; rw [← Ny191.out] at ho14)); have n0_ := Aside0.mk (Kd.V_elder' (by (with_reducible repeat (first | apply Kd.V_alloc | apply Kd.V_drewN | apply Kd.V_drew)); exact HO1_1.out) (by first | exact Kd.N_base ho14 | exact Kd.R_base ho14) hb); have n1_ := Aside0.mk (Kd.V_elder' (by (with_reducible repeat (first | apply Kd.V_alloc | apply Kd.V_drewN | apply Kd.V_drew)); exact HO1_4.out) (by first | exact Kd.N_base ho14 | exact Kd.R_base ho14) hb); have n2_ := Aside0.mk (Kd.N_lower ho14 (below_size (by repeat (first | (with_reducible first | exact HB.out | apply below_alloc | apply pw_below_drewN | apply below_drew1 | refine below_set ?_ GE188.out | refine below_set ?_ GE189.out) | exact HB.out)))); have n3_ := Aside0.mk (blk_below (g := gb188) (o := .cells #[.int .i64 a0_0, .string a0_1, .int .i64 a0_2, .slice A0_3 l0_3.length c0_3] 24 (0, 0)) (by (with_reducible repeat (first | refine blk_drewN ?_ _ | refine blk_drew ?_ | refine blk_alloc ?_ _)); exact BK188.out) hb); have n4_ := Aside0.mk (blk_below (g := gb189) (o := .cells #[.int .i64 a1_0, .slice A1_1 l1_1.length c1_1, .int .i64 a1_2, .int .i64 a1_3, .slice A1_4 l1_4.length c1_4, .int .i64 a1_5, .string a1_6, .string a1_7] 27 (0, 0)) (by (with_reducible repeat (first | refine blk_drewN ?_ _ | refine blk_drew ?_ | refine blk_alloc ?_ _)); exact BK189.out) hb); have n5_ := Aside0.mk (below_step (by repeat (first | (with_reducible first | exact HB.out | apply below_alloc | apply pw_below_drewN | apply below_drew1 | refine below_set ?_ GE188.out | refine below_set ?_ GE189.out) | exact HB.out)) hb); clear HO1_1; clear HO1_4; clear BK188; clear BK189; clear HB; have HO1_1 := n0_; have HO1_4 := n1_; have HO193 := n2_; have BK188 := n3_; have BK189 := n4_; have HB := n5_; clear n0_ n1_ n2_ n3_ n4_ n5_; clear hb ho14; obtain ⟨Ao15, co15, eo15⟩ := Kd.N_slice HO193.out; subst eo15) | (go_at_call 10; (with_reducible refine (vinculumlaw12_few.calls k a0_0 a0_1 a0_2 _ _ l0_3 _ _ y191 t194 _ ?side1 ?side2 ?side3 ?side4 A8.out).mono ?_); (case side1 => repeat (first | exact (Kd.C_below HR0_3.out HB.out) | (with_reducible refine Kd.C_alloc ?_ _) | (with_reducible refine Kd.C_drewN ?_ _) | (with_reducible refine Kd.C_drew ?_))); (case side2 => exact HC0_3.out); (case side3 => repeat (first | exact (Kd.N_reads' HO193.out).2.2 | (with_reducible refine Kd.C_alloc ?_ _) | (with_reducible refine Kd.C_drewN ?_ _) | (with_reducible refine Kd.C_drew ?_))); (case side4 => exact (Kd.N_reads' HO193.out).2.1); rintro e w16 ⟨rfl, hb⟩; have n0_ := Aside0.mk (Kd.V_below (by (with_reducible repeat (first | apply Kd.V_alloc | apply Kd.V_drewN | apply Kd.V_drew)); exact HO1_1.out) hb); have n1_ := Aside0.mk (Kd.V_below (by (with_reducible repeat (first | apply Kd.V_alloc | apply Kd.V_drewN | apply Kd.V_drew)); exact HO1_4.out) hb); have n2_ := Aside0.mk (Kd.N_below (by (with_reducible repeat (first | apply Kd.N_alloc | apply Kd.N_drewN | apply Kd.N_drew)); exact HO193.out) hb); have n3_ := Aside0.mk (blk_below (g := gb188) (o := .cells #[.int .i64 a0_0, .string a0_1, .int .i64 a0_2, .slice A0_3 l0_3.length c0_3] 24 (0, 0)) (by (with_reducible repeat (first | refine blk_drewN ?_ _ | refine blk_drew ?_ | refine blk_alloc ?_ _)); exact BK188.out) hb); have n4_ := Aside0.mk (blk_below (g := gb189) (o := .cells #[.int .i64 a1_0, .slice A1_1 l1_1.length c1_1, .int .i64 a1_2, .int .i64 a1_3, .slice A1_4 l1_4.length c1_4, .int .i64 a1_5, .string a1_6, .string a1_7] 27 (0, 0)) (by (with_reducible repeat (first | refine blk_drewN ?_ _ | refine blk_drew ?_ | refine blk_alloc ?_ _)); exact BK189.out) hb); have n5_ := Aside0.mk (below_step (by repeat (first | (with_reducible first | exact HB.out | apply below_alloc | apply pw_below_drewN | apply below_drew1 | refine below_set ?_ GE188.out | refine below_set ?_ GE189.out) | exact HB.out)) hb); clear HO1_1; clear HO1_4; clear HO193; clear BK188; clear BK189; clear HB; have HO1_1 := n0_; have HO1_4 := n1_; have HO193 := n2_; have BK188 := n3_; have BK189 := n4_; have HB := n5_; clear n0_ n1_ n2_ n3_ n4_ n5_; (try clear hb); (try clear hb2); (try clear hk); (try clear hi)))
      go_meet
      case rel => exact ⟨_, (!t194), (by first | rfl | (simp; done) | (simp [*]; done)), H', ⟨by first | omega | exact Nat.le_refl _⟩, ⟨by (with_reducible repeat (first | apply Kd.V_alloc | apply Kd.V_drewN | apply Kd.V_drew)); exact Kd.V_mono HO1_1.out (fun _ hk => ⟨hk.1.1.1, ⟨hk.1.1.2, hk.1.2⟩⟩)⟩, ⟨by (with_reducible repeat (first | apply Kd.V_alloc | apply Kd.V_drewN | apply Kd.V_drew)); exact Kd.V_mono HO1_4.out (fun _ hk => ⟨hk.1.1.1, ⟨hk.1.1.2, hk.1.2⟩⟩)⟩, ⟨by (with_reducible repeat (first | refine blk_drewN ?_ _ | refine blk_drew ?_ | refine blk_alloc ?_ _)); exact BK188.out⟩, ⟨by (with_reducible repeat (first | refine blk_drewN ?_ _ | refine blk_drew ?_ | refine blk_alloc ?_ _)); exact BK189.out⟩, ⟨by repeat (first | (with_reducible first | exact HB.out | apply below_alloc | apply pw_below_drewN | apply below_drew1 | refine below_set ?_ GE188.out | refine below_set ?_ GE189.out) | exact HB.out)⟩⟩
    · replace c7 := Bool.eq_false_iff.mpr c7
      subst c7
      have H1 : (vinculumlaw12_EditCounts.j0 k true a0_0 a0_1 a0_2 l0_3 a1_0 l1_1 a1_2 a1_3 l1_4 a1_5 a1_6 a1_7) = some r := by rw [if_neg (show ¬ (false = true) by decide)] at H; exact H
      clear H
      have H := H1
      clear H1
      have H' := Aside0.mk H
      clear H
      go_wp2_with (first | ((with_reducible refine gate_callee (f := 9) rfl ?_); refine goesL_ (some 10) rfl rfl Tryd.func9 (by kernel_rfl) rfl #[] rfl (by (try simp only [List.map_toArray, List.map_cons, List.map_nil]); first | done | rfl | (simp only [List.length_drop, List.length_take]; rfl)) ?_; (with_reducible refine (vinculumlaw12_awake.calls  false _ A6.out).mono ?_); rintro e w17 ⟨rfl, hb⟩; refine ⟨_, rfl, ?_⟩; have n0_ := Aside0.mk (Kd.V_below (by (with_reducible repeat (first | apply Kd.V_alloc | apply Kd.V_drewN | apply Kd.V_drew)); exact HO1_1.out) hb); have n1_ := Aside0.mk (Kd.V_below (by (with_reducible repeat (first | apply Kd.V_alloc | apply Kd.V_drewN | apply Kd.V_drew)); exact HO1_4.out) hb); have n2_ := Aside0.mk (blk_below (g := gb188) (o := .cells #[.int .i64 a0_0, .string a0_1, .int .i64 a0_2, .slice A0_3 l0_3.length c0_3] 24 (0, 0)) (by (with_reducible repeat (first | refine blk_drewN ?_ _ | refine blk_drew ?_ | refine blk_alloc ?_ _)); exact BK188.out) hb); have n3_ := Aside0.mk (blk_below (g := gb189) (o := .cells #[.int .i64 a1_0, .slice A1_1 l1_1.length c1_1, .int .i64 a1_2, .int .i64 a1_3, .slice A1_4 l1_4.length c1_4, .int .i64 a1_5, .string a1_6, .string a1_7] 27 (0, 0)) (by (with_reducible repeat (first | refine blk_drewN ?_ _ | refine blk_drew ?_ | refine blk_alloc ?_ _)); exact BK189.out) hb); have n4_ := Aside0.mk (below_step (by repeat (first | (with_reducible first | exact HB.out | apply below_alloc | apply pw_below_drewN | apply below_drew1 | refine below_set ?_ GE188.out | refine below_set ?_ GE189.out) | exact HB.out)) hb); clear HO1_1; clear HO1_4; clear BK188; clear BK189; clear HB; have HO1_1 := n0_; have HO1_4 := n1_; have BK188 := n2_; have BK189 := n3_; have HB := n4_; clear n0_ n1_ n2_ n3_ n4_; (try clear hb); (try clear hb2); (try clear hk); (try clear hi)))
      go_meet
      case rel => exact ⟨_, (true), (by first | rfl | (simp; done) | (simp [*]; done)), H', ⟨by first | omega | exact Nat.le_refl _⟩, ⟨by (with_reducible repeat (first | apply Kd.V_alloc | apply Kd.V_drewN | apply Kd.V_drew)); exact Kd.V_mono HO1_1.out (fun _ hk => ⟨hk.1.1, ⟨hk.1.2, hk.2⟩⟩)⟩, ⟨by (with_reducible repeat (first | apply Kd.V_alloc | apply Kd.V_drewN | apply Kd.V_drew)); exact Kd.V_mono HO1_4.out (fun _ hk => ⟨hk.1.1, ⟨hk.1.2, hk.2⟩⟩)⟩, ⟨by (with_reducible repeat (first | refine blk_drewN ?_ _ | refine blk_drew ?_ | refine blk_alloc ?_ _)); exact BK188.out⟩, ⟨by (with_reducible repeat (first | refine blk_drewN ?_ _ | refine blk_drew ?_ | refine blk_alloc ?_ _)); exact BK189.out⟩, ⟨by repeat (first | (with_reducible first | exact HB.out | apply below_alloc | apply pw_below_drewN | apply below_drew1 | refine below_set ?_ GE188.out | refine below_set ?_ GE189.out) | exact HB.out)⟩⟩
  case rest =>
    clear HC3
    try clear c1
    try clear p2
    try clear c3
    try clear c7
    try clear c8
    try clear c9
    try clear c10
    try clear hcz11_0
    try clear hcz11_1
    try clear hcz11_2
    try clear hcz11_3
    try clear hcz12_0
    try clear hcz12_1
    try clear hcz12_2
    try clear hcz12_3
    try clear hcz12_4
    try clear hcz12_5
    try clear hcz12_6
    try clear hcz12_7
    try clear hfz11_0
    try clear hfz11_1
    try clear hfz11_2
    try clear hfz11_3
    try clear hfz12_0
    try clear hfz12_1
    try clear hfz12_2
    try clear hfz12_3
    try clear hfz12_4
    try clear hfz12_5
    try clear hfz12_6
    try clear hfz12_7
    obtain ⟨kq, x18_2, rfl, HA, HJ2, HO_190001, HO_190004, BK188, BK189, HB⟩ := hcut
    cases kq with
    | zero => exact absurd HA.out (by simp [vinculumlaw12_EditCounts.j0])
    | succ kj2 =>
      have H := HA.out
      clear HA
      simp only [vinculumlaw12_EditCounts.j0] at H
      by_cases c18 : x18_2 = true
      · subst c18
        have H1 : ((vinculumlaw12_awake.f).bind fun t195 => (some t195)) = some r := by rw [if_pos rfl] at H; exact H
        clear H
        have H := H1
        clear H1
        replace H := Option.bind_eq_some_iff.mp H
        obtain ⟨t195, A190, H⟩ := H
        replace H : (some t195) = some r := H
        have A19 := Aside0.mk A190
        clear A190
        obtain rfl := Option.some.inj H
        go_wp2_with (first | ((with_reducible refine gate_callee (f := 9) rfl ?_); refine goesL_ (some 19) rfl rfl Tryd.func9 (by kernel_rfl) rfl #[] rfl (by (try simp only [List.map_toArray, List.map_cons, List.map_nil]); first | done | rfl | (simp only [List.length_drop, List.length_take]; rfl)) ?_; (with_reducible refine (vinculumlaw12_awake.calls  t195 _ A19.out).mono ?_); rintro e w20 ⟨rfl, hb⟩; refine ⟨_, rfl, ?_⟩; have n0_ := Aside0.mk (Kd.V_below (by (with_reducible repeat (first | apply Kd.V_alloc | apply Kd.V_drewN | apply Kd.V_drew)); exact HO_190001.out) hb); have n1_ := Aside0.mk (Kd.V_below (by (with_reducible repeat (first | apply Kd.V_alloc | apply Kd.V_drewN | apply Kd.V_drew)); exact HO_190004.out) hb); have n2_ := Aside0.mk (blk_below (g := gb188) (o := .cells #[.int .i64 a0_0, .string a0_1, .int .i64 a0_2, .slice A0_3 l0_3.length c0_3] 24 (0, 0)) (by (with_reducible repeat (first | refine blk_drewN ?_ _ | refine blk_drew ?_ | refine blk_alloc ?_ _)); exact BK188.out) hb); have n3_ := Aside0.mk (blk_below (g := gb189) (o := .cells #[.int .i64 a1_0, .slice A1_1 l1_1.length c1_1, .int .i64 a1_2, .int .i64 a1_3, .slice A1_4 l1_4.length c1_4, .int .i64 a1_5, .string a1_6, .string a1_7] 27 (0, 0)) (by (with_reducible repeat (first | refine blk_drewN ?_ _ | refine blk_drew ?_ | refine blk_alloc ?_ _)); exact BK189.out) hb); have n4_ := Aside0.mk (below_step (by repeat (first | (with_reducible first | exact HB.out | apply below_alloc | apply pw_below_drewN | apply below_drew1 | refine below_set ?_ GE188.out | refine below_set ?_ GE189.out) | exact HB.out)) hb); clear HO_190001; clear HO_190004; clear BK188; clear BK189; clear HB; have HO_190001 := n0_; have HO_190004 := n1_; have BK188 := n2_; have BK189 := n3_; have HB := n4_; clear n0_ n1_ n2_ n3_ n4_; (try clear hb); (try clear hb2); (try clear hk); (try clear hi)))
        go_ret
        exact ⟨by first | rfl | (simp [errW_none, errW_some] <;> rfl) | (simp [*, errW_none, errW_some] <;> rfl), by repeat (first | (with_reducible first | exact HB.out | apply below_alloc | apply pw_below_drewN | apply below_drew1 | refine below_set ?_ GE188.out | refine below_set ?_ GE189.out) | exact HB.out)⟩
      · replace c18 := Bool.eq_false_iff.mpr c18
        subst c18
        have H1 : ((edit_Apply.f a0_0 a0_1 a0_2 l0_3 a1_0 l1_1 a1_2 a1_3 l1_4 a1_5 a1_6 a1_7).bind fun bt196 => (if bt196.2.2.2.2 = 0 then (vinculumlaw12_EditCounts.l0 kj2 0 l1_4 (l1_4.length : Int) 0 a0_0 a0_1 a0_2 l0_3 a1_0 l1_1 a1_2 a1_3 l1_4 a1_5 a1_6 a1_7 bt196.1 bt196.2.1 bt196.2.2.1 bt196.2.2.2.1) else (some true))) = some r := by rw [if_neg (show ¬ (false = true) by decide)] at H; exact H
        clear H
        have H := H1
        clear H1
        replace H := Option.bind_eq_some_iff.mp H
        obtain ⟨⟨t196, t197, t198, t199, t202⟩, A210, H⟩ := H
        replace H : (if t202 = 0 then (vinculumlaw12_EditCounts.l0 kj2 0 l1_4 (l1_4.length : Int) 0 a0_0 a0_1 a0_2 l0_3 a1_0 l1_1 a1_2 a1_3 l1_4 a1_5 a1_6 a1_7 t196 t197 t198 t199) else (some true)) = some r := H
        have A21 := Aside0.mk A210
        clear A210
        by_cases c22 : t202 = 0
        · rw [if_pos c22] at H
          have c22b0 : (t202 == 0) = true := beq_iff_eq.mpr c22
          have c22b1 : (t202 != 0) = false := bne_eq_false_iff_eq.mpr c22
          clear c22
          have H' := Aside0.mk H
          clear H
          have hnb23 := NB188_189.out
          have hnc23 := NB189_188.out
          have hcz24_0 : wc.cell? ⟨gb188, 0, none⟩ = some (.int .i64 a0_0) := (blk_cell BK188.out 0).trans rfl
          have hcz24_1 : wc.cell? ⟨gb188, 1, none⟩ = some (.string a0_1) := (blk_cell BK188.out 1).trans rfl
          have hcz24_2 : wc.cell? ⟨gb188, 2, none⟩ = some (.int .i64 a0_2) := (blk_cell BK188.out 2).trans rfl
          have hcz24_3 : wc.cell? ⟨gb188, 3, none⟩ = some (.slice A0_3 l0_3.length c0_3) := (blk_cell BK188.out 3).trans rfl
          have hfz24_0 := blk_frozen BK188.out 0
          have hfz24_1 := blk_frozen BK188.out 1
          have hfz24_2 := blk_frozen BK188.out 2
          have hfz24_3 := blk_frozen BK188.out 3
          have hcz25_0 : wc.cell? ⟨gb189, 0, none⟩ = some (.int .i64 a1_0) := (blk_cell BK189.out 0).trans rfl
          have hcz25_1 : wc.cell? ⟨gb189, 1, none⟩ = some (.slice A1_1 l1_1.length c1_1) := (blk_cell BK189.out 1).trans rfl
          have hcz25_2 : wc.cell? ⟨gb189, 2, none⟩ = some (.int .i64 a1_2) := (blk_cell BK189.out 2).trans rfl
          have hcz25_3 : wc.cell? ⟨gb189, 3, none⟩ = some (.int .i64 a1_3) := (blk_cell BK189.out 3).trans rfl
          have hcz25_4 : wc.cell? ⟨gb189, 4, none⟩ = some (.slice A1_4 l1_4.length c1_4) := (blk_cell BK189.out 4).trans rfl
          have hcz25_5 : wc.cell? ⟨gb189, 5, none⟩ = some (.int .i64 a1_5) := (blk_cell BK189.out 5).trans rfl
          have hcz25_6 : wc.cell? ⟨gb189, 6, none⟩ = some (.string a1_6) := (blk_cell BK189.out 6).trans rfl
          have hcz25_7 : wc.cell? ⟨gb189, 7, none⟩ = some (.string a1_7) := (blk_cell BK189.out 7).trans rfl
          have hfz25_0 := blk_frozen BK189.out 0
          have hfz25_1 := blk_frozen BK189.out 1
          have hfz25_2 := blk_frozen BK189.out 2
          have hfz25_3 := blk_frozen BK189.out 3
          have hfz25_4 := blk_frozen BK189.out 4
          have hfz25_5 := blk_frozen BK189.out 5
          have hfz25_6 := blk_frozen BK189.out 6
          have hfz25_7 := blk_frozen BK189.out 7
          go_wp2_with (first | ((with_reducible refine gate_callee (f := 11) rfl ?_); refine goesL_ (some 23) rfl rfl Tryd.func11 (by kernel_rfl) rfl #[.agg #[.int .i64 a0_0, .string a0_1, .int .i64 a0_2, .slice A0_3 l0_3.length c0_3], .agg #[.int .i64 a1_0, .slice A1_1 l1_1.length c1_1, .int .i64 a1_2, .int .i64 a1_3, .slice A1_4 l1_4.length c1_4, .int .i64 a1_5, .string a1_6, .string a1_7]] rfl (by (try simp only [List.map_toArray, List.map_cons, List.map_nil]); first | done | rfl | (simp only [List.length_drop, List.length_take]; rfl)) ?_; (with_reducible refine (edit_Apply.calls a0_0 a0_1 a0_2 _ _ l0_3 a1_0 _ _ l1_1 a1_2 a1_3 _ _ l1_4 a1_5 a1_6 a1_7 t196 t197 t198 t199 t202 _ ?side1 ?side2 ?side3 ?side4 ?side5 ?side6 A21.out).mono ?_); (case side1 => repeat (first | exact (Kd.C_below HR0_3.out HB.out) | (with_reducible refine Kd.C_alloc ?_ _) | (with_reducible refine Kd.C_drewN ?_ _) | (with_reducible refine Kd.C_drew ?_))); (case side2 => exact HC0_3.out); (case side3 => repeat (first | exact (Kd.V_reads' HO_190001.out).2.2 | (with_reducible refine Kd.C_alloc ?_ _) | (with_reducible refine Kd.C_drewN ?_ _) | (with_reducible refine Kd.C_drew ?_))); (case side4 => exact (Kd.V_reads' HO_190001.out).2.1); (case side5 => repeat (first | exact (Kd.V_reads' HO_190004.out).2.2 | (with_reducible refine Kd.C_alloc ?_ _) | (with_reducible refine Kd.C_drewN ?_ _) | (with_reducible refine Kd.C_drew ?_))); (case side6 => exact (Kd.V_reads' HO_190004.out).2.1); rintro e w26 ⟨v200, rfl, ho0, hb⟩; refine ⟨_, rfl, ?_⟩; have n0_ := Aside0.mk (Kd.V_below (by (with_reducible repeat (first | apply Kd.V_alloc | apply Kd.V_drewN | apply Kd.V_drew)); exact HO_190001.out) hb); have n1_ := Aside0.mk (Kd.V_below (by (with_reducible repeat (first | apply Kd.V_alloc | apply Kd.V_drewN | apply Kd.V_drew)); exact HO_190004.out) hb); have n2_ := Aside0.mk (Kd.V_lower (Kd.V_mono (ok' := fun k_ => ((P1_1_ k_ ∨ P1_4_ k_) ∨ w.heap.size ≤ k_) ∧ k_ ≠ gb188 ∧ k_ ≠ gb189) ho0 (fun k_ hk_ => ⟨(.inr (Nat.le_trans (below_size (by repeat (first | (with_reducible first | exact HB.out | apply below_alloc | apply pw_below_drewN | apply below_drew1 | refine below_set ?_ GE188.out | refine below_set ?_ GE189.out) | exact HB.out))) hk_)), (Kd.freshB (g := gb188) (o := .cells #[.int .i64 a0_0, .string a0_1, .int .i64 a0_2, .slice A0_3 l0_3.length c0_3] 24 (0, 0)) (by (with_reducible repeat (first | refine blk_drewN ?_ _ | refine blk_drew ?_ | refine blk_alloc ?_ _)); exact BK188.out) k_ hk_), (Kd.freshB (g := gb189) (o := .cells #[.int .i64 a1_0, .slice A1_1 l1_1.length c1_1, .int .i64 a1_2, .int .i64 a1_3, .slice A1_4 l1_4.length c1_4, .int .i64 a1_5, .string a1_6, .string a1_7] 27 (0, 0)) (by (with_reducible repeat (first | refine blk_drewN ?_ _ | refine blk_drew ?_ | refine blk_alloc ?_ _)); exact BK189.out) k_ hk_)⟩)) (below_size (by repeat (first | (with_reducible first | exact HB.out | apply below_alloc | apply pw_below_drewN | apply below_drew1 | refine below_set ?_ GE188.out | refine below_set ?_ GE189.out) | exact HB.out)))); have n3_ := Aside0.mk (blk_below (g := gb188) (o := .cells #[.int .i64 a0_0, .string a0_1, .int .i64 a0_2, .slice A0_3 l0_3.length c0_3] 24 (0, 0)) (by (with_reducible repeat (first | refine blk_drewN ?_ _ | refine blk_drew ?_ | refine blk_alloc ?_ _)); exact BK188.out) hb); have n4_ := Aside0.mk (blk_below (g := gb189) (o := .cells #[.int .i64 a1_0, .slice A1_1 l1_1.length c1_1, .int .i64 a1_2, .int .i64 a1_3, .slice A1_4 l1_4.length c1_4, .int .i64 a1_5, .string a1_6, .string a1_7] 27 (0, 0)) (by (with_reducible repeat (first | refine blk_drewN ?_ _ | refine blk_drew ?_ | refine blk_alloc ?_ _)); exact BK189.out) hb); have n5_ := Aside0.mk (below_step (by repeat (first | (with_reducible first | exact HB.out | apply below_alloc | apply pw_below_drewN | apply below_drew1 | refine below_set ?_ GE188.out | refine below_set ?_ GE189.out) | exact HB.out)) hb); clear HO_190001; clear HO_190004; clear BK188; clear BK189; clear HB; have HO_190001 := n0_; have HO_190004 := n1_; have HO201 := n2_; have BK188 := n3_; have BK189 := n4_; have HB := n5_; clear n0_ n1_ n2_ n3_ n4_ n5_; (try clear hb); (try clear hb2); (try clear hk); (try clear hi); (try clear ho0)) | ((with_reducible refine gate_dst (N := 5) rfl ?_); (try (refine gate_guard (by rfl) ?_; dsimp only)); refine box_event ?hg (N := 5) ?hd (cs := #[.int .i64 0, .string (⟨#[]⟩ : ByteArray), .int .i64 0, .slice none 0 0]) (t := 24) ?hr ?_; (case hd => rfl); (case hg => rfl); (case hr => first | (go_simp; done) | (go_simp; rfl)); intro gb203 hg w27 hbox hb; have n0_ := Aside0.mk (Kd.V_below (Kd.V_elderB (by (with_reducible repeat (first | apply Kd.V_alloc | apply Kd.V_drewN | apply Kd.V_drew)); exact HO_190001.out) gb203 (Nat.le_of_eq hg.symm)) hb); have n1_ := Aside0.mk (Kd.V_below (Kd.V_elderB (by (with_reducible repeat (first | apply Kd.V_alloc | apply Kd.V_drewN | apply Kd.V_drew)); exact HO_190004.out) gb203 (Nat.le_of_eq hg.symm)) hb); have n2_ := Aside0.mk (Kd.V_below (Kd.V_elderB (by (with_reducible repeat (first | apply Kd.V_alloc | apply Kd.V_drewN | apply Kd.V_drew)); exact HO201.out) gb203 (Nat.le_of_eq hg.symm)) hb); have n3_ := Aside0.mk (blk_below (g := gb188) (o := .cells #[.int .i64 a0_0, .string a0_1, .int .i64 a0_2, .slice A0_3 l0_3.length c0_3] 24 (0, 0)) (by (with_reducible repeat (first | refine blk_drewN ?_ _ | refine blk_drew ?_ | refine blk_alloc ?_ _)); exact BK188.out) hb); have n4_ := Aside0.mk (blk_below (g := gb189) (o := .cells #[.int .i64 a1_0, .slice A1_1 l1_1.length c1_1, .int .i64 a1_2, .int .i64 a1_3, .slice A1_4 l1_4.length c1_4, .int .i64 a1_5, .string a1_6, .string a1_7] 27 (0, 0)) (by (with_reducible repeat (first | refine blk_drewN ?_ _ | refine blk_drew ?_ | refine blk_alloc ?_ _)); exact BK189.out) hb); have n5_ := Aside0.mk (below_step (by repeat (first | (with_reducible first | exact HB.out | apply below_alloc | apply pw_below_drewN | apply below_drew1 | refine below_set ?_ GE188.out | refine below_set ?_ GE189.out) | exact HB.out)) hb); have n6_ := Aside0.mk (hbox); have n7_ := Aside0.mk ((by rw [hg]; exact (below_size (by repeat (first | (with_reducible first | exact HB.out | apply below_alloc | apply pw_below_drewN | apply below_drew1 | refine below_set ?_ GE188.out | refine below_set ?_ GE189.out) | exact HB.out))) : w.heap.size ≤ gb203)); have n8_ := Aside0.mk ((by rw [hg]; exact (below_size (by repeat (first | (with_reducible first | exact HB.out | apply below_alloc | apply pw_below_drewN | apply below_drew1 | refine below_set ?_ GE188.out | refine below_set ?_ GE189.out) | exact HB.out))) : w.heap.size ≤ gb203)); have n9_ := Aside0.mk ((by rw [hg]; exact Nat.ne_of_lt (blk_lt (g := gb188) (o := .cells #[.int .i64 a0_0, .string a0_1, .int .i64 a0_2, .slice A0_3 l0_3.length c0_3] 24 (0, 0)) (by (with_reducible repeat (first | refine blk_drewN ?_ _ | refine blk_drew ?_ | refine blk_alloc ?_ _)); exact BK188.out)) : gb188 ≠ gb203)); have n10_ := Aside0.mk ((by rw [hg]; exact Nat.ne_of_gt (blk_lt (g := gb188) (o := .cells #[.int .i64 a0_0, .string a0_1, .int .i64 a0_2, .slice A0_3 l0_3.length c0_3] 24 (0, 0)) (by (with_reducible repeat (first | refine blk_drewN ?_ _ | refine blk_drew ?_ | refine blk_alloc ?_ _)); exact BK188.out)) : gb203 ≠ gb188)); have n11_ := Aside0.mk ((by rw [hg]; exact Nat.ne_of_lt (blk_lt (g := gb189) (o := .cells #[.int .i64 a1_0, .slice A1_1 l1_1.length c1_1, .int .i64 a1_2, .int .i64 a1_3, .slice A1_4 l1_4.length c1_4, .int .i64 a1_5, .string a1_6, .string a1_7] 27 (0, 0)) (by (with_reducible repeat (first | refine blk_drewN ?_ _ | refine blk_drew ?_ | refine blk_alloc ?_ _)); exact BK189.out)) : gb189 ≠ gb203)); have n12_ := Aside0.mk ((by rw [hg]; exact Nat.ne_of_gt (blk_lt (g := gb189) (o := .cells #[.int .i64 a1_0, .slice A1_1 l1_1.length c1_1, .int .i64 a1_2, .int .i64 a1_3, .slice A1_4 l1_4.length c1_4, .int .i64 a1_5, .string a1_6, .string a1_7] 27 (0, 0)) (by (with_reducible repeat (first | refine blk_drewN ?_ _ | refine blk_drew ?_ | refine blk_alloc ?_ _)); exact BK189.out)) : gb203 ≠ gb189)); clear HO_190001; clear HO_190004; clear HO201; clear BK188; clear BK189; clear HB; have HO_190001 := n0_; have HO_190004 := n1_; have HO201 := n2_; have BK188 := n3_; have BK189 := n4_; have HB := n5_; have BK203 := n6_; have GW203 := n7_; have GE203 := n8_; have NB188_203 := n9_; have NB203_188 := n10_; have NB189_203 := n11_; have NB203_189 := n12_; clear n0_ n1_ n2_ n3_ n4_ n5_ n6_ n7_ n8_ n9_ n10_ n11_ n12_; clear hb hbox hg; have hnb28 := NB203_188.out; have hnc28 := NB188_203.out; have hnb29 := NB203_189.out; have hnc29 := NB189_203.out; have hcz30_0 : w27.cell? ⟨gb203, 0, none⟩ = some (.int .i64 0) := (blk_cell BK203.out 0).trans rfl; have hcz30_1 : w27.cell? ⟨gb203, 1, none⟩ = some (.string (⟨#[]⟩ : ByteArray)) := (blk_cell BK203.out 1).trans rfl; have hcz30_2 : w27.cell? ⟨gb203, 2, none⟩ = some (.int .i64 0) := (blk_cell BK203.out 2).trans rfl; have hcz30_3 : w27.cell? ⟨gb203, 3, none⟩ = some (.slice none 0 0) := (blk_cell BK203.out 3).trans rfl; have hfz30_0 := blk_frozen BK203.out 0; have hfz30_1 := blk_frozen BK203.out 1; have hfz30_2 := blk_frozen BK203.out 2; have hfz30_3 := blk_frozen BK203.out 3; obtain ⟨Ao31, co31, eo31⟩ := Kd.V_slice HO201.out; subst eo31; have hcz32_0 : w27.cell? ⟨gb189, 0, none⟩ = some (.int .i64 a1_0) := (blk_cell BK189.out 0).trans rfl; have hcz32_1 : w27.cell? ⟨gb189, 1, none⟩ = some (.slice A1_1 l1_1.length c1_1) := (blk_cell BK189.out 1).trans rfl; have hcz32_2 : w27.cell? ⟨gb189, 2, none⟩ = some (.int .i64 a1_2) := (blk_cell BK189.out 2).trans rfl; have hcz32_3 : w27.cell? ⟨gb189, 3, none⟩ = some (.int .i64 a1_3) := (blk_cell BK189.out 3).trans rfl; have hcz32_4 : w27.cell? ⟨gb189, 4, none⟩ = some (.slice A1_4 l1_4.length c1_4) := (blk_cell BK189.out 4).trans rfl; have hcz32_5 : w27.cell? ⟨gb189, 5, none⟩ = some (.int .i64 a1_5) := (blk_cell BK189.out 5).trans rfl; have hcz32_6 : w27.cell? ⟨gb189, 6, none⟩ = some (.string a1_6) := (blk_cell BK189.out 6).trans rfl; have hcz32_7 : w27.cell? ⟨gb189, 7, none⟩ = some (.string a1_7) := (blk_cell BK189.out 7).trans rfl; have hfz32_0 := blk_frozen BK189.out 0; have hfz32_1 := blk_frozen BK189.out 1; have hfz32_2 := blk_frozen BK189.out 2; have hfz32_3 := blk_frozen BK189.out 3; have hfz32_4 := blk_frozen BK189.out 4; have hfz32_5 := blk_frozen BK189.out 5; have hfz32_6 := blk_frozen BK189.out 6; have hfz32_7 := blk_frozen BK189.out 7))
          go_loopg [7, 31] kj2 (fun kq v7 v31 w' => ∃ (x7_2 : Int) (x31_2 : Int), v7 = .int .i64 x7_2 ∧ v31 = .int .i64 x31_2 ∧ Aside0 (vinculumlaw12_EditCounts.l0 kq x7_2 l1_4 (l1_4.length : Int) x31_2 a0_0 a0_1 a0_2 l0_3 a1_0 l1_1 a1_2 a1_3 l1_4 a1_5 a1_6 a1_7 t196 t197 t198 t199 = some r) ∧ Aside0 (kq ≤ kj2) ∧ Aside0 (Kd.V k24 24 w' w.heap.size (fun k_ => ((P1_1_ k_ ∨ P1_4_ k_) ∨ w.heap.size ≤ k_) ∧ k_ ≠ gb188 ∧ k_ ≠ gb189 ∧ k_ ≠ gb203) (.slice A1_4 l1_4.length c1_4) l1_4) ∧ Aside0 (Kd.V (Kd.int .i64) 3 w' w.heap.size (fun k_ => ((P1_1_ k_ ∨ P1_4_ k_) ∨ w.heap.size ≤ k_) ∧ k_ ≠ gb188 ∧ k_ ≠ gb189 ∧ k_ ≠ gb203) (.slice A1_1 l1_1.length c1_1) l1_1) ∧ Aside0 (Kd.V k24 24 w' w.heap.size (fun k_ => ((P1_1_ k_ ∨ P1_4_ k_) ∨ w.heap.size ≤ k_) ∧ k_ ≠ gb188 ∧ k_ ≠ gb189 ∧ k_ ≠ gb203) (.slice A1_4 l1_4.length c1_4) l1_4) ∧ Aside0 (Kd.V k24 24 w' w.heap.size (fun k_ => ((P1_1_ k_ ∨ P1_4_ k_) ∨ w.heap.size ≤ k_) ∧ k_ ≠ gb188 ∧ k_ ≠ gb189 ∧ k_ ≠ gb203) (.slice Ao31 t199.length co31) t199) ∧ Aside0 (w'.heap[gb188]? = some (.cells #[.int .i64 a0_0, .string a0_1, .int .i64 a0_2, (.slice A0_3 l0_3.length c0_3)] 24 (0, 0))) ∧ Aside0 (w'.heap[gb189]? = some (.cells #[.int .i64 a1_0, (.slice A1_1 l1_1.length c1_1), .int .i64 a1_2, .int .i64 a1_3, (.slice A1_4 l1_4.length c1_4), .int .i64 a1_5, .string a1_6, .string a1_7] 27 (0, 0))) ∧ Aside0 (w'.heap[gb203]? = some (.cells #[.int .i64 t196, .string t197, .int .i64 t198, (.slice Ao31 t199.length co31)] 24 (0, 0))) ∧ Aside0 (Below w.heap.size w w'))
          case atStart => exact ⟨(0), (0), (by first | rfl | (simp; done) | (simp [*]; done)), (by first | rfl | (simp; done) | (simp [*]; done)), H', ⟨Nat.le_refl _⟩, ⟨by (with_reducible repeat (first | apply Kd.V_alloc | apply Kd.V_drewN | apply Kd.V_drew)); exact Kd.V_mono (Kd.V_far (p := ⟨gb203, 3, none⟩) (Kd.V_far (p := ⟨gb203, 2, none⟩) (Kd.V_far (p := ⟨gb203, 1, none⟩) (Kd.V_far (p := ⟨gb203, 0, none⟩) (Kd.V_mono HO_190004.out (fun k_ hk => (⟨hk, hk.2⟩ : _ ∧ k_ ≠ gb203))) (fun _ hk => hk.2) (.int .i64 t196)) (fun _ hk => hk.2) (.string t197)) (fun _ hk => hk.2) (.int .i64 t198)) (fun _ hk => hk.2) (.slice Ao31 t199.length co31)) (fun _ hk => ⟨hk.1.1.1, ⟨hk.1.1.2.1, ⟨hk.1.1.2.2, hk.1.2⟩⟩⟩)⟩, ⟨by (with_reducible repeat (first | apply Kd.V_alloc | apply Kd.V_drewN | apply Kd.V_drew)); exact Kd.V_mono (Kd.V_far (p := ⟨gb203, 3, none⟩) (Kd.V_far (p := ⟨gb203, 2, none⟩) (Kd.V_far (p := ⟨gb203, 1, none⟩) (Kd.V_far (p := ⟨gb203, 0, none⟩) (Kd.V_mono HO_190001.out (fun k_ hk => (⟨hk, hk.2⟩ : _ ∧ k_ ≠ gb203))) (fun _ hk => hk.2) (.int .i64 t196)) (fun _ hk => hk.2) (.string t197)) (fun _ hk => hk.2) (.int .i64 t198)) (fun _ hk => hk.2) (.slice Ao31 t199.length co31)) (fun _ hk => ⟨hk.1.1.1, ⟨hk.1.1.2.1, ⟨hk.1.1.2.2, hk.1.2⟩⟩⟩)⟩, ⟨by (with_reducible repeat (first | apply Kd.V_alloc | apply Kd.V_drewN | apply Kd.V_drew)); exact Kd.V_mono (Kd.V_far (p := ⟨gb203, 3, none⟩) (Kd.V_far (p := ⟨gb203, 2, none⟩) (Kd.V_far (p := ⟨gb203, 1, none⟩) (Kd.V_far (p := ⟨gb203, 0, none⟩) (Kd.V_mono HO_190004.out (fun k_ hk => (⟨hk, hk.2⟩ : _ ∧ k_ ≠ gb203))) (fun _ hk => hk.2) (.int .i64 t196)) (fun _ hk => hk.2) (.string t197)) (fun _ hk => hk.2) (.int .i64 t198)) (fun _ hk => hk.2) (.slice Ao31 t199.length co31)) (fun _ hk => ⟨hk.1.1.1, ⟨hk.1.1.2.1, ⟨hk.1.1.2.2, hk.1.2⟩⟩⟩)⟩, ⟨by (with_reducible repeat (first | apply Kd.V_alloc | apply Kd.V_drewN | apply Kd.V_drew)); exact Kd.V_mono (Kd.V_far (p := ⟨gb203, 3, none⟩) (Kd.V_far (p := ⟨gb203, 2, none⟩) (Kd.V_far (p := ⟨gb203, 1, none⟩) (Kd.V_far (p := ⟨gb203, 0, none⟩) (Kd.V_mono HO201.out (fun k_ hk => (⟨hk, hk.2⟩ : _ ∧ k_ ≠ gb203))) (fun _ hk => hk.2) (.int .i64 t196)) (fun _ hk => hk.2) (.string t197)) (fun _ hk => hk.2) (.int .i64 t198)) (fun _ hk => hk.2) (.slice Ao31 t199.length co31)) (fun _ hk => ⟨hk.1.1.1, ⟨hk.1.1.2.1, ⟨hk.1.1.2.2, hk.1.2⟩⟩⟩)⟩, ⟨by (with_reducible repeat (first | refine blk_drewN ?_ _ | refine blk_drew ?_ | refine blk_alloc ?_ _)); refine blk_far ?_ NB188_203.out _; (with_reducible repeat (first | refine blk_drewN ?_ _ | refine blk_drew ?_ | refine blk_alloc ?_ _)); refine blk_far ?_ NB188_203.out _; (with_reducible repeat (first | refine blk_drewN ?_ _ | refine blk_drew ?_ | refine blk_alloc ?_ _)); refine blk_far ?_ NB188_203.out _; (with_reducible repeat (first | refine blk_drewN ?_ _ | refine blk_drew ?_ | refine blk_alloc ?_ _)); refine blk_far ?_ NB188_203.out _; (with_reducible repeat (first | refine blk_drewN ?_ _ | refine blk_drew ?_ | refine blk_alloc ?_ _)); exact BK188.out⟩, ⟨by (with_reducible repeat (first | refine blk_drewN ?_ _ | refine blk_drew ?_ | refine blk_alloc ?_ _)); refine blk_far ?_ NB189_203.out _; (with_reducible repeat (first | refine blk_drewN ?_ _ | refine blk_drew ?_ | refine blk_alloc ?_ _)); refine blk_far ?_ NB189_203.out _; (with_reducible repeat (first | refine blk_drewN ?_ _ | refine blk_drew ?_ | refine blk_alloc ?_ _)); refine blk_far ?_ NB189_203.out _; (with_reducible repeat (first | refine blk_drewN ?_ _ | refine blk_drew ?_ | refine blk_alloc ?_ _)); refine blk_far ?_ NB189_203.out _; (with_reducible repeat (first | refine blk_drewN ?_ _ | refine blk_drew ?_ | refine blk_alloc ?_ _)); exact BK189.out⟩, ⟨by (with_reducible repeat (first | refine blk_drewN ?_ _ | refine blk_drew ?_ | refine blk_alloc ?_ _)); refine blk_put (cs := #[.int .i64 t196, .string t197, .int .i64 t198, .slice none 0 0]) ?_ 3 _ rfl; (with_reducible repeat (first | refine blk_drewN ?_ _ | refine blk_drew ?_ | refine blk_alloc ?_ _)); refine blk_put (cs := #[.int .i64 t196, .string t197, .int .i64 0, .slice none 0 0]) ?_ 2 _ rfl; (with_reducible repeat (first | refine blk_drewN ?_ _ | refine blk_drew ?_ | refine blk_alloc ?_ _)); refine blk_put (cs := #[.int .i64 t196, .string (⟨#[]⟩ : ByteArray), .int .i64 0, .slice none 0 0]) ?_ 1 _ rfl; (with_reducible repeat (first | refine blk_drewN ?_ _ | refine blk_drew ?_ | refine blk_alloc ?_ _)); refine blk_put (cs := #[.int .i64 0, .string (⟨#[]⟩ : ByteArray), .int .i64 0, .slice none 0 0]) ?_ 0 _ rfl; (with_reducible repeat (first | refine blk_drewN ?_ _ | refine blk_drew ?_ | refine blk_alloc ?_ _)); exact BK203.out⟩, ⟨by repeat (first | (with_reducible first | exact HB.out | apply below_alloc | apply pw_below_drewN | apply below_drew1 | refine below_set ?_ GE188.out | refine below_set ?_ GE189.out | refine below_set ?_ GE203.out) | exact HB.out)⟩⟩
          case round =>
            clear H'
            try clear c1
            try clear c2
            try clear p2
            try clear c3
            try clear c7
            try clear c8
            try clear c9
            try clear c10
            try clear c11
            try clear c18
            try clear c22
            try clear c22b0
            try clear c22b1
            try clear c23
            try clear c28
            try clear c29
            try clear hcz11_0
            try clear hcz11_1
            try clear hcz11_2
            try clear hcz11_3
            try clear hcz12_0
            try clear hcz12_1
            try clear hcz12_2
            try clear hcz12_3
            try clear hcz12_4
            try clear hcz12_5
            try clear hcz12_6
            try clear hcz12_7
            try clear hcz24_0
            try clear hcz24_1
            try clear hcz24_2
            try clear hcz24_3
            try clear hcz25_0
            try clear hcz25_1
            try clear hcz25_2
            try clear hcz25_3
            try clear hcz25_4
            try clear hcz25_5
            try clear hcz25_6
            try clear hcz25_7
            try clear hcz30_0
            try clear hcz30_1
            try clear hcz30_2
            try clear hcz30_3
            try clear hcz32_0
            try clear hcz32_1
            try clear hcz32_2
            try clear hcz32_3
            try clear hcz32_4
            try clear hcz32_5
            try clear hcz32_6
            try clear hcz32_7
            try clear hfz11_0
            try clear hfz11_1
            try clear hfz11_2
            try clear hfz11_3
            try clear hfz12_0
            try clear hfz12_1
            try clear hfz12_2
            try clear hfz12_3
            try clear hfz12_4
            try clear hfz12_5
            try clear hfz12_6
            try clear hfz12_7
            try clear hfz24_0
            try clear hfz24_1
            try clear hfz24_2
            try clear hfz24_3
            try clear hfz25_0
            try clear hfz25_1
            try clear hfz25_2
            try clear hfz25_3
            try clear hfz25_4
            try clear hfz25_5
            try clear hfz25_6
            try clear hfz25_7
            try clear hfz30_0
            try clear hfz30_1
            try clear hfz30_2
            try clear hfz30_3
            try clear hfz32_0
            try clear hfz32_1
            try clear hfz32_2
            try clear hfz32_3
            try clear hfz32_4
            try clear hfz32_5
            try clear hfz32_6
            try clear hfz32_7
            try clear p2
            obtain ⟨x7_2, x31_2, rfl, rfl, HA, HK2, HO_29, HO_190001, HO_190004, HO_204003, BK188, BK189, BK203, HB⟩ := hrel
            cases gk with
            | zero => exact absurd HA.out (by simp [vinculumlaw12_EditCounts.l0])
            | succ k2 =>
              have H := HA.out
              clear HA
              simp only [vinculumlaw12_EditCounts.l0] at H
              by_cases c33 : x31_2 < (l1_4.length : Int)
              · rw [if_pos c33] at H
                have c33b0 : decide (x31_2 < (l1_4.length : Int)) = true := decide_eq_true c33
                clear c33
                by_cases c34 : 0 ≤ x31_2
                · rw [if_pos c34] at H
                  have c34b0 : decide (0 ≤ x31_2) = true := decide_eq_true c34
                  clear c34
                  by_cases c35 : x31_2 < (l1_4.length : Int)
                  · rw [if_pos c35] at H
                    have c35b0 : decide (x31_2 < (l1_4.length : Int)) = true := decide_eq_true c35
                    clear c35
                    replace H := Option.bind_eq_some_iff.mp H
                    obtain ⟨t206, A360, H⟩ := H
                    replace H : (vinculumlaw12_EditCounts.l0 k2 (wrap64 (x7_2 + t206)) l1_4 (l1_4.length : Int) (wrap64 (x31_2 + 1)) a0_0 a0_1 a0_2 l0_3 a1_0 l1_1 a1_2 a1_3 l1_4 a1_5 a1_6 a1_7 t196 t197 t198 t199) = some r := H
                    have A36 := Aside0.mk A360
                    clear A360
                    have H' := Aside0.mk H
                    clear H
                    have p204 : 0 ≤ (x31_2 : Int) := of_decide_eq_true (by first | (with_reducible assumption) | assumption)
                    have q204 : x31_2 < (l1_4.length : Int) := of_decide_eq_true (by first | (with_reducible assumption) | assumption)
                    obtain ⟨ad204, A204_3, c204_3, e204, hx204_0, hx204_1, hx204_2, hx204_3, hl204_3, hi204_3⟩ := at_T24 (Kd.V_reads' HO_29.out).2.2 x31_2 p204 q204
                    cases e204
                    obtain ⟨ce204, hce204, hMe204, hcc204⟩ := Kd.V_get HO_29.out z24 x31_2 p204 (by first | exact q204 | exact of_decide_eq_true (by first | (with_reducible assumption) | assumption) | (have e_ := (Kd.V_reads' HO_29.out).1; omega))
                    obtain ⟨ua204_3, uc204_3, rfl, ul204_3, ge204_3⟩ := k24_openF hMe204
                    have hv204_3 := hcc204 3 _ rfl
                    rw [add_field _ _ 3 (by omega)] at hv204_3
                    replace hv204_3 := Option.some.inj (hv204_3.symm.trans hx204_3)
                    injection hv204_3 with hva_ hvn_ hvc_
                    rw [hva_] at ge204_3
                    rw [hvc_] at ul204_3
                    have HL204_3 := Aside0.mk (show Kd.V k24 24 _ w.heap.size _ _ ((rd_T24 l1_4 x31_2).f3) from Kd.V_mk ul204_3 ge204_3)
                    clear hva_ hvn_ hvc_ ge204_3 ul204_3
                    clear hcc204 hce204
                    have HR204_3 := Aside0.mk hi204_3
                    have HC204_3 := Aside0.mk hl204_3
                    clear hi204_3 hl204_3
                    replace p204 := eq_true p204
                    replace q204 := eq_true q204
                    go_wp2_with (first | ((with_reducible refine gate_dst (N := 9) rfl ?_); (try (refine gate_guard (by rfl) ?_; dsimp only)); refine box_event ?hg (N := 9) ?hd (cs := #[.int .i64 0, .string (⟨#[]⟩ : ByteArray), .int .i64 0, .slice none 0 0]) (t := 24) ?hr ?_; (case hd => rfl); (case hg => rfl); (case hr => first | (go_simp; done) | (go_simp; rfl)); intro gb205 hg w37 hbox hb; have n0_ := Aside0.mk (Kd.V_below (Kd.V_elderB (by (with_reducible repeat (first | apply Kd.V_alloc | apply Kd.V_drewN | apply Kd.V_drew)); exact HO_29.out) gb205 (Nat.le_of_eq hg.symm)) hb); have n1_ := Aside0.mk (Kd.V_below (Kd.V_elderB (by (with_reducible repeat (first | apply Kd.V_alloc | apply Kd.V_drewN | apply Kd.V_drew)); exact HO_190001.out) gb205 (Nat.le_of_eq hg.symm)) hb); have n2_ := Aside0.mk (Kd.V_below (Kd.V_elderB (by (with_reducible repeat (first | apply Kd.V_alloc | apply Kd.V_drewN | apply Kd.V_drew)); exact HO_190004.out) gb205 (Nat.le_of_eq hg.symm)) hb); have n3_ := Aside0.mk (Kd.V_below (Kd.V_elderB (by (with_reducible repeat (first | apply Kd.V_alloc | apply Kd.V_drewN | apply Kd.V_drew)); exact HO_204003.out) gb205 (Nat.le_of_eq hg.symm)) hb); have n4_ := Aside0.mk (Kd.V_below (Kd.V_elderB (by (with_reducible repeat (first | apply Kd.V_alloc | apply Kd.V_drewN | apply Kd.V_drew)); exact HL204_3.out) gb205 (Nat.le_of_eq hg.symm)) hb); have n5_ := Aside0.mk (blk_below (g := gb188) (o := .cells #[.int .i64 a0_0, .string a0_1, .int .i64 a0_2, .slice A0_3 l0_3.length c0_3] 24 (0, 0)) (by (with_reducible repeat (first | refine blk_drewN ?_ _ | refine blk_drew ?_ | refine blk_alloc ?_ _)); exact BK188.out) hb); have n6_ := Aside0.mk (blk_below (g := gb189) (o := .cells #[.int .i64 a1_0, .slice A1_1 l1_1.length c1_1, .int .i64 a1_2, .int .i64 a1_3, .slice (some ad204) l1_4.length c1_4, .int .i64 a1_5, .string a1_6, .string a1_7] 27 (0, 0)) (by (with_reducible repeat (first | refine blk_drewN ?_ _ | refine blk_drew ?_ | refine blk_alloc ?_ _)); exact BK189.out) hb); have n7_ := Aside0.mk (blk_below (g := gb203) (o := .cells #[.int .i64 t196, .string t197, .int .i64 t198, .slice Ao31 t199.length co31] 24 (0, 0)) (by (with_reducible repeat (first | refine blk_drewN ?_ _ | refine blk_drew ?_ | refine blk_alloc ?_ _)); exact BK203.out) hb); have n8_ := Aside0.mk (Kd.C_below (by repeat (first | (with_reducible exact HR204_3.out) | (with_reducible refine Kd.C_alloc ?_ _) | (with_reducible refine Kd.C_drewN ?_ _) | (with_reducible refine Kd.C_drew ?_) | exact HR204_3.out)) hb); have n9_ := Aside0.mk (below_step (by repeat (first | (with_reducible first | exact HB.out | apply below_alloc | apply pw_below_drewN | apply below_drew1 | refine below_set ?_ GE188.out | refine below_set ?_ GE189.out | refine below_set ?_ GE203.out) | exact HB.out)) hb); have n10_ := Aside0.mk (hbox); have n11_ := Aside0.mk ((by rw [hg]; exact (below_size (by repeat (first | (with_reducible first | exact HB.out | apply below_alloc | apply pw_below_drewN | apply below_drew1 | refine below_set ?_ GE188.out | refine below_set ?_ GE189.out | refine below_set ?_ GE203.out) | exact HB.out))) : w.heap.size ≤ gb205)); have n12_ := Aside0.mk ((by rw [hg]; exact (below_size (by repeat (first | (with_reducible first | exact HB.out | apply below_alloc | apply pw_below_drewN | apply below_drew1 | refine below_set ?_ GE188.out | refine below_set ?_ GE189.out | refine below_set ?_ GE203.out) | exact HB.out))) : w.heap.size ≤ gb205)); have n13_ := Aside0.mk ((by rw [hg]; exact Nat.ne_of_lt (blk_lt (g := gb188) (o := .cells #[.int .i64 a0_0, .string a0_1, .int .i64 a0_2, .slice A0_3 l0_3.length c0_3] 24 (0, 0)) (by (with_reducible repeat (first | refine blk_drewN ?_ _ | refine blk_drew ?_ | refine blk_alloc ?_ _)); exact BK188.out)) : gb188 ≠ gb205)); have n14_ := Aside0.mk ((by rw [hg]; exact Nat.ne_of_gt (blk_lt (g := gb188) (o := .cells #[.int .i64 a0_0, .string a0_1, .int .i64 a0_2, .slice A0_3 l0_3.length c0_3] 24 (0, 0)) (by (with_reducible repeat (first | refine blk_drewN ?_ _ | refine blk_drew ?_ | refine blk_alloc ?_ _)); exact BK188.out)) : gb205 ≠ gb188)); have n15_ := Aside0.mk ((by rw [hg]; exact Nat.ne_of_lt (blk_lt (g := gb189) (o := .cells #[.int .i64 a1_0, .slice A1_1 l1_1.length c1_1, .int .i64 a1_2, .int .i64 a1_3, .slice (some ad204) l1_4.length c1_4, .int .i64 a1_5, .string a1_6, .string a1_7] 27 (0, 0)) (by (with_reducible repeat (first | refine blk_drewN ?_ _ | refine blk_drew ?_ | refine blk_alloc ?_ _)); exact BK189.out)) : gb189 ≠ gb205)); have n16_ := Aside0.mk ((by rw [hg]; exact Nat.ne_of_gt (blk_lt (g := gb189) (o := .cells #[.int .i64 a1_0, .slice A1_1 l1_1.length c1_1, .int .i64 a1_2, .int .i64 a1_3, .slice (some ad204) l1_4.length c1_4, .int .i64 a1_5, .string a1_6, .string a1_7] 27 (0, 0)) (by (with_reducible repeat (first | refine blk_drewN ?_ _ | refine blk_drew ?_ | refine blk_alloc ?_ _)); exact BK189.out)) : gb205 ≠ gb189)); have n17_ := Aside0.mk ((by rw [hg]; exact Nat.ne_of_lt (blk_lt (g := gb203) (o := .cells #[.int .i64 t196, .string t197, .int .i64 t198, .slice Ao31 t199.length co31] 24 (0, 0)) (by (with_reducible repeat (first | refine blk_drewN ?_ _ | refine blk_drew ?_ | refine blk_alloc ?_ _)); exact BK203.out)) : gb203 ≠ gb205)); have n18_ := Aside0.mk ((by rw [hg]; exact Nat.ne_of_gt (blk_lt (g := gb203) (o := .cells #[.int .i64 t196, .string t197, .int .i64 t198, .slice Ao31 t199.length co31] 24 (0, 0)) (by (with_reducible repeat (first | refine blk_drewN ?_ _ | refine blk_drew ?_ | refine blk_alloc ?_ _)); exact BK203.out)) : gb205 ≠ gb203)); clear HO_29; clear HO_190001; clear HO_190004; clear HO_204003; clear HL204_3; clear BK188; clear BK189; clear BK203; clear HR204_3; clear HB; have HO_29 := n0_; have HO_190001 := n1_; have HO_190004 := n2_; have HO_204003 := n3_; have HL204_3 := n4_; have BK188 := n5_; have BK189 := n6_; have BK203 := n7_; have HR204_3 := n8_; have HB := n9_; have BK205 := n10_; have GW205 := n11_; have GE205 := n12_; have NB188_205 := n13_; have NB205_188 := n14_; have NB189_205 := n15_; have NB205_189 := n16_; have NB203_205 := n17_; have NB205_203 := n18_; clear n0_ n1_ n2_ n3_ n4_ n5_ n6_ n7_ n8_ n9_ n10_ n11_ n12_ n13_ n14_ n15_ n16_ n17_ n18_; clear hb hbox hg; have hnb38 := NB205_188.out; have hnc38 := NB188_205.out; have hnb39 := NB205_189.out; have hnc39 := NB189_205.out; have hnb40 := NB205_203.out; have hnc40 := NB203_205.out; have hcz41_0 : w37.cell? ⟨gb205, 0, none⟩ = some (.int .i64 0) := (blk_cell BK205.out 0).trans rfl; have hcz41_1 : w37.cell? ⟨gb205, 1, none⟩ = some (.string (⟨#[]⟩ : ByteArray)) := (blk_cell BK205.out 1).trans rfl; have hcz41_2 : w37.cell? ⟨gb205, 2, none⟩ = some (.int .i64 0) := (blk_cell BK205.out 2).trans rfl; have hcz41_3 : w37.cell? ⟨gb205, 3, none⟩ = some (.slice none 0 0) := (blk_cell BK205.out 3).trans rfl; have hfz41_0 := blk_frozen BK205.out 0; have hfz41_1 := blk_frozen BK205.out 1; have hfz41_2 := blk_frozen BK205.out 2; have hfz41_3 := blk_frozen BK205.out 3) | ((with_reducible refine gate_callee (f := 12) rfl ?_); refine goesL_ (some 37) rfl rfl Tryd.func12 (by kernel_rfl) rfl #[.agg #[.int .i64 ((rd_T24 l1_4 x31_2).f0), .string ((rd_T24 l1_4 x31_2).f1), .int .i64 ((rd_T24 l1_4 x31_2).f2), .slice A204_3 ((rd_T24 l1_4 x31_2).f3).length c204_3]] rfl (by (try simp only [List.map_toArray, List.map_cons, List.map_nil]); first | done | rfl | (simp only [List.length_drop, List.length_take]; rfl)) ?_; (with_reducible refine (vinculumref09_Count.calls k2 ((rd_T24 l1_4 x31_2).f0) ((rd_T24 l1_4 x31_2).f1) ((rd_T24 l1_4 x31_2).f2) _ _ ((rd_T24 l1_4 x31_2).f3) t206 _ ?side1 ?side2 A36.out).mono ?_); (case side1 => repeat (first | exact ((Kd.V_reads' (by (with_reducible repeat (first | apply Kd.V_alloc | apply Kd.V_drewN | apply Kd.V_drew)); exact (Kd.V_mono (Kd.V_far (p := ⟨gb205, 3, none⟩) (Kd.V_far (p := ⟨gb205, 2, none⟩) (Kd.V_far (p := ⟨gb205, 1, none⟩) (Kd.V_far (p := ⟨gb205, 0, none⟩) (Kd.V_mono HL204_3.out (fun k_ hk => (⟨hk, hk.2⟩ : _ ∧ k_ ≠ gb205))) (fun _ hk => hk.2) (.int .i64 ((rd_T24 l1_4 x31_2).f0))) (fun _ hk => hk.2) (.string ((rd_T24 l1_4 x31_2).f1))) (fun _ hk => hk.2) (.int .i64 ((rd_T24 l1_4 x31_2).f2))) (fun _ hk => hk.2) (.slice A204_3 ((rd_T24 l1_4 x31_2).f3).length c204_3)) (fun _ h_ => h_.1)))).2.2) | (with_reducible refine Kd.C_alloc ?_ _) | (with_reducible refine Kd.C_drewN ?_ _) | (with_reducible refine Kd.C_drew ?_))); (case side2 => exact HC204_3.out); rintro e w42 ⟨rfl, hb⟩; refine ⟨_, rfl, ?_⟩; have n0_ := Aside0.mk (Kd.V_below (by (with_reducible repeat (first | apply Kd.V_alloc | apply Kd.V_drewN | apply Kd.V_drew)); exact (Kd.V_mono (Kd.V_far (p := ⟨gb205, 3, none⟩) (Kd.V_far (p := ⟨gb205, 2, none⟩) (Kd.V_far (p := ⟨gb205, 1, none⟩) (Kd.V_far (p := ⟨gb205, 0, none⟩) (Kd.V_mono HO_29.out (fun k_ hk => (⟨hk, hk.2⟩ : _ ∧ k_ ≠ gb205))) (fun _ hk => hk.2) (.int .i64 ((rd_T24 l1_4 x31_2).f0))) (fun _ hk => hk.2) (.string ((rd_T24 l1_4 x31_2).f1))) (fun _ hk => hk.2) (.int .i64 ((rd_T24 l1_4 x31_2).f2))) (fun _ hk => hk.2) (.slice A204_3 ((rd_T24 l1_4 x31_2).f3).length c204_3)) (fun _ h_ => h_.1))) hb); have n1_ := Aside0.mk (Kd.V_below (by (with_reducible repeat (first | apply Kd.V_alloc | apply Kd.V_drewN | apply Kd.V_drew)); exact (Kd.V_mono (Kd.V_far (p := ⟨gb205, 3, none⟩) (Kd.V_far (p := ⟨gb205, 2, none⟩) (Kd.V_far (p := ⟨gb205, 1, none⟩) (Kd.V_far (p := ⟨gb205, 0, none⟩) (Kd.V_mono HO_190001.out (fun k_ hk => (⟨hk, hk.2⟩ : _ ∧ k_ ≠ gb205))) (fun _ hk => hk.2) (.int .i64 ((rd_T24 l1_4 x31_2).f0))) (fun _ hk => hk.2) (.string ((rd_T24 l1_4 x31_2).f1))) (fun _ hk => hk.2) (.int .i64 ((rd_T24 l1_4 x31_2).f2))) (fun _ hk => hk.2) (.slice A204_3 ((rd_T24 l1_4 x31_2).f3).length c204_3)) (fun _ h_ => h_.1))) hb); have n2_ := Aside0.mk (Kd.V_below (by (with_reducible repeat (first | apply Kd.V_alloc | apply Kd.V_drewN | apply Kd.V_drew)); exact (Kd.V_mono (Kd.V_far (p := ⟨gb205, 3, none⟩) (Kd.V_far (p := ⟨gb205, 2, none⟩) (Kd.V_far (p := ⟨gb205, 1, none⟩) (Kd.V_far (p := ⟨gb205, 0, none⟩) (Kd.V_mono HO_190004.out (fun k_ hk => (⟨hk, hk.2⟩ : _ ∧ k_ ≠ gb205))) (fun _ hk => hk.2) (.int .i64 ((rd_T24 l1_4 x31_2).f0))) (fun _ hk => hk.2) (.string ((rd_T24 l1_4 x31_2).f1))) (fun _ hk => hk.2) (.int .i64 ((rd_T24 l1_4 x31_2).f2))) (fun _ hk => hk.2) (.slice A204_3 ((rd_T24 l1_4 x31_2).f3).length c204_3)) (fun _ h_ => h_.1))) hb); have n3_ := Aside0.mk (Kd.V_below (by (with_reducible repeat (first | apply Kd.V_alloc | apply Kd.V_drewN | apply Kd.V_drew)); exact (Kd.V_mono (Kd.V_far (p := ⟨gb205, 3, none⟩) (Kd.V_far (p := ⟨gb205, 2, none⟩) (Kd.V_far (p := ⟨gb205, 1, none⟩) (Kd.V_far (p := ⟨gb205, 0, none⟩) (Kd.V_mono HO_204003.out (fun k_ hk => (⟨hk, hk.2⟩ : _ ∧ k_ ≠ gb205))) (fun _ hk => hk.2) (.int .i64 ((rd_T24 l1_4 x31_2).f0))) (fun _ hk => hk.2) (.string ((rd_T24 l1_4 x31_2).f1))) (fun _ hk => hk.2) (.int .i64 ((rd_T24 l1_4 x31_2).f2))) (fun _ hk => hk.2) (.slice A204_3 ((rd_T24 l1_4 x31_2).f3).length c204_3)) (fun _ h_ => h_.1))) hb); have n4_ := Aside0.mk (Kd.V_below (by (with_reducible repeat (first | apply Kd.V_alloc | apply Kd.V_drewN | apply Kd.V_drew)); exact (Kd.V_mono (Kd.V_far (p := ⟨gb205, 3, none⟩) (Kd.V_far (p := ⟨gb205, 2, none⟩) (Kd.V_far (p := ⟨gb205, 1, none⟩) (Kd.V_far (p := ⟨gb205, 0, none⟩) (Kd.V_mono HL204_3.out (fun k_ hk => (⟨hk, hk.2⟩ : _ ∧ k_ ≠ gb205))) (fun _ hk => hk.2) (.int .i64 ((rd_T24 l1_4 x31_2).f0))) (fun _ hk => hk.2) (.string ((rd_T24 l1_4 x31_2).f1))) (fun _ hk => hk.2) (.int .i64 ((rd_T24 l1_4 x31_2).f2))) (fun _ hk => hk.2) (.slice A204_3 ((rd_T24 l1_4 x31_2).f3).length c204_3)) (fun _ h_ => h_.1))) hb); have n5_ := Aside0.mk (blk_below (g := gb188) (o := .cells #[.int .i64 a0_0, .string a0_1, .int .i64 a0_2, .slice A0_3 l0_3.length c0_3] 24 (0, 0)) (by (with_reducible repeat (first | refine blk_drewN ?_ _ | refine blk_drew ?_ | refine blk_alloc ?_ _)); refine blk_far ?_ NB188_205.out _; (with_reducible repeat (first | refine blk_drewN ?_ _ | refine blk_drew ?_ | refine blk_alloc ?_ _)); refine blk_far ?_ NB188_205.out _; (with_reducible repeat (first | refine blk_drewN ?_ _ | refine blk_drew ?_ | refine blk_alloc ?_ _)); refine blk_far ?_ NB188_205.out _; (with_reducible repeat (first | refine blk_drewN ?_ _ | refine blk_drew ?_ | refine blk_alloc ?_ _)); refine blk_far ?_ NB188_205.out _; (with_reducible repeat (first | refine blk_drewN ?_ _ | refine blk_drew ?_ | refine blk_alloc ?_ _)); exact BK188.out) hb); have n6_ := Aside0.mk (blk_below (g := gb189) (o := .cells #[.int .i64 a1_0, .slice A1_1 l1_1.length c1_1, .int .i64 a1_2, .int .i64 a1_3, .slice (some ad204) l1_4.length c1_4, .int .i64 a1_5, .string a1_6, .string a1_7] 27 (0, 0)) (by (with_reducible repeat (first | refine blk_drewN ?_ _ | refine blk_drew ?_ | refine blk_alloc ?_ _)); refine blk_far ?_ NB189_205.out _; (with_reducible repeat (first | refine blk_drewN ?_ _ | refine blk_drew ?_ | refine blk_alloc ?_ _)); refine blk_far ?_ NB189_205.out _; (with_reducible repeat (first | refine blk_drewN ?_ _ | refine blk_drew ?_ | refine blk_alloc ?_ _)); refine blk_far ?_ NB189_205.out _; (with_reducible repeat (first | refine blk_drewN ?_ _ | refine blk_drew ?_ | refine blk_alloc ?_ _)); refine blk_far ?_ NB189_205.out _; (with_reducible repeat (first | refine blk_drewN ?_ _ | refine blk_drew ?_ | refine blk_alloc ?_ _)); exact BK189.out) hb); have n7_ := Aside0.mk (blk_below (g := gb203) (o := .cells #[.int .i64 t196, .string t197, .int .i64 t198, .slice Ao31 t199.length co31] 24 (0, 0)) (by (with_reducible repeat (first | refine blk_drewN ?_ _ | refine blk_drew ?_ | refine blk_alloc ?_ _)); refine blk_far ?_ NB203_205.out _; (with_reducible repeat (first | refine blk_drewN ?_ _ | refine blk_drew ?_ | refine blk_alloc ?_ _)); refine blk_far ?_ NB203_205.out _; (with_reducible repeat (first | refine blk_drewN ?_ _ | refine blk_drew ?_ | refine blk_alloc ?_ _)); refine blk_far ?_ NB203_205.out _; (with_reducible repeat (first | refine blk_drewN ?_ _ | refine blk_drew ?_ | refine blk_alloc ?_ _)); refine blk_far ?_ NB203_205.out _; (with_reducible repeat (first | refine blk_drewN ?_ _ | refine blk_drew ?_ | refine blk_alloc ?_ _)); exact BK203.out) hb); have n8_ := Aside0.mk (Kd.C_below ((Kd.V_reads' (by (with_reducible repeat (first | apply Kd.V_alloc | apply Kd.V_drewN | apply Kd.V_drew)); exact (Kd.V_mono (Kd.V_far (p := ⟨gb205, 3, none⟩) (Kd.V_far (p := ⟨gb205, 2, none⟩) (Kd.V_far (p := ⟨gb205, 1, none⟩) (Kd.V_far (p := ⟨gb205, 0, none⟩) (Kd.V_mono HL204_3.out (fun k_ hk => (⟨hk, hk.2⟩ : _ ∧ k_ ≠ gb205))) (fun _ hk => hk.2) (.int .i64 ((rd_T24 l1_4 x31_2).f0))) (fun _ hk => hk.2) (.string ((rd_T24 l1_4 x31_2).f1))) (fun _ hk => hk.2) (.int .i64 ((rd_T24 l1_4 x31_2).f2))) (fun _ hk => hk.2) (.slice A204_3 ((rd_T24 l1_4 x31_2).f3).length c204_3)) (fun _ h_ => h_.1)))).2.2) hb); have n9_ := Aside0.mk (blk_below (g := gb205) (o := .cells #[.int .i64 ((rd_T24 l1_4 x31_2).f0), .string ((rd_T24 l1_4 x31_2).f1), .int .i64 ((rd_T24 l1_4 x31_2).f2), .slice A204_3 ((rd_T24 l1_4 x31_2).f3).length c204_3] 24 (0, 0)) (by (with_reducible repeat (first | refine blk_drewN ?_ _ | refine blk_drew ?_ | refine blk_alloc ?_ _)); refine blk_put (cs := #[.int .i64 ((rd_T24 l1_4 x31_2).f0), .string ((rd_T24 l1_4 x31_2).f1), .int .i64 ((rd_T24 l1_4 x31_2).f2), .slice none 0 0]) ?_ 3 _ rfl; (with_reducible repeat (first | refine blk_drewN ?_ _ | refine blk_drew ?_ | refine blk_alloc ?_ _)); refine blk_put (cs := #[.int .i64 ((rd_T24 l1_4 x31_2).f0), .string ((rd_T24 l1_4 x31_2).f1), .int .i64 0, .slice none 0 0]) ?_ 2 _ rfl; (with_reducible repeat (first | refine blk_drewN ?_ _ | refine blk_drew ?_ | refine blk_alloc ?_ _)); refine blk_put (cs := #[.int .i64 ((rd_T24 l1_4 x31_2).f0), .string (⟨#[]⟩ : ByteArray), .int .i64 0, .slice none 0 0]) ?_ 1 _ rfl; (with_reducible repeat (first | refine blk_drewN ?_ _ | refine blk_drew ?_ | refine blk_alloc ?_ _)); refine blk_put (cs := #[.int .i64 0, .string (⟨#[]⟩ : ByteArray), .int .i64 0, .slice none 0 0]) ?_ 0 _ rfl; (with_reducible repeat (first | refine blk_drewN ?_ _ | refine blk_drew ?_ | refine blk_alloc ?_ _)); exact BK205.out) hb); have n10_ := Aside0.mk (below_step (by repeat (first | (with_reducible first | exact HB.out | apply below_alloc | apply pw_below_drewN | apply below_drew1 | refine below_set ?_ GE188.out | refine below_set ?_ GE189.out | refine below_set ?_ GE203.out | refine below_set ?_ GE205.out) | exact HB.out)) hb); clear HO_29; clear HO_190001; clear HO_190004; clear HO_204003; clear HL204_3; clear BK188; clear BK189; clear BK203; clear HR204_3; clear BK205; clear HB; have HO_29 := n0_; have HO_190001 := n1_; have HO_190004 := n2_; have HO_204003 := n3_; have HL204_3 := n4_; have BK188 := n5_; have BK189 := n6_; have BK203 := n7_; have HR204_3 := n8_; have BK205 := n9_; have HB := n10_; clear n0_ n1_ n2_ n3_ n4_ n5_ n6_ n7_ n8_ n9_ n10_; (try clear hb); (try clear hb2); (try clear hk); (try clear hi)))
                    go_roundg k2
                    case measure => have := HJ2.out; have := HK2.out; omega
                    case rel => exact ⟨(wrap64 (x7_2 + t206)), (wrap64 (x31_2 + 1)), (by first | rfl | (simp; done) | (simp [*]; done)), (by first | rfl | (simp; done) | (simp [*]; done)), H', ⟨by have := HJ2.out; have := HK2.out; omega⟩, ⟨by (with_reducible repeat (first | apply Kd.V_alloc | apply Kd.V_drewN | apply Kd.V_drew)); exact Kd.V_mono HO_29.out (fun _ hk => ⟨hk.1.1, ⟨hk.1.2.1, ⟨hk.1.2.2.1, hk.1.2.2.2⟩⟩⟩)⟩, ⟨by (with_reducible repeat (first | apply Kd.V_alloc | apply Kd.V_drewN | apply Kd.V_drew)); exact Kd.V_mono HO_190001.out (fun _ hk => ⟨hk.1.1, ⟨hk.1.2.1, ⟨hk.1.2.2.1, hk.1.2.2.2⟩⟩⟩)⟩, ⟨by (with_reducible repeat (first | apply Kd.V_alloc | apply Kd.V_drewN | apply Kd.V_drew)); exact Kd.V_mono HO_190004.out (fun _ hk => ⟨hk.1.1, ⟨hk.1.2.1, ⟨hk.1.2.2.1, hk.1.2.2.2⟩⟩⟩)⟩, ⟨by (with_reducible repeat (first | apply Kd.V_alloc | apply Kd.V_drewN | apply Kd.V_drew)); exact Kd.V_mono HO_204003.out (fun _ hk => ⟨hk.1.1, ⟨hk.1.2.1, ⟨hk.1.2.2.1, hk.1.2.2.2⟩⟩⟩)⟩, ⟨by (with_reducible repeat (first | refine blk_drewN ?_ _ | refine blk_drew ?_ | refine blk_alloc ?_ _)); exact BK188.out⟩, ⟨by (with_reducible repeat (first | refine blk_drewN ?_ _ | refine blk_drew ?_ | refine blk_alloc ?_ _)); exact BK189.out⟩, ⟨by (with_reducible repeat (first | refine blk_drewN ?_ _ | refine blk_drew ?_ | refine blk_alloc ?_ _)); exact BK203.out⟩, ⟨by repeat (first | (with_reducible first | exact HB.out | apply below_alloc | apply pw_below_drewN | apply below_drew1 | refine below_set ?_ GE188.out | refine below_set ?_ GE189.out | refine below_set ?_ GE203.out | refine below_set ?_ GE205.out) | exact HB.out)⟩⟩
                  · rw [if_neg c35] at H
                    exact absurd H (by simp)
                · rw [if_neg c34] at H
                  exact absurd H (by simp)
              · rw [if_neg c33] at H
                have c33b0 : decide (x31_2 < (l1_4.length : Int)) = false := decide_eq_false c33
                clear c33
                have HC43 := Aside0.mk H
                clear H
                go_upto_region 12 with (fail)
                go_cut [47] (fun v47 wc => ∃ (kq : Nat) (x47_42 : Bool), v47 = .bool x47_42 ∧ Aside0 (vinculumlaw12_EditCounts.j2 kq x7_2 x47_42 a0_0 a0_1 a0_2 l0_3 t196 t197 t198 t199 = some r) ∧ Aside0 (kq ≤ k2) ∧ Aside0 (Kd.V (Kd.int .i64) 3 wc w.heap.size (fun k_ => ((P1_1_ k_ ∨ P1_4_ k_) ∨ w.heap.size ≤ k_) ∧ k_ ≠ gb188 ∧ k_ ≠ gb189 ∧ k_ ≠ gb203) (.slice A1_1 l1_1.length c1_1) l1_1) ∧ Aside0 (Kd.V k24 24 wc w.heap.size (fun k_ => ((P1_1_ k_ ∨ P1_4_ k_) ∨ w.heap.size ≤ k_) ∧ k_ ≠ gb188 ∧ k_ ≠ gb189 ∧ k_ ≠ gb203) (.slice A1_4 l1_4.length c1_4) l1_4) ∧ Aside0 (Kd.V k24 24 wc w.heap.size (fun k_ => ((P1_1_ k_ ∨ P1_4_ k_) ∨ w.heap.size ≤ k_) ∧ k_ ≠ gb188 ∧ k_ ≠ gb189 ∧ k_ ≠ gb203) (.slice Ao31 t199.length co31) t199) ∧ Aside0 (wc.heap[gb188]? = some (.cells #[.int .i64 a0_0, .string a0_1, .int .i64 a0_2, (.slice A0_3 l0_3.length c0_3)] 24 (0, 0))) ∧ Aside0 (wc.heap[gb189]? = some (.cells #[.int .i64 a1_0, (.slice A1_1 l1_1.length c1_1), .int .i64 a1_2, .int .i64 a1_3, (.slice A1_4 l1_4.length c1_4), .int .i64 a1_5, .string a1_6, .string a1_7] 27 (0, 0))) ∧ Aside0 (wc.heap[gb203]? = some (.cells #[.int .i64 t196, .string t197, .int .i64 t198, (.slice Ao31 t199.length co31)] 24 (0, 0))) ∧ Aside0 (Below w.heap.size w wc))
                case first =>
                  have H := HC43.out
                  clear HC43
                  by_cases c44 : a1_0 = 2
                  · rw [if_pos c44] at H
                    have c44b0 : (a1_0 == 2) = true := beq_iff_eq.mpr c44
                    have c44b1 : (a1_0 != 2) = false := bne_eq_false_iff_eq.mpr c44
                    clear c44
                    (first | rw [c44b0] | (simp only [i64_w, i32_w]; rw [c44b0]) | skip)
                    have H' := Aside0.mk H
                    clear H
                    have hnb45 := NB189_188.out
                    have hnc45 := NB188_189.out
                    have hnb46 := NB189_203.out
                    have hnc46 := NB203_189.out
                    have hcz47_0 : wr.cell? ⟨gb189, 0, none⟩ = some (.int .i64 a1_0) := (blk_cell BK189.out 0).trans rfl
                    have hcz47_1 : wr.cell? ⟨gb189, 1, none⟩ = some (.slice A1_1 l1_1.length c1_1) := (blk_cell BK189.out 1).trans rfl
                    have hcz47_2 : wr.cell? ⟨gb189, 2, none⟩ = some (.int .i64 a1_2) := (blk_cell BK189.out 2).trans rfl
                    have hcz47_3 : wr.cell? ⟨gb189, 3, none⟩ = some (.int .i64 a1_3) := (blk_cell BK189.out 3).trans rfl
                    have hcz47_4 : wr.cell? ⟨gb189, 4, none⟩ = some (.slice A1_4 l1_4.length c1_4) := (blk_cell BK189.out 4).trans rfl
                    have hcz47_5 : wr.cell? ⟨gb189, 5, none⟩ = some (.int .i64 a1_5) := (blk_cell BK189.out 5).trans rfl
                    have hcz47_6 : wr.cell? ⟨gb189, 6, none⟩ = some (.string a1_6) := (blk_cell BK189.out 6).trans rfl
                    have hcz47_7 : wr.cell? ⟨gb189, 7, none⟩ = some (.string a1_7) := (blk_cell BK189.out 7).trans rfl
                    have hfz47_0 := blk_frozen BK189.out 0
                    have hfz47_1 := blk_frozen BK189.out 1
                    have hfz47_2 := blk_frozen BK189.out 2
                    have hfz47_3 := blk_frozen BK189.out 3
                    have hfz47_4 := blk_frozen BK189.out 4
                    have hfz47_5 := blk_frozen BK189.out 5
                    have hfz47_6 := blk_frozen BK189.out 6
                    have hfz47_7 := blk_frozen BK189.out 7
                    go_wp2
                    go_meet
                    case rel => exact ⟨_, (true), (by first | rfl | (simp; done) | (simp [*]; done)), H', ⟨by have := HJ2.out; have := HK2.out; first | omega | exact Nat.le_refl _⟩, ⟨by (with_reducible repeat (first | apply Kd.V_alloc | apply Kd.V_drewN | apply Kd.V_drew)); exact HO_190001.out⟩, ⟨by (with_reducible repeat (first | apply Kd.V_alloc | apply Kd.V_drewN | apply Kd.V_drew)); exact HO_190004.out⟩, ⟨by (with_reducible repeat (first | apply Kd.V_alloc | apply Kd.V_drewN | apply Kd.V_drew)); exact HO_204003.out⟩, ⟨by (with_reducible repeat (first | refine blk_drewN ?_ _ | refine blk_drew ?_ | refine blk_alloc ?_ _)); exact BK188.out⟩, ⟨by (with_reducible repeat (first | refine blk_drewN ?_ _ | refine blk_drew ?_ | refine blk_alloc ?_ _)); exact BK189.out⟩, ⟨by (with_reducible repeat (first | refine blk_drewN ?_ _ | refine blk_drew ?_ | refine blk_alloc ?_ _)); exact BK203.out⟩, ⟨by repeat (first | (with_reducible first | exact HB.out | apply below_alloc | apply pw_below_drewN | apply below_drew1 | refine below_set ?_ GE188.out | refine below_set ?_ GE189.out | refine below_set ?_ GE203.out) | exact HB.out)⟩⟩
                  · rw [if_neg c44] at H
                    have c44b0 : (a1_0 == 2) = false := beq_eq_false_iff_ne.mpr c44
                    have c44b1 : (a1_0 != 2) = true := bne_iff_ne.mpr c44
                    (first | rw [c44b0] | (simp only [i64_w, i32_w]; rw [c44b0]) | skip)
                    have H' := Aside0.mk H
                    clear H
                    have hnb48 := NB189_188.out
                    have hnc48 := NB188_189.out
                    have hnb49 := NB189_203.out
                    have hnc49 := NB203_189.out
                    have hcz50_0 : wr.cell? ⟨gb189, 0, none⟩ = some (.int .i64 a1_0) := (blk_cell BK189.out 0).trans rfl
                    have hcz50_1 : wr.cell? ⟨gb189, 1, none⟩ = some (.slice A1_1 l1_1.length c1_1) := (blk_cell BK189.out 1).trans rfl
                    have hcz50_2 : wr.cell? ⟨gb189, 2, none⟩ = some (.int .i64 a1_2) := (blk_cell BK189.out 2).trans rfl
                    have hcz50_3 : wr.cell? ⟨gb189, 3, none⟩ = some (.int .i64 a1_3) := (blk_cell BK189.out 3).trans rfl
                    have hcz50_4 : wr.cell? ⟨gb189, 4, none⟩ = some (.slice A1_4 l1_4.length c1_4) := (blk_cell BK189.out 4).trans rfl
                    have hcz50_5 : wr.cell? ⟨gb189, 5, none⟩ = some (.int .i64 a1_5) := (blk_cell BK189.out 5).trans rfl
                    have hcz50_6 : wr.cell? ⟨gb189, 6, none⟩ = some (.string a1_6) := (blk_cell BK189.out 6).trans rfl
                    have hcz50_7 : wr.cell? ⟨gb189, 7, none⟩ = some (.string a1_7) := (blk_cell BK189.out 7).trans rfl
                    have hfz50_0 := blk_frozen BK189.out 0
                    have hfz50_1 := blk_frozen BK189.out 1
                    have hfz50_2 := blk_frozen BK189.out 2
                    have hfz50_3 := blk_frozen BK189.out 3
                    have hfz50_4 := blk_frozen BK189.out 4
                    have hfz50_5 := blk_frozen BK189.out 5
                    have hfz50_6 := blk_frozen BK189.out 6
                    have hfz50_7 := blk_frozen BK189.out 7
                    go_wp2
                    go_meet
                    case rel => exact ⟨_, ((a1_0 == 4)), (by first | rfl | (simp; done) | (simp [*]; done)), H', ⟨by have := HJ2.out; have := HK2.out; first | omega | exact Nat.le_refl _⟩, ⟨by (with_reducible repeat (first | apply Kd.V_alloc | apply Kd.V_drewN | apply Kd.V_drew)); exact HO_190001.out⟩, ⟨by (with_reducible repeat (first | apply Kd.V_alloc | apply Kd.V_drewN | apply Kd.V_drew)); exact HO_190004.out⟩, ⟨by (with_reducible repeat (first | apply Kd.V_alloc | apply Kd.V_drewN | apply Kd.V_drew)); exact HO_204003.out⟩, ⟨by (with_reducible repeat (first | refine blk_drewN ?_ _ | refine blk_drew ?_ | refine blk_alloc ?_ _)); exact BK188.out⟩, ⟨by (with_reducible repeat (first | refine blk_drewN ?_ _ | refine blk_drew ?_ | refine blk_alloc ?_ _)); exact BK189.out⟩, ⟨by (with_reducible repeat (first | refine blk_drewN ?_ _ | refine blk_drew ?_ | refine blk_alloc ?_ _)); exact BK203.out⟩, ⟨by repeat (first | (with_reducible first | exact HB.out | apply below_alloc | apply pw_below_drewN | apply below_drew1 | refine below_set ?_ GE188.out | refine below_set ?_ GE189.out | refine below_set ?_ GE203.out) | exact HB.out)⟩⟩
                case rest =>
                  clear HC43
                  try clear c1
                  try clear c2
                  try clear p2
                  try clear q2
                  try clear hx2
                  try clear c3
                  try clear c4
                  try clear p6
                  try clear c7
                  try clear c8
                  try clear c9
                  try clear c10
                  try clear c11
                  try clear c12
                  try clear c18
                  try clear c20
                  try clear p20
                  try clear q20
                  try clear hx20
                  try clear c22
                  try clear c22b0
                  try clear c22b1
                  try clear c23
                  try clear c28
                  try clear c29
                  try clear c33
                  try clear c33b0
                  try clear c34
                  try clear c34b0
                  try clear c35
                  try clear c35b0
                  try clear c38
                  try clear c39
                  try clear c40
                  try clear c44
                  try clear c44b0
                  try clear c44b1
                  try clear c45
                  try clear c46
                  try clear c48
                  try clear c49
                  try clear hcz11_0
                  try clear hcz11_1
                  try clear hcz11_2
                  try clear hcz11_3
                  try clear hcz12_0
                  try clear hcz12_1
                  try clear hcz12_2
                  try clear hcz12_3
                  try clear hcz12_4
                  try clear hcz12_5
                  try clear hcz12_6
                  try clear hcz12_7
                  try clear hcz24_0
                  try clear hcz24_1
                  try clear hcz24_2
                  try clear hcz24_3
                  try clear hcz25_0
                  try clear hcz25_1
                  try clear hcz25_2
                  try clear hcz25_3
                  try clear hcz25_4
                  try clear hcz25_5
                  try clear hcz25_6
                  try clear hcz25_7
                  try clear hcz30_0
                  try clear hcz30_1
                  try clear hcz30_2
                  try clear hcz30_3
                  try clear hcz32_0
                  try clear hcz32_1
                  try clear hcz32_2
                  try clear hcz32_3
                  try clear hcz32_4
                  try clear hcz32_5
                  try clear hcz32_6
                  try clear hcz32_7
                  try clear hcz41_0
                  try clear hcz41_1
                  try clear hcz41_2
                  try clear hcz41_3
                  try clear hcz47_0
                  try clear hcz47_1
                  try clear hcz47_2
                  try clear hcz47_3
                  try clear hcz47_4
                  try clear hcz47_5
                  try clear hcz47_6
                  try clear hcz47_7
                  try clear hcz50_0
                  try clear hcz50_1
                  try clear hcz50_2
                  try clear hcz50_3
                  try clear hcz50_4
                  try clear hcz50_5
                  try clear hcz50_6
                  try clear hcz50_7
                  try clear hfz11_0
                  try clear hfz11_1
                  try clear hfz11_2
                  try clear hfz11_3
                  try clear hfz12_0
                  try clear hfz12_1
                  try clear hfz12_2
                  try clear hfz12_3
                  try clear hfz12_4
                  try clear hfz12_5
                  try clear hfz12_6
                  try clear hfz12_7
                  try clear hfz24_0
                  try clear hfz24_1
                  try clear hfz24_2
                  try clear hfz24_3
                  try clear hfz25_0
                  try clear hfz25_1
                  try clear hfz25_2
                  try clear hfz25_3
                  try clear hfz25_4
                  try clear hfz25_5
                  try clear hfz25_6
                  try clear hfz25_7
                  try clear hfz30_0
                  try clear hfz30_1
                  try clear hfz30_2
                  try clear hfz30_3
                  try clear hfz32_0
                  try clear hfz32_1
                  try clear hfz32_2
                  try clear hfz32_3
                  try clear hfz32_4
                  try clear hfz32_5
                  try clear hfz32_6
                  try clear hfz32_7
                  try clear hfz41_0
                  try clear hfz41_1
                  try clear hfz41_2
                  try clear hfz41_3
                  try clear hfz47_0
                  try clear hfz47_1
                  try clear hfz47_2
                  try clear hfz47_3
                  try clear hfz47_4
                  try clear hfz47_5
                  try clear hfz47_6
                  try clear hfz47_7
                  try clear hfz50_0
                  try clear hfz50_1
                  try clear hfz50_2
                  try clear hfz50_3
                  try clear hfz50_4
                  try clear hfz50_5
                  try clear hfz50_6
                  try clear hfz50_7
                  try clear hx204_0
                  try clear hx204_1
                  try clear hx204_2
                  try clear hx204_3
                  try clear p2
                  try clear p204
                  try clear q204
                  obtain ⟨kq, x47_42, rfl, HA, HJ42, HO_190001, HO_190004, HO_204003, BK188, BK189, BK203, HB⟩ := hcut
                  cases kq with
                  | zero => exact absurd HA.out (by simp [vinculumlaw12_EditCounts.j2])
                  | succ kj42 =>
                    have H := HA.out
                    clear HA
                    simp only [vinculumlaw12_EditCounts.j2] at H
                    by_cases c51 : x47_42 = true
                    · subst c51
                      have H1 : ((vinculumref09_Count.f kj42 t196 t197 t198 t199).bind fun t207 => ((vinculumref09_Count.f kj42 a0_0 a0_1 a0_2 l0_3).bind fun t208 => (some (t207 == (wrap64 (t208 + (wrap64 (-x7_2)))))))) = some r := by rw [if_pos rfl] at H; exact H
                      clear H
                      have H := H1
                      clear H1
                      replace H := Option.bind_eq_some_iff.mp H
                      obtain ⟨t207, A520, H⟩ := H
                      replace H : ((vinculumref09_Count.f kj42 a0_0 a0_1 a0_2 l0_3).bind fun t208 => (some (t207 == (wrap64 (t208 + (wrap64 (-x7_2))))))) = some r := H
                      have A52 := Aside0.mk A520
                      clear A520
                      replace H := Option.bind_eq_some_iff.mp H
                      obtain ⟨t208, A530, H⟩ := H
                      replace H : (some (t207 == (wrap64 (t208 + (wrap64 (-x7_2)))))) = some r := H
                      have A53 := Aside0.mk A530
                      clear A530
                      obtain rfl := Option.some.inj H
                      try go_wp2
                      have n0_ := Aside0.mk (Kd.V_drew HO_190001.out)
                      have n1_ := Aside0.mk (Kd.V_drew HO_190004.out)
                      have n2_ := Aside0.mk (Kd.V_drew HO_204003.out)
                      have n3_ := Aside0.mk (blk_drew BK188.out)
                      have n4_ := Aside0.mk (blk_drew BK189.out)
                      have n5_ := Aside0.mk (blk_drew BK203.out)
                      have n6_ := Aside0.mk (below_drew1 HB.out)
                      clear HO_190001
                      clear HO_190004
                      clear HO_204003
                      clear BK188
                      clear BK189
                      clear BK203
                      clear HB
                      have HO_190001 := n0_
                      have HO_190004 := n1_
                      have HO_204003 := n2_
                      have BK188 := n3_
                      have BK189 := n4_
                      have BK203 := n5_
                      have HB := n6_
                      clear n0_ n1_ n2_ n3_ n4_ n5_ n6_
                      refine start_ (n := 8) (S := fun w' => w'.cell? ⟨gb203, 0, none⟩ = some (.int .i64 t196) ∧ w'.cell? ⟨gb203, 1, none⟩ = some (.string t197) ∧ w'.cell? ⟨gb203, 2, none⟩ = some (.int .i64 t198) ∧ w'.cell? ⟨gb203, 3, none⟩ = some (.slice Ao31 t199.length co31) ∧ w'.cell? ⟨gb188, 0, none⟩ = some (.int .i64 a0_0) ∧ w'.cell? ⟨gb188, 1, none⟩ = some (.string a0_1) ∧ w'.cell? ⟨gb188, 2, none⟩ = some (.int .i64 a0_2) ∧ w'.cell? ⟨gb188, 3, none⟩ = some (.slice A0_3 l0_3.length c0_3)) (ds := []) #[false, false, false, false, false, false, false, false] (by kernel_rfl) rfl rfl ⟨(blk_cell BK203.out 0).trans rfl, (blk_cell BK203.out 1).trans rfl, (blk_cell BK203.out 2).trans rfl, (blk_cell BK203.out 3).trans rfl, (blk_cell BK188.out 0).trans rfl, (blk_cell BK188.out 1).trans rfl, (blk_cell BK188.out 2).trans rfl, (blk_cell BK188.out 3).trans rfl⟩ (fun hHeld => ?_); refine with_tabW vinculumlaw12_EditCounts.tab14 vinculumlaw12_EditCounts.bits14 (fun HT_ HW_ => ?_)
                      generalize wc.drew = w54 at HO_190001 HO_190004 HO_204003 BK188 BK189 BK203 HB hHeld ⊢
                      refine pure_ (i := 4) (N := some 54) (v := ?_) (a' := ?_) #[false, false, false, false, true, false, false, false] rfl rfl (any_of HT_.out (by kernel_rfl)) (fun _ _ _ h => h) (Or.inl ⟨by rfl, ?_⟩) ?_ ?_
                      rotate_left
                      · intro w'
                        go_simp
                        with_reducible rfl
                      rotate_left
                      · simp only [Act.put, List.setIfInBounds_toArray, List.set_cons_zero, List.set_cons_succ, i64_w, i32_w]
                        rfl
                      refine take_ (i := 0) (N := some 50) (v := ?_) (a' := ?_) #[true, false, false, false, true, false, false, false] rfl rfl (take_ofW HT_.out HW_.out (by kernel_rfl)) (fun _ _ _ h => h) (Or.inl ⟨by rfl, ?_⟩) hHeld ?_ ?_
                      rotate_left
                      · rintro w' ⟨s0, s1, s2, s3, s4, s5, s6, s7⟩
                        go_simp
                        with_reducible rfl
                      rotate_left
                      · simp only [Act.put, List.setIfInBounds_toArray, List.set_cons_zero, List.set_cons_succ, i64_w, i32_w]
                        rfl
                      refine take_ (i := 2) (N := some 52) (v := ?_) (a' := ?_) #[true, false, true, false, true, false, false, false] rfl rfl (take_ofW HT_.out HW_.out (by kernel_rfl)) (fun _ _ _ h => h) (Or.inl ⟨by rfl, ?_⟩) hHeld ?_ ?_
                      rotate_left
                      · rintro w' ⟨s0, s1, s2, s3, s4, s5, s6, s7⟩
                        go_simp
                        with_reducible rfl
                      rotate_left
                      · simp only [Act.put, List.setIfInBounds_toArray, List.set_cons_zero, List.set_cons_succ, i64_w, i32_w]
                        rfl
                      refine one_ (i := 1) (N := some 51) #[true, true, true, false, true, false, false, false] rfl rfl (one_of HT_.out (by kernel_rfl)) (by decide) (fun K hK => ?_)
                      refine goes_ Tryd.func12 (by kernel_rfl) rfl #[.agg #[.int .i64 t196, .string t197, .int .i64 t198, .slice Ao31 t199.length co31]] (by rfl) rfl rfl (by (try simp only [List.map_toArray, List.map_cons, List.map_nil]); first | done | rfl | (simp only [List.length_drop, List.length_take]; rfl)) ?_
                      with_reducible refine (vinculumref09_Count.calls kj42 t196 t197 t198 _ _ t199 t207 _ ?side1 ?side2 A52.out).mono ?_
                      (case side1 => repeat (first | exact (Kd.V_reads' HO_204003.out).2.2 | (with_reducible refine Kd.C_alloc ?_ _) | (with_reducible refine Kd.C_drewN ?_ _) | (with_reducible refine Kd.C_drew ?_)))
                      (case side2 => exact (Kd.V_reads' HO_204003.out).2.1)
                      rintro e w55 ⟨rfl, hb⟩
                      refine ⟨_, rfl, ?_⟩
                      have n0_ := Aside0.mk (Kd.V_below (by (with_reducible repeat (first | apply Kd.V_alloc | apply Kd.V_drewN | apply Kd.V_drew)); exact HO_190001.out) hb)
                      have n1_ := Aside0.mk (Kd.V_below (by (with_reducible repeat (first | apply Kd.V_alloc | apply Kd.V_drewN | apply Kd.V_drew)); exact HO_190004.out) hb)
                      have n2_ := Aside0.mk (Kd.V_below (by (with_reducible repeat (first | apply Kd.V_alloc | apply Kd.V_drewN | apply Kd.V_drew)); exact HO_204003.out) hb)
                      have n3_ := Aside0.mk (blk_below (g := gb188) (o := .cells #[.int .i64 a0_0, .string a0_1, .int .i64 a0_2, .slice A0_3 l0_3.length c0_3] 24 (0, 0)) (by (with_reducible repeat (first | refine blk_drewN ?_ _ | refine blk_drew ?_ | refine blk_alloc ?_ _)); exact BK188.out) hb)
                      have n4_ := Aside0.mk (blk_below (g := gb189) (o := .cells #[.int .i64 a1_0, .slice A1_1 l1_1.length c1_1, .int .i64 a1_2, .int .i64 a1_3, .slice A1_4 l1_4.length c1_4, .int .i64 a1_5, .string a1_6, .string a1_7] 27 (0, 0)) (by (with_reducible repeat (first | refine blk_drewN ?_ _ | refine blk_drew ?_ | refine blk_alloc ?_ _)); exact BK189.out) hb)
                      have n5_ := Aside0.mk (blk_below (g := gb203) (o := .cells #[.int .i64 t196, .string t197, .int .i64 t198, .slice Ao31 t199.length co31] 24 (0, 0)) (by (with_reducible repeat (first | refine blk_drewN ?_ _ | refine blk_drew ?_ | refine blk_alloc ?_ _)); exact BK203.out) hb)
                      have n6_ := Aside0.mk (below_step (by repeat (first | (with_reducible first | exact HB.out | apply below_alloc | apply pw_below_drewN | apply below_drew1 | refine below_set ?_ GE188.out | refine below_set ?_ GE189.out | refine below_set ?_ GE203.out) | exact HB.out)) hb)
                      clear HO_190001
                      clear HO_190004
                      clear HO_204003
                      clear BK188
                      clear BK189
                      clear BK203
                      clear HB
                      have HO_190001 := n0_
                      have HO_190004 := n1_
                      have HO_204003 := n2_
                      have BK188 := n3_
                      have BK189 := n4_
                      have BK203 := n5_
                      have HB := n6_
                      clear n0_ n1_ n2_ n3_ n4_ n5_ n6_
                      (try clear hb)
                      (try clear hb2)
                      (try clear hk)
                      (try clear hi)
                      refine hK.out _ _ ⟨(blk_cell BK203.out 0).trans rfl, (blk_cell BK203.out 1).trans rfl, (blk_cell BK203.out 2).trans rfl, (blk_cell BK203.out 3).trans rfl, (blk_cell BK188.out 0).trans rfl, (blk_cell BK188.out 1).trans rfl, (blk_cell BK188.out 2).trans rfl, (blk_cell BK188.out 3).trans rfl⟩ (fun hHeld => ?_)
                      clear hK K
                      refine norm_ (a' := ?_) ?_ ?_
                      rotate_left
                      · show Act.put _ (some 51) _ = _
                        simp only [Act.put, List.setIfInBounds_toArray, List.set_cons_zero, List.set_cons_succ, i64_w, i32_w]
                        rfl
                      refine one_ (i := 3) (N := some 53) #[true, true, true, true, true, false, false, false] rfl rfl (one_of HT_.out (by kernel_rfl)) (by decide) (fun K hK => ?_)
                      refine goes_ Tryd.func12 (by kernel_rfl) rfl #[.agg #[.int .i64 a0_0, .string a0_1, .int .i64 a0_2, .slice A0_3 l0_3.length c0_3]] (by rfl) rfl rfl (by (try simp only [List.map_toArray, List.map_cons, List.map_nil]); first | done | rfl | (simp only [List.length_drop, List.length_take]; rfl)) ?_
                      with_reducible refine (vinculumref09_Count.calls kj42 a0_0 a0_1 a0_2 _ _ l0_3 t208 _ ?side1 ?side2 A53.out).mono ?_
                      (case side1 => repeat (first | exact (Kd.C_below HR0_3.out HB.out) | (with_reducible refine Kd.C_alloc ?_ _) | (with_reducible refine Kd.C_drewN ?_ _) | (with_reducible refine Kd.C_drew ?_)))
                      (case side2 => exact HC0_3.out)
                      rintro e w56 ⟨rfl, hb⟩
                      refine ⟨_, rfl, ?_⟩
                      have n0_ := Aside0.mk (Kd.V_below (by (with_reducible repeat (first | apply Kd.V_alloc | apply Kd.V_drewN | apply Kd.V_drew)); exact HO_190001.out) hb)
                      have n1_ := Aside0.mk (Kd.V_below (by (with_reducible repeat (first | apply Kd.V_alloc | apply Kd.V_drewN | apply Kd.V_drew)); exact HO_190004.out) hb)
                      have n2_ := Aside0.mk (Kd.V_below (by (with_reducible repeat (first | apply Kd.V_alloc | apply Kd.V_drewN | apply Kd.V_drew)); exact HO_204003.out) hb)
                      have n3_ := Aside0.mk (blk_below (g := gb188) (o := .cells #[.int .i64 a0_0, .string a0_1, .int .i64 a0_2, .slice A0_3 l0_3.length c0_3] 24 (0, 0)) (by (with_reducible repeat (first | refine blk_drewN ?_ _ | refine blk_drew ?_ | refine blk_alloc ?_ _)); exact BK188.out) hb)
                      have n4_ := Aside0.mk (blk_below (g := gb189) (o := .cells #[.int .i64 a1_0, .slice A1_1 l1_1.length c1_1, .int .i64 a1_2, .int .i64 a1_3, .slice A1_4 l1_4.length c1_4, .int .i64 a1_5, .string a1_6, .string a1_7] 27 (0, 0)) (by (with_reducible repeat (first | refine blk_drewN ?_ _ | refine blk_drew ?_ | refine blk_alloc ?_ _)); exact BK189.out) hb)
                      have n5_ := Aside0.mk (blk_below (g := gb203) (o := .cells #[.int .i64 t196, .string t197, .int .i64 t198, .slice Ao31 t199.length co31] 24 (0, 0)) (by (with_reducible repeat (first | refine blk_drewN ?_ _ | refine blk_drew ?_ | refine blk_alloc ?_ _)); exact BK203.out) hb)
                      have n6_ := Aside0.mk (below_step (by repeat (first | (with_reducible first | exact HB.out | apply below_alloc | apply pw_below_drewN | apply below_drew1 | refine below_set ?_ GE188.out | refine below_set ?_ GE189.out | refine below_set ?_ GE203.out) | exact HB.out)) hb)
                      clear HO_190001
                      clear HO_190004
                      clear HO_204003
                      clear BK188
                      clear BK189
                      clear BK203
                      clear HB
                      have HO_190001 := n0_
                      have HO_190004 := n1_
                      have HO_204003 := n2_
                      have BK188 := n3_
                      have BK189 := n4_
                      have BK203 := n5_
                      have HB := n6_
                      clear n0_ n1_ n2_ n3_ n4_ n5_ n6_
                      (try clear hb)
                      (try clear hb2)
                      (try clear hk)
                      (try clear hi)
                      refine hK.out _ _ ⟨(blk_cell BK203.out 0).trans rfl, (blk_cell BK203.out 1).trans rfl, (blk_cell BK203.out 2).trans rfl, (blk_cell BK203.out 3).trans rfl, (blk_cell BK188.out 0).trans rfl, (blk_cell BK188.out 1).trans rfl, (blk_cell BK188.out 2).trans rfl, (blk_cell BK188.out 3).trans rfl⟩ (fun hHeld => ?_)
                      clear hK K
                      refine norm_ (a' := ?_) ?_ ?_
                      rotate_left
                      · show Act.put _ (some 53) _ = _
                        simp only [Act.put, List.setIfInBounds_toArray, List.set_cons_zero, List.set_cons_succ, i64_w, i32_w]
                        rfl
                      refine pure_ (i := 5) (N := some 55) (v := ?_) (a' := ?_) #[true, true, true, true, true, true, false, false] rfl rfl (any_of HT_.out (by kernel_rfl)) (fun _ _ _ h => h) (Or.inl ⟨by rfl, ?_⟩) ?_ ?_
                      rotate_left
                      · intro w'
                        go_simp
                        with_reducible rfl
                      rotate_left
                      · simp only [Act.put, List.setIfInBounds_toArray, List.set_cons_zero, List.set_cons_succ, i64_w, i32_w]
                        rfl
                      refine pure_ (i := 6) (N := some 56) (v := ?_) (a' := ?_) #[true, true, true, true, true, true, true, false] rfl rfl (any_of HT_.out (by kernel_rfl)) (fun _ _ _ h => h) (Or.inl ⟨by rfl, ?_⟩) ?_ ?_
                      rotate_left
                      · intro w'
                        go_simp
                        with_reducible rfl
                      rotate_left
                      · simp only [Act.put, List.setIfInBounds_toArray, List.set_cons_zero, List.set_cons_succ, i64_w, i32_w]
                        rfl
                      refine pure_ (i := 7) (N := some 4) (v := ?_) (a' := ?_) #[true, true, true, true, true, true, true, true] rfl rfl (any_of HT_.out (by kernel_rfl)) (fun _ _ _ h => h) (Or.inl ⟨by rfl, ?_⟩) ?_ ?_
                      rotate_left
                      · intro w'
                        go_simp
                        with_reducible rfl
                      rotate_left
                      · simp only [Act.put, List.setIfInBounds_toArray, List.set_cons_zero, List.set_cons_succ, i64_w, i32_w]
                        rfl
                      refine done_ (done_of HT_.out (by kernel_rfl)) ?_
                      try go_wp2
                      go_ret
                      exact ⟨by first | rfl | (simp [errW_none, errW_some] <;> rfl) | (simp [*, errW_none, errW_some] <;> rfl), by repeat (first | (with_reducible first | exact HB.out | apply below_alloc | apply pw_below_drewN | apply below_drew1 | refine below_set ?_ GE188.out | refine below_set ?_ GE189.out | refine below_set ?_ GE203.out) | exact HB.out)⟩
                    · replace c51 := Bool.eq_false_iff.mpr c51
                      subst c51
                      have H1 : ((vinculumref09_Count.f kj42 t196 t197 t198 t199).bind fun t209 => ((vinculumref09_Count.f kj42 a0_0 a0_1 a0_2 l0_3).bind fun t210 => (some (t209 == (wrap64 (t210 + x7_2)))))) = some r := by rw [if_neg (show ¬ (false = true) by decide)] at H; exact H
                      clear H
                      have H := H1
                      clear H1
                      replace H := Option.bind_eq_some_iff.mp H
                      obtain ⟨t209, A570, H⟩ := H
                      replace H : ((vinculumref09_Count.f kj42 a0_0 a0_1 a0_2 l0_3).bind fun t210 => (some (t209 == (wrap64 (t210 + x7_2))))) = some r := H
                      have A57 := Aside0.mk A570
                      clear A570
                      replace H := Option.bind_eq_some_iff.mp H
                      obtain ⟨t210, A580, H⟩ := H
                      replace H : (some (t209 == (wrap64 (t210 + x7_2)))) = some r := H
                      have A58 := Aside0.mk A580
                      clear A580
                      obtain rfl := Option.some.inj H
                      try go_wp2
                      have n0_ := Aside0.mk (Kd.V_drew HO_190001.out)
                      have n1_ := Aside0.mk (Kd.V_drew HO_190004.out)
                      have n2_ := Aside0.mk (Kd.V_drew HO_204003.out)
                      have n3_ := Aside0.mk (blk_drew BK188.out)
                      have n4_ := Aside0.mk (blk_drew BK189.out)
                      have n5_ := Aside0.mk (blk_drew BK203.out)
                      have n6_ := Aside0.mk (below_drew1 HB.out)
                      clear HO_190001
                      clear HO_190004
                      clear HO_204003
                      clear BK188
                      clear BK189
                      clear BK203
                      clear HB
                      have HO_190001 := n0_
                      have HO_190004 := n1_
                      have HO_204003 := n2_
                      have BK188 := n3_
                      have BK189 := n4_
                      have BK203 := n5_
                      have HB := n6_
                      clear n0_ n1_ n2_ n3_ n4_ n5_ n6_
                      refine start_ (n := 8) (S := fun w' => w'.cell? ⟨gb203, 0, none⟩ = some (.int .i64 t196) ∧ w'.cell? ⟨gb203, 1, none⟩ = some (.string t197) ∧ w'.cell? ⟨gb203, 2, none⟩ = some (.int .i64 t198) ∧ w'.cell? ⟨gb203, 3, none⟩ = some (.slice Ao31 t199.length co31) ∧ w'.cell? ⟨gb188, 0, none⟩ = some (.int .i64 a0_0) ∧ w'.cell? ⟨gb188, 1, none⟩ = some (.string a0_1) ∧ w'.cell? ⟨gb188, 2, none⟩ = some (.int .i64 a0_2) ∧ w'.cell? ⟨gb188, 3, none⟩ = some (.slice A0_3 l0_3.length c0_3)) (ds := []) #[false, false, false, false, false, false, false, false] (by kernel_rfl) rfl rfl ⟨(blk_cell BK203.out 0).trans rfl, (blk_cell BK203.out 1).trans rfl, (blk_cell BK203.out 2).trans rfl, (blk_cell BK203.out 3).trans rfl, (blk_cell BK188.out 0).trans rfl, (blk_cell BK188.out 1).trans rfl, (blk_cell BK188.out 2).trans rfl, (blk_cell BK188.out 3).trans rfl⟩ (fun hHeld => ?_); refine with_tabW vinculumlaw12_EditCounts.tab14 vinculumlaw12_EditCounts.bits14 (fun HT_ HW_ => ?_)
                      generalize wc.drew = w59 at HO_190001 HO_190004 HO_204003 BK188 BK189 BK203 HB hHeld ⊢
                      refine pure_ (i := 4) (N := some 54) (v := ?_) (a' := ?_) #[false, false, false, false, true, false, false, false] rfl rfl (any_of HT_.out (by kernel_rfl)) (fun _ _ _ h => h) (Or.inl ⟨by rfl, ?_⟩) ?_ ?_
                      rotate_left
                      · intro w'
                        go_simp
                        with_reducible rfl
                      rotate_left
                      · simp only [Act.put, List.setIfInBounds_toArray, List.set_cons_zero, List.set_cons_succ, i64_w, i32_w]
                        rfl
                      refine take_ (i := 0) (N := some 50) (v := ?_) (a' := ?_) #[true, false, false, false, true, false, false, false] rfl rfl (take_ofW HT_.out HW_.out (by kernel_rfl)) (fun _ _ _ h => h) (Or.inl ⟨by rfl, ?_⟩) hHeld ?_ ?_
                      rotate_left
                      · rintro w' ⟨s0, s1, s2, s3, s4, s5, s6, s7⟩
                        go_simp
                        with_reducible rfl
                      rotate_left
                      · simp only [Act.put, List.setIfInBounds_toArray, List.set_cons_zero, List.set_cons_succ, i64_w, i32_w]
                        rfl
                      refine take_ (i := 2) (N := some 52) (v := ?_) (a' := ?_) #[true, false, true, false, true, false, false, false] rfl rfl (take_ofW HT_.out HW_.out (by kernel_rfl)) (fun _ _ _ h => h) (Or.inl ⟨by rfl, ?_⟩) hHeld ?_ ?_
                      rotate_left
                      · rintro w' ⟨s0, s1, s2, s3, s4, s5, s6, s7⟩
                        go_simp
                        with_reducible rfl
                      rotate_left
                      · simp only [Act.put, List.setIfInBounds_toArray, List.set_cons_zero, List.set_cons_succ, i64_w, i32_w]
                        rfl
                      refine one_ (i := 1) (N := some 51) #[true, true, true, false, true, false, false, false] rfl rfl (one_of HT_.out (by kernel_rfl)) (by decide) (fun K hK => ?_)
                      refine goes_ Tryd.func12 (by kernel_rfl) rfl #[.agg #[.int .i64 t196, .string t197, .int .i64 t198, .slice Ao31 t199.length co31]] (by rfl) rfl rfl (by (try simp only [List.map_toArray, List.map_cons, List.map_nil]); first | done | rfl | (simp only [List.length_drop, List.length_take]; rfl)) ?_
                      with_reducible refine (vinculumref09_Count.calls kj42 t196 t197 t198 _ _ t199 t209 _ ?side1 ?side2 A57.out).mono ?_
                      (case side1 => repeat (first | exact (Kd.V_reads' HO_204003.out).2.2 | (with_reducible refine Kd.C_alloc ?_ _) | (with_reducible refine Kd.C_drewN ?_ _) | (with_reducible refine Kd.C_drew ?_)))
                      (case side2 => exact (Kd.V_reads' HO_204003.out).2.1)
                      rintro e w60 ⟨rfl, hb⟩
                      refine ⟨_, rfl, ?_⟩
                      have n0_ := Aside0.mk (Kd.V_below (by (with_reducible repeat (first | apply Kd.V_alloc | apply Kd.V_drewN | apply Kd.V_drew)); exact HO_190001.out) hb)
                      have n1_ := Aside0.mk (Kd.V_below (by (with_reducible repeat (first | apply Kd.V_alloc | apply Kd.V_drewN | apply Kd.V_drew)); exact HO_190004.out) hb)
                      have n2_ := Aside0.mk (Kd.V_below (by (with_reducible repeat (first | apply Kd.V_alloc | apply Kd.V_drewN | apply Kd.V_drew)); exact HO_204003.out) hb)
                      have n3_ := Aside0.mk (blk_below (g := gb188) (o := .cells #[.int .i64 a0_0, .string a0_1, .int .i64 a0_2, .slice A0_3 l0_3.length c0_3] 24 (0, 0)) (by (with_reducible repeat (first | refine blk_drewN ?_ _ | refine blk_drew ?_ | refine blk_alloc ?_ _)); exact BK188.out) hb)
                      have n4_ := Aside0.mk (blk_below (g := gb189) (o := .cells #[.int .i64 a1_0, .slice A1_1 l1_1.length c1_1, .int .i64 a1_2, .int .i64 a1_3, .slice A1_4 l1_4.length c1_4, .int .i64 a1_5, .string a1_6, .string a1_7] 27 (0, 0)) (by (with_reducible repeat (first | refine blk_drewN ?_ _ | refine blk_drew ?_ | refine blk_alloc ?_ _)); exact BK189.out) hb)
                      have n5_ := Aside0.mk (blk_below (g := gb203) (o := .cells #[.int .i64 t196, .string t197, .int .i64 t198, .slice Ao31 t199.length co31] 24 (0, 0)) (by (with_reducible repeat (first | refine blk_drewN ?_ _ | refine blk_drew ?_ | refine blk_alloc ?_ _)); exact BK203.out) hb)
                      have n6_ := Aside0.mk (below_step (by repeat (first | (with_reducible first | exact HB.out | apply below_alloc | apply pw_below_drewN | apply below_drew1 | refine below_set ?_ GE188.out | refine below_set ?_ GE189.out | refine below_set ?_ GE203.out) | exact HB.out)) hb)
                      clear HO_190001
                      clear HO_190004
                      clear HO_204003
                      clear BK188
                      clear BK189
                      clear BK203
                      clear HB
                      have HO_190001 := n0_
                      have HO_190004 := n1_
                      have HO_204003 := n2_
                      have BK188 := n3_
                      have BK189 := n4_
                      have BK203 := n5_
                      have HB := n6_
                      clear n0_ n1_ n2_ n3_ n4_ n5_ n6_
                      (try clear hb)
                      (try clear hb2)
                      (try clear hk)
                      (try clear hi)
                      refine hK.out _ _ ⟨(blk_cell BK203.out 0).trans rfl, (blk_cell BK203.out 1).trans rfl, (blk_cell BK203.out 2).trans rfl, (blk_cell BK203.out 3).trans rfl, (blk_cell BK188.out 0).trans rfl, (blk_cell BK188.out 1).trans rfl, (blk_cell BK188.out 2).trans rfl, (blk_cell BK188.out 3).trans rfl⟩ (fun hHeld => ?_)
                      clear hK K
                      refine norm_ (a' := ?_) ?_ ?_
                      rotate_left
                      · show Act.put _ (some 51) _ = _
                        simp only [Act.put, List.setIfInBounds_toArray, List.set_cons_zero, List.set_cons_succ, i64_w, i32_w]
                        rfl
                      refine one_ (i := 3) (N := some 53) #[true, true, true, true, true, false, false, false] rfl rfl (one_of HT_.out (by kernel_rfl)) (by decide) (fun K hK => ?_)
                      refine goes_ Tryd.func12 (by kernel_rfl) rfl #[.agg #[.int .i64 a0_0, .string a0_1, .int .i64 a0_2, .slice A0_3 l0_3.length c0_3]] (by rfl) rfl rfl (by (try simp only [List.map_toArray, List.map_cons, List.map_nil]); first | done | rfl | (simp only [List.length_drop, List.length_take]; rfl)) ?_
                      with_reducible refine (vinculumref09_Count.calls kj42 a0_0 a0_1 a0_2 _ _ l0_3 t210 _ ?side1 ?side2 A58.out).mono ?_
                      (case side1 => repeat (first | exact (Kd.C_below HR0_3.out HB.out) | (with_reducible refine Kd.C_alloc ?_ _) | (with_reducible refine Kd.C_drewN ?_ _) | (with_reducible refine Kd.C_drew ?_)))
                      (case side2 => exact HC0_3.out)
                      rintro e w61 ⟨rfl, hb⟩
                      refine ⟨_, rfl, ?_⟩
                      have n0_ := Aside0.mk (Kd.V_below (by (with_reducible repeat (first | apply Kd.V_alloc | apply Kd.V_drewN | apply Kd.V_drew)); exact HO_190001.out) hb)
                      have n1_ := Aside0.mk (Kd.V_below (by (with_reducible repeat (first | apply Kd.V_alloc | apply Kd.V_drewN | apply Kd.V_drew)); exact HO_190004.out) hb)
                      have n2_ := Aside0.mk (Kd.V_below (by (with_reducible repeat (first | apply Kd.V_alloc | apply Kd.V_drewN | apply Kd.V_drew)); exact HO_204003.out) hb)
                      have n3_ := Aside0.mk (blk_below (g := gb188) (o := .cells #[.int .i64 a0_0, .string a0_1, .int .i64 a0_2, .slice A0_3 l0_3.length c0_3] 24 (0, 0)) (by (with_reducible repeat (first | refine blk_drewN ?_ _ | refine blk_drew ?_ | refine blk_alloc ?_ _)); exact BK188.out) hb)
                      have n4_ := Aside0.mk (blk_below (g := gb189) (o := .cells #[.int .i64 a1_0, .slice A1_1 l1_1.length c1_1, .int .i64 a1_2, .int .i64 a1_3, .slice A1_4 l1_4.length c1_4, .int .i64 a1_5, .string a1_6, .string a1_7] 27 (0, 0)) (by (with_reducible repeat (first | refine blk_drewN ?_ _ | refine blk_drew ?_ | refine blk_alloc ?_ _)); exact BK189.out) hb)
                      have n5_ := Aside0.mk (blk_below (g := gb203) (o := .cells #[.int .i64 t196, .string t197, .int .i64 t198, .slice Ao31 t199.length co31] 24 (0, 0)) (by (with_reducible repeat (first | refine blk_drewN ?_ _ | refine blk_drew ?_ | refine blk_alloc ?_ _)); exact BK203.out) hb)
                      have n6_ := Aside0.mk (below_step (by repeat (first | (with_reducible first | exact HB.out | apply below_alloc | apply pw_below_drewN | apply below_drew1 | refine below_set ?_ GE188.out | refine below_set ?_ GE189.out | refine below_set ?_ GE203.out) | exact HB.out)) hb)
                      clear HO_190001
                      clear HO_190004
                      clear HO_204003
                      clear BK188
                      clear BK189
                      clear BK203
                      clear HB
                      have HO_190001 := n0_
                      have HO_190004 := n1_
                      have HO_204003 := n2_
                      have BK188 := n3_
                      have BK189 := n4_
                      have BK203 := n5_
                      have HB := n6_
                      clear n0_ n1_ n2_ n3_ n4_ n5_ n6_
                      (try clear hb)
                      (try clear hb2)
                      (try clear hk)
                      (try clear hi)
                      refine hK.out _ _ ⟨(blk_cell BK203.out 0).trans rfl, (blk_cell BK203.out 1).trans rfl, (blk_cell BK203.out 2).trans rfl, (blk_cell BK203.out 3).trans rfl, (blk_cell BK188.out 0).trans rfl, (blk_cell BK188.out 1).trans rfl, (blk_cell BK188.out 2).trans rfl, (blk_cell BK188.out 3).trans rfl⟩ (fun hHeld => ?_)
                      clear hK K
                      refine norm_ (a' := ?_) ?_ ?_
                      rotate_left
                      · show Act.put _ (some 53) _ = _
                        simp only [Act.put, List.setIfInBounds_toArray, List.set_cons_zero, List.set_cons_succ, i64_w, i32_w]
                        rfl
                      refine pure_ (i := 5) (N := some 55) (v := ?_) (a' := ?_) #[true, true, true, true, true, true, false, false] rfl rfl (any_of HT_.out (by kernel_rfl)) (fun _ _ _ h => h) (Or.inl ⟨by rfl, ?_⟩) ?_ ?_
                      rotate_left
                      · intro w'
                        go_simp
                        with_reducible rfl
                      rotate_left
                      · simp only [Act.put, List.setIfInBounds_toArray, List.set_cons_zero, List.set_cons_succ, i64_w, i32_w]
                        rfl
                      refine pure_ (i := 6) (N := some 56) (v := ?_) (a' := ?_) #[true, true, true, true, true, true, true, false] rfl rfl (any_of HT_.out (by kernel_rfl)) (fun _ _ _ h => h) (Or.inl ⟨by rfl, ?_⟩) ?_ ?_
                      rotate_left
                      · intro w'
                        go_simp
                        with_reducible rfl
                      rotate_left
                      · simp only [Act.put, List.setIfInBounds_toArray, List.set_cons_zero, List.set_cons_succ, i64_w, i32_w]
                        rfl
                      refine pure_ (i := 7) (N := some 4) (v := ?_) (a' := ?_) #[true, true, true, true, true, true, true, true] rfl rfl (any_of HT_.out (by kernel_rfl)) (fun _ _ _ h => h) (Or.inl ⟨by rfl, ?_⟩) ?_ ?_
                      rotate_left
                      · intro w'
                        go_simp
                        with_reducible rfl
                      rotate_left
                      · simp only [Act.put, List.setIfInBounds_toArray, List.set_cons_zero, List.set_cons_succ, i64_w, i32_w]
                        rfl
                      refine done_ (done_of HT_.out (by kernel_rfl)) ?_
                      try go_wp2
                      go_ret
                      exact ⟨by first | rfl | (simp [errW_none, errW_some] <;> rfl) | (simp [*, errW_none, errW_some] <;> rfl), by repeat (first | (with_reducible first | exact HB.out | apply below_alloc | apply pw_below_drewN | apply below_drew1 | refine below_set ?_ GE188.out | refine below_set ?_ GE189.out | refine below_set ?_ GE203.out) | exact HB.out)⟩
        · rw [if_neg c22] at H
          have c22b0 : (t202 == 0) = false := beq_eq_false_iff_ne.mpr c22
          have c22b1 : (t202 != 0) = true := bne_iff_ne.mpr c22
          obtain rfl := Option.some.inj H
          have hnb62 := NB188_189.out
          have hnc62 := NB189_188.out
          have hcz63_0 : wc.cell? ⟨gb188, 0, none⟩ = some (.int .i64 a0_0) := (blk_cell BK188.out 0).trans rfl
          have hcz63_1 : wc.cell? ⟨gb188, 1, none⟩ = some (.string a0_1) := (blk_cell BK188.out 1).trans rfl
          have hcz63_2 : wc.cell? ⟨gb188, 2, none⟩ = some (.int .i64 a0_2) := (blk_cell BK188.out 2).trans rfl
          have hcz63_3 : wc.cell? ⟨gb188, 3, none⟩ = some (.slice A0_3 l0_3.length c0_3) := (blk_cell BK188.out 3).trans rfl
          have hfz63_0 := blk_frozen BK188.out 0
          have hfz63_1 := blk_frozen BK188.out 1
          have hfz63_2 := blk_frozen BK188.out 2
          have hfz63_3 := blk_frozen BK188.out 3
          have hcz64_0 : wc.cell? ⟨gb189, 0, none⟩ = some (.int .i64 a1_0) := (blk_cell BK189.out 0).trans rfl
          have hcz64_1 : wc.cell? ⟨gb189, 1, none⟩ = some (.slice A1_1 l1_1.length c1_1) := (blk_cell BK189.out 1).trans rfl
          have hcz64_2 : wc.cell? ⟨gb189, 2, none⟩ = some (.int .i64 a1_2) := (blk_cell BK189.out 2).trans rfl
          have hcz64_3 : wc.cell? ⟨gb189, 3, none⟩ = some (.int .i64 a1_3) := (blk_cell BK189.out 3).trans rfl
          have hcz64_4 : wc.cell? ⟨gb189, 4, none⟩ = some (.slice A1_4 l1_4.length c1_4) := (blk_cell BK189.out 4).trans rfl
          have hcz64_5 : wc.cell? ⟨gb189, 5, none⟩ = some (.int .i64 a1_5) := (blk_cell BK189.out 5).trans rfl
          have hcz64_6 : wc.cell? ⟨gb189, 6, none⟩ = some (.string a1_6) := (blk_cell BK189.out 6).trans rfl
          have hcz64_7 : wc.cell? ⟨gb189, 7, none⟩ = some (.string a1_7) := (blk_cell BK189.out 7).trans rfl
          have hfz64_0 := blk_frozen BK189.out 0
          have hfz64_1 := blk_frozen BK189.out 1
          have hfz64_2 := blk_frozen BK189.out 2
          have hfz64_3 := blk_frozen BK189.out 3
          have hfz64_4 := blk_frozen BK189.out 4
          have hfz64_5 := blk_frozen BK189.out 5
          have hfz64_6 := blk_frozen BK189.out 6
          have hfz64_7 := blk_frozen BK189.out 7
          go_wp2_with (first | ((with_reducible refine gate_callee (f := 11) rfl ?_); refine goesL_ (some 23) rfl rfl Tryd.func11 (by kernel_rfl) rfl #[.agg #[.int .i64 a0_0, .string a0_1, .int .i64 a0_2, .slice A0_3 l0_3.length c0_3], .agg #[.int .i64 a1_0, .slice A1_1 l1_1.length c1_1, .int .i64 a1_2, .int .i64 a1_3, .slice A1_4 l1_4.length c1_4, .int .i64 a1_5, .string a1_6, .string a1_7]] rfl (by (try simp only [List.map_toArray, List.map_cons, List.map_nil]); first | done | rfl | (simp only [List.length_drop, List.length_take]; rfl)) ?_; (with_reducible refine (edit_Apply.calls a0_0 a0_1 a0_2 _ _ l0_3 a1_0 _ _ l1_1 a1_2 a1_3 _ _ l1_4 a1_5 a1_6 a1_7 t196 t197 t198 t199 t202 _ ?side1 ?side2 ?side3 ?side4 ?side5 ?side6 A21.out).mono ?_); (case side1 => repeat (first | exact (Kd.C_below HR0_3.out HB.out) | (with_reducible refine Kd.C_alloc ?_ _) | (with_reducible refine Kd.C_drewN ?_ _) | (with_reducible refine Kd.C_drew ?_))); (case side2 => exact HC0_3.out); (case side3 => repeat (first | exact (Kd.V_reads' HO_190001.out).2.2 | (with_reducible refine Kd.C_alloc ?_ _) | (with_reducible refine Kd.C_drewN ?_ _) | (with_reducible refine Kd.C_drew ?_))); (case side4 => exact (Kd.V_reads' HO_190001.out).2.1); (case side5 => repeat (first | exact (Kd.V_reads' HO_190004.out).2.2 | (with_reducible refine Kd.C_alloc ?_ _) | (with_reducible refine Kd.C_drewN ?_ _) | (with_reducible refine Kd.C_drew ?_))); (case side6 => exact (Kd.V_reads' HO_190004.out).2.1); rintro e w65 ⟨v200, rfl, ho0, hb⟩; refine ⟨_, rfl, ?_⟩; have n0_ := Aside0.mk (Kd.V_below (by (with_reducible repeat (first | apply Kd.V_alloc | apply Kd.V_drewN | apply Kd.V_drew)); exact HO_190001.out) hb); have n1_ := Aside0.mk (Kd.V_below (by (with_reducible repeat (first | apply Kd.V_alloc | apply Kd.V_drewN | apply Kd.V_drew)); exact HO_190004.out) hb); have n2_ := Aside0.mk (Kd.V_lower (Kd.V_mono (ok' := fun k_ => ((P1_1_ k_ ∨ P1_4_ k_) ∨ w.heap.size ≤ k_) ∧ k_ ≠ gb188 ∧ k_ ≠ gb189) ho0 (fun k_ hk_ => ⟨(.inr (Nat.le_trans (below_size (by repeat (first | (with_reducible first | exact HB.out | apply below_alloc | apply pw_below_drewN | apply below_drew1 | refine below_set ?_ GE188.out | refine below_set ?_ GE189.out) | exact HB.out))) hk_)), (Kd.freshB (g := gb188) (o := .cells #[.int .i64 a0_0, .string a0_1, .int .i64 a0_2, .slice A0_3 l0_3.length c0_3] 24 (0, 0)) (by (with_reducible repeat (first | refine blk_drewN ?_ _ | refine blk_drew ?_ | refine blk_alloc ?_ _)); exact BK188.out) k_ hk_), (Kd.freshB (g := gb189) (o := .cells #[.int .i64 a1_0, .slice A1_1 l1_1.length c1_1, .int .i64 a1_2, .int .i64 a1_3, .slice A1_4 l1_4.length c1_4, .int .i64 a1_5, .string a1_6, .string a1_7] 27 (0, 0)) (by (with_reducible repeat (first | refine blk_drewN ?_ _ | refine blk_drew ?_ | refine blk_alloc ?_ _)); exact BK189.out) k_ hk_)⟩)) (below_size (by repeat (first | (with_reducible first | exact HB.out | apply below_alloc | apply pw_below_drewN | apply below_drew1 | refine below_set ?_ GE188.out | refine below_set ?_ GE189.out) | exact HB.out)))); have n3_ := Aside0.mk (blk_below (g := gb188) (o := .cells #[.int .i64 a0_0, .string a0_1, .int .i64 a0_2, .slice A0_3 l0_3.length c0_3] 24 (0, 0)) (by (with_reducible repeat (first | refine blk_drewN ?_ _ | refine blk_drew ?_ | refine blk_alloc ?_ _)); exact BK188.out) hb); have n4_ := Aside0.mk (blk_below (g := gb189) (o := .cells #[.int .i64 a1_0, .slice A1_1 l1_1.length c1_1, .int .i64 a1_2, .int .i64 a1_3, .slice A1_4 l1_4.length c1_4, .int .i64 a1_5, .string a1_6, .string a1_7] 27 (0, 0)) (by (with_reducible repeat (first | refine blk_drewN ?_ _ | refine blk_drew ?_ | refine blk_alloc ?_ _)); exact BK189.out) hb); have n5_ := Aside0.mk (below_step (by repeat (first | (with_reducible first | exact HB.out | apply below_alloc | apply pw_below_drewN | apply below_drew1 | refine below_set ?_ GE188.out | refine below_set ?_ GE189.out) | exact HB.out)) hb); clear HO_190001; clear HO_190004; clear BK188; clear BK189; clear HB; have HO_190001 := n0_; have HO_190004 := n1_; have HO201 := n2_; have BK188 := n3_; have BK189 := n4_; have HB := n5_; clear n0_ n1_ n2_ n3_ n4_ n5_; (try clear hb); (try clear hb2); (try clear hk); (try clear hi); (try clear ho0)) | ((with_reducible refine gate_dst (N := 5) rfl ?_); (try (refine gate_guard (by rfl) ?_; dsimp only)); refine box_event ?hg (N := 5) ?hd (cs := #[.int .i64 0, .string (⟨#[]⟩ : ByteArray), .int .i64 0, .slice none 0 0]) (t := 24) ?hr ?_; (case hd => rfl); (case hg => rfl); (case hr => first | (go_simp; done) | (go_simp; rfl)); intro gb203 hg w66 hbox hb; have n0_ := Aside0.mk (Kd.V_below (Kd.V_elderB (by (with_reducible repeat (first | apply Kd.V_alloc | apply Kd.V_drewN | apply Kd.V_drew)); exact HO_190001.out) gb203 (Nat.le_of_eq hg.symm)) hb); have n1_ := Aside0.mk (Kd.V_below (Kd.V_elderB (by (with_reducible repeat (first | apply Kd.V_alloc | apply Kd.V_drewN | apply Kd.V_drew)); exact HO_190004.out) gb203 (Nat.le_of_eq hg.symm)) hb); have n2_ := Aside0.mk (Kd.V_below (Kd.V_elderB (by (with_reducible repeat (first | apply Kd.V_alloc | apply Kd.V_drewN | apply Kd.V_drew)); exact HO201.out) gb203 (Nat.le_of_eq hg.symm)) hb); have n3_ := Aside0.mk (blk_below (g := gb188) (o := .cells #[.int .i64 a0_0, .string a0_1, .int .i64 a0_2, .slice A0_3 l0_3.length c0_3] 24 (0, 0)) (by (with_reducible repeat (first | refine blk_drewN ?_ _ | refine blk_drew ?_ | refine blk_alloc ?_ _)); exact BK188.out) hb); have n4_ := Aside0.mk (blk_below (g := gb189) (o := .cells #[.int .i64 a1_0, .slice A1_1 l1_1.length c1_1, .int .i64 a1_2, .int .i64 a1_3, .slice A1_4 l1_4.length c1_4, .int .i64 a1_5, .string a1_6, .string a1_7] 27 (0, 0)) (by (with_reducible repeat (first | refine blk_drewN ?_ _ | refine blk_drew ?_ | refine blk_alloc ?_ _)); exact BK189.out) hb); have n5_ := Aside0.mk (below_step (by repeat (first | (with_reducible first | exact HB.out | apply below_alloc | apply pw_below_drewN | apply below_drew1 | refine below_set ?_ GE188.out | refine below_set ?_ GE189.out) | exact HB.out)) hb); have n6_ := Aside0.mk (hbox); have n7_ := Aside0.mk ((by rw [hg]; exact (below_size (by repeat (first | (with_reducible first | exact HB.out | apply below_alloc | apply pw_below_drewN | apply below_drew1 | refine below_set ?_ GE188.out | refine below_set ?_ GE189.out) | exact HB.out))) : w.heap.size ≤ gb203)); have n8_ := Aside0.mk ((by rw [hg]; exact (below_size (by repeat (first | (with_reducible first | exact HB.out | apply below_alloc | apply pw_below_drewN | apply below_drew1 | refine below_set ?_ GE188.out | refine below_set ?_ GE189.out) | exact HB.out))) : w.heap.size ≤ gb203)); have n9_ := Aside0.mk ((by rw [hg]; exact Nat.ne_of_lt (blk_lt (g := gb188) (o := .cells #[.int .i64 a0_0, .string a0_1, .int .i64 a0_2, .slice A0_3 l0_3.length c0_3] 24 (0, 0)) (by (with_reducible repeat (first | refine blk_drewN ?_ _ | refine blk_drew ?_ | refine blk_alloc ?_ _)); exact BK188.out)) : gb188 ≠ gb203)); have n10_ := Aside0.mk ((by rw [hg]; exact Nat.ne_of_gt (blk_lt (g := gb188) (o := .cells #[.int .i64 a0_0, .string a0_1, .int .i64 a0_2, .slice A0_3 l0_3.length c0_3] 24 (0, 0)) (by (with_reducible repeat (first | refine blk_drewN ?_ _ | refine blk_drew ?_ | refine blk_alloc ?_ _)); exact BK188.out)) : gb203 ≠ gb188)); have n11_ := Aside0.mk ((by rw [hg]; exact Nat.ne_of_lt (blk_lt (g := gb189) (o := .cells #[.int .i64 a1_0, .slice A1_1 l1_1.length c1_1, .int .i64 a1_2, .int .i64 a1_3, .slice A1_4 l1_4.length c1_4, .int .i64 a1_5, .string a1_6, .string a1_7] 27 (0, 0)) (by (with_reducible repeat (first | refine blk_drewN ?_ _ | refine blk_drew ?_ | refine blk_alloc ?_ _)); exact BK189.out)) : gb189 ≠ gb203)); have n12_ := Aside0.mk ((by rw [hg]; exact Nat.ne_of_gt (blk_lt (g := gb189) (o := .cells #[.int .i64 a1_0, .slice A1_1 l1_1.length c1_1, .int .i64 a1_2, .int .i64 a1_3, .slice A1_4 l1_4.length c1_4, .int .i64 a1_5, .string a1_6, .string a1_7] 27 (0, 0)) (by (with_reducible repeat (first | refine blk_drewN ?_ _ | refine blk_drew ?_ | refine blk_alloc ?_ _)); exact BK189.out)) : gb203 ≠ gb189)); clear HO_190001; clear HO_190004; clear HO201; clear BK188; clear BK189; clear HB; have HO_190001 := n0_; have HO_190004 := n1_; have HO201 := n2_; have BK188 := n3_; have BK189 := n4_; have HB := n5_; have BK203 := n6_; have GW203 := n7_; have GE203 := n8_; have NB188_203 := n9_; have NB203_188 := n10_; have NB189_203 := n11_; have NB203_189 := n12_; clear n0_ n1_ n2_ n3_ n4_ n5_ n6_ n7_ n8_ n9_ n10_ n11_ n12_; clear hb hbox hg; have hnb67 := NB203_188.out; have hnc67 := NB188_203.out; have hnb68 := NB203_189.out; have hnc68 := NB189_203.out; have hcz69_0 : w66.cell? ⟨gb203, 0, none⟩ = some (.int .i64 0) := (blk_cell BK203.out 0).trans rfl; have hcz69_1 : w66.cell? ⟨gb203, 1, none⟩ = some (.string (⟨#[]⟩ : ByteArray)) := (blk_cell BK203.out 1).trans rfl; have hcz69_2 : w66.cell? ⟨gb203, 2, none⟩ = some (.int .i64 0) := (blk_cell BK203.out 2).trans rfl; have hcz69_3 : w66.cell? ⟨gb203, 3, none⟩ = some (.slice none 0 0) := (blk_cell BK203.out 3).trans rfl; have hfz69_0 := blk_frozen BK203.out 0; have hfz69_1 := blk_frozen BK203.out 1; have hfz69_2 := blk_frozen BK203.out 2; have hfz69_3 := blk_frozen BK203.out 3; obtain ⟨Ao70, co70, eo70⟩ := Kd.V_slice HO201.out; subst eo70))
          go_ret
          exact ⟨by first | rfl | (simp [errW_none, errW_some] <;> rfl) | (simp [*, errW_none, errW_some] <;> rfl), by repeat (first | (with_reducible first | exact HB.out | apply below_alloc | apply pw_below_drewN | apply below_drew1 | refine below_set ?_ GE188.out | refine below_set ?_ GE189.out | refine below_set ?_ GE203.out) | exact HB.out)⟩
end Go.Proofs.YtgcpfelccfnnbaaDoor.X
