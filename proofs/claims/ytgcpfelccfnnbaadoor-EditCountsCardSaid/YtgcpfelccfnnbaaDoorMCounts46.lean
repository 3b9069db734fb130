/-
Part 46 of the texts of this proof: the walks through the program's functions.
-/
import Derived.Test.YtgcpfelccfnnbaaDoorMCounts2
import Derived.Test.YtgcpfelccfnnbaaDoorMCounts35
import Derived.Test.YtgcpfelccfnnbaaDoorMCounts45
namespace Go.Proofs.YtgcpfelccfnnbaaDoor.X
open Go.RowKit Go.Proofs.YtgcpfelccfnnbaaDoorW.PrintWords Go.Proofs.YtgcpfelccfnnbaaDoorW.PrintLast Go.Proofs.YtgcpfelccfnnbaaDoorW.PrintMore
attribute [local go_sem] max2_int min2_int max_two min_two max_three min_three max_four min_four   -- for this text's walks alone
set_option linter.unusedVariables false
set_option linter.unusedSimpArgs false
mutual
def vinculumref09_Count.l0 : Nat → Int → Int → Int → ByteArray → Int → List (S24) → Option (Int)
  | 0, _, _, _, _, _, _ => none
  | k + 1, x3, x4, x186000, x186001, x186002, x186003 => if x4 < (x186003.length : Int) then (if 0 ≤ x4 then ((vinculumref09_Count.f k ((rd_T24 x186003 x4).f0) ((rd_T24 x186003 x4).f1) ((rd_T24 x186003 x4).f2) ((rd_T24 x186003 x4).f3)).bind fun t187 => (vinculumref09_Count.l0 k (wrap64 (x3 + t187)) (wrap64 (x4 + 1)) x186000 x186001 x186002 x186003)) else (none)) else (some x3)
def vinculumref09_Count.f : Nat → Int → ByteArray → Int → List (S24) → Option (Int)
  | 0, _, _, _, _ => none
  | k + 1, a0_0, a0_1, a0_2, l0_3 => vinculumref09_Count.l0 k 1 0 a0_0 a0_1 a0_2 l0_3
end
theorem vinculumref09_Count.mono_l : ∀ k, (∀ y0 y1 y2 y3, LeO (vinculumref09_Count.f k y0 y1 y2 y3) (vinculumref09_Count.f (k + 1) y0 y1 y2 y3)) ∧ (∀ y0 y1 y2 y3 y4 y5, LeO (vinculumref09_Count.l0 k y0 y1 y2 y3 y4 y5) (vinculumref09_Count.l0 (k + 1) y0 y1 y2 y3 y4 y5))
  | 0 => ⟨fun _ _ _ _ r h => by simp [vinculumref09_Count.f] at h, fun _ _ _ _ _ _ r h => by simp [vinculumref09_Count.l0] at h⟩
  | k + 1 => by
    obtain ⟨ih0, ih1⟩ := vinculumref09_Count.mono_l k
    refine ⟨?_, ?_⟩
    · intro y0 y1 y2 y3
      unfold vinculumref09_Count.f
      repeat' first
      | (with_reducible exact ih0 _ _ _ _)
      | (with_reducible exact ih1 _ _ _ _ _ _)
      | (with_reducible exact LeO.refl _)
      | (with_reducible exact LeO.none _)
      | (with_reducible refine LeO.ite ?_ ?_)
      | (with_reducible refine LeO.bind ?_ (fun _ => ?_))
      | exact ih0 _ _ _ _
      | exact ih1 _ _ _ _ _ _
      | exact LeO.none _
      | refine LeO.ite ?_ ?_
      | refine LeO.bind ?_ (fun _ => ?_)
    · intro y0 y1 y2 y3 y4 y5
      unfold vinculumref09_Count.l0
      repeat' first
      | (with_reducible exact ih0 _ _ _ _)
      | (with_reducible exact ih1 _ _ _ _ _ _)
      | (with_reducible exact LeO.refl _)
      | (with_reducible exact LeO.none _)
      | (with_reducible refine LeO.ite ?_ ?_)
      | (with_reducible refine LeO.bind ?_ (fun _ => ?_))
      | exact ih0 _ _ _ _
      | exact ih1 _ _ _ _ _ _
      | exact LeO.none _
      | refine LeO.ite ?_ ?_
      | refine LeO.bind ?_ (fun _ => ?_)
theorem vinculumref09_Count.mono : ∀ a0 a1 a2 a3 k, LeO (vinculumref09_Count.f k a0 a1 a2 a3) (vinculumref09_Count.f (k + 1) a0 a1 a2 a3) := by
  intro a0 a1 a2 a3 k
  obtain ⟨ih0, ih1⟩ := vinculumref09_Count.mono_l k
  exact ih0 a0 a1 a2 a3
set_option maxHeartbeats 8000000 in
set_option maxRecDepth 100000 in
theorem vinculumref09_Count.calls (k : Nat) : ∀ (a0_0 : Int) (a0_1 : ByteArray) (a0_2 : Int) (A0_3 : Option Addr) (c0_3 : Nat) (l0_3 : List (S24)) (r : Int) (w : World) (hr0_3 : Kd.C k24 w A0_3 l0_3.length l0_3) (hc0_3 : l0_3.length ≤ c0_3) (h : vinculumref09_Count.f k a0_0 a0_1 a0_2 l0_3 = some r),
    Calls Tryd.prog 12 #[.agg #[.int .i64 a0_0, .string a0_1, .int .i64 a0_2, .slice A0_3 l0_3.length c0_3]] w fun e w' => e = .returned (.int .i64 r) ∧ Below w.heap.size w w' := by
  induction k using Nat.strongRecOn with
  | _ k ih =>
  intro a0_0 a0_1 a0_2 A0_3 c0_3 l0_3 r w hr0_3 hc0_3 h
  cases k with
  | zero => exact absurd h (by simp [vinculumref09_Count.f])
  | succ k =>
  simp only [vinculumref09_Count.f] at h
  have hu24 := Tryd.underlying24
  have HR0_3 := Aside0.mk hr0_3
  have HC0_3 := Aside0.mk hc0_3
  clear hr0_3 hc0_3
  have HB := Aside0.mk (Below.refl w.heap.size w)
  have H : (vinculumref09_Count.l0 k 1 0 a0_0 a0_1 a0_2 l0_3) = some r := h
  clear h
  have H' := Aside0.mk H
  clear H
  go_enter Tryd.func12, Tryd.ntmps12
  go_wp2_with (first | ((with_reducible refine gate_dst (N := 1) rfl ?_); refine box_event ?hg (N := 1) ?hd (cs := #[.int .i64 a0_0, .string a0_1, .int .i64 a0_2, .slice A0_3 l0_3.length c0_3]) (t := 24) ?hr ?_; (case hd => rfl); (case hg => rfl); (case hr => first | (go_simp; done) | (go_simp; rfl)); intro gb185 hg w2 hbox hb; have n0_ := Aside0.mk (below_step (by repeat (first | (with_reducible first | exact HB.out | apply below_alloc | apply pw_below_drewN | apply below_drew1) | exact HB.out)) hb); have n1_ := Aside0.mk (hbox); have n2_ := Aside0.mk ((by rw [hg]; exact (below_size (by repeat (first | (with_reducible first | exact HB.out | apply below_alloc | apply pw_below_drewN | apply below_drew1) | exact HB.out))) : w.heap.size ≤ gb185)); have n3_ := Aside0.mk ((by rw [hg]; exact (below_size (by repeat (first | (with_reducible first | exact HB.out | apply below_alloc | apply pw_below_drewN | apply below_drew1) | exact HB.out))) : w.heap.size ≤ gb185)); clear HB; have HB := n0_; have BK185 := n1_; have GW185 := n2_; have GE185 := n3_; clear n0_ n1_ n2_ n3_; clear hb hbox hg))
  go_loopg [3, 4] k (fun kq v3 v4 w' => ∃ (x3_1 : Int) (x4_1 : Int), v3 = .int .i64 x3_1 ∧ v4 = .int .i64 x4_1 ∧ Aside0 (vinculumref09_Count.l0 kq x3_1 x4_1 a0_0 a0_1 a0_2 l0_3 = some r) ∧ Aside0 (kq ≤ k) ∧ Aside0 (w'.heap[gb185]? = some (.cells #[.int .i64 a0_0, .string a0_1, .int .i64 a0_2, (.slice A0_3 l0_3.length c0_3)] 24 (0, 0))) ∧ Aside0 (Below w.heap.size w w'))
  case atStart => exact ⟨(1), (0), (by first | rfl | (simp; done) | (simp [*]; done)), (by first | rfl | (simp; done) | (simp [*]; done)), H', ⟨Nat.le_refl _⟩, ⟨by (with_reducible repeat (first | refine blk_drewN ?_ _ | refine blk_drew ?_ | refine blk_alloc ?_ _)); exact BK185.out⟩, ⟨by repeat (first | (with_reducible first | exact HB.out | apply below_alloc | apply pw_below_drewN | apply below_drew1 | refine below_set ?_ GE185.out) | exact HB.out)⟩⟩
  case round =>
    clear H'
    try clear c1
    try clear p2
    obtain ⟨x3_1, x4_1, rfl, rfl, HA, HK1, BK185, HB⟩ := hrel
    cases gk with
    | zero => exact absurd HA.out (by simp [vinculumref09_Count.l0])
    | succ k1 =>
      have H := HA.out
      clear HA
      simp only [vinculumref09_Count.l0] at H
      by_cases c3 : x4_1 < (l0_3.length : Int)
      · rw [if_pos c3] at H
        have c3b0 : decide (x4_1 < (l0_3.length : Int)) = true := decide_eq_true c3
        clear c3
        by_cases c4 : 0 ≤ x4_1
        · rw [if_pos c4] at H
          have c4b0 : decide (0 ≤ x4_1) = true := decide_eq_true c4
          clear c4
          replace H := Option.bind_eq_some_iff.mp H
          obtain ⟨t187, A50, H⟩ := H
          replace H : (vinculumref09_Count.l0 k1 (wrap64 (x3_1 + t187)) (wrap64 (x4_1 + 1)) a0_0 a0_1 a0_2 l0_3) = some r := H
          have A5 := Aside0.mk A50
          clear A50
          have H' := Aside0.mk H
          clear H
          have hcz6_0 : wr.cell? ⟨gb185, 0, none⟩ = some (.int .i64 a0_0) := (blk_cell BK185.out 0).trans rfl
          have hcz6_1 : wr.cell? ⟨gb185, 1, none⟩ = some (.string a0_1) := (blk_cell BK185.out 1).trans rfl
          have hcz6_2 : wr.cell? ⟨gb185, 2, none⟩ = some (.int .i64 a0_2) := (blk_cell BK185.out 2).trans rfl
          have hcz6_3 : wr.cell? ⟨gb185, 3, none⟩ = some (.slice A0_3 l0_3.length c0_3) := (blk_cell BK185.out 3).trans rfl
          have hfz6_0 := blk_frozen BK185.out 0
          have hfz6_1 := blk_frozen BK185.out 1
          have hfz6_2 := blk_frozen BK185.out 2
          have hfz6_3 := blk_frozen BK185.out 3
          have p186 : 0 ≤ (x4_1 : Int) := of_decide_eq_true (by first | (with_reducible assumption) | assumption)
          have q186 : x4_1 < (l0_3.length : Int) := of_decide_eq_true (by first | (with_reducible assumption) | assumption)
          obtain ⟨ad186, A186_3, c186_3, e186, hx186_0, hx186_1, hx186_2, hx186_3, hl186_3, hi186_3⟩ := at_T24 HR0_3.out x4_1 p186 q186
          cases e186
          replace hx186_0 := (HB.out.cell (World.block_lt_of_cell? w _ hx186_0)).trans hx186_0
          replace hx186_1 := (HB.out.cell (World.block_lt_of_cell? w _ hx186_1)).trans hx186_1
          replace hx186_2 := (HB.out.cell (World.block_lt_of_cell? w _ hx186_2)).trans hx186_2
          replace hx186_3 := (HB.out.cell (World.block_lt_of_cell? w _ hx186_3)).trans hx186_3
          have HR186_3 := Aside0.mk hi186_3
          have HC186_3 := Aside0.mk hl186_3
          clear hi186_3 hl186_3
          replace p186 := eq_true p186
          replace q186 := eq_true q186
          go_wp2_with (first | ((with_reducible refine gate_callee (f := 12) rfl ?_); refine goesL_ (some 18) rfl rfl Tryd.func12 (by kernel_rfl) rfl #[.agg #[.int .i64 ((rd_T24 l0_3 x4_1).f0), .string ((rd_T24 l0_3 x4_1).f1), .int .i64 ((rd_T24 l0_3 x4_1).f2), .slice A186_3 ((rd_T24 l0_3 x4_1).f3).length c186_3]] rfl (by (try simp only [List.map_toArray, List.map_cons, List.map_nil]); first | done | rfl | (simp only [List.length_drop, List.length_take]; rfl)) ?_; (with_reducible refine (ih k1 (by have := HK1.out; omega) ((rd_T24 l0_3 x4_1).f0) ((rd_T24 l0_3 x4_1).f1) ((rd_T24 l0_3 x4_1).f2) _ _ ((rd_T24 l0_3 x4_1).f3) t187 _ ?side1 ?side2 A5.out).mono ?_); (case side1 => repeat (first | exact (Kd.C_below HR186_3.out HB.out) | (with_reducible refine Kd.C_alloc ?_ _) | (with_reducible refine Kd.C_drewN ?_ _) | (with_reducible refine Kd.C_drew ?_))); (case side2 => exact HC186_3.out); rintro e w7 ⟨rfl, hb⟩; refine ⟨_, rfl, ?_⟩; have n0_ := Aside0.mk (blk_below (g := gb185) (o := .cells #[.int .i64 a0_0, .string a0_1, .int .i64 a0_2, .slice (some ad186) l0_3.length c0_3] 24 (0, 0)) (by (with_reducible repeat (first | refine blk_drewN ?_ _ | refine blk_drew ?_ | refine blk_alloc ?_ _)); exact BK185.out) hb); have n1_ := Aside0.mk (below_step (by repeat (first | (with_reducible first | exact HB.out | apply below_alloc | apply pw_below_drewN | apply below_drew1 | refine below_set ?_ GE185.out) | exact HB.out)) hb); clear BK185; clear HB; have BK185 := n0_; have HB := n1_; clear n0_ n1_; (try clear hb); (try clear hb2); (try clear hk); (try clear hi)))
          go_roundg k1
          case measure => have := HK1.out; omega
          case rel => exact ⟨(wrap64 (x3_1 + t187)), (wrap64 (x4_1 + 1)), (by first | rfl | (simp; done) | (simp [*]; done)), (by first | rfl | (simp; done) | (simp [*]; done)), H', ⟨by have := HK1.out; omega⟩, ⟨by (with_reducible repeat (first | refine blk_drewN ?_ _ | refine blk_drew ?_ | refine blk_alloc ?_ _)); exact BK185.out⟩, ⟨by repeat (first | (with_reducible first | exact HB.out | apply below_alloc | apply pw_below_drewN | apply below_drew1 | refine below_set ?_ GE185.out) | exact HB.out)⟩⟩
        · rw [if_neg c4] at H
          exact absurd H (by simp)
      · rw [if_neg c3] at H
        have c3b0 : decide (x4_1 < (l0_3.length : Int)) = false := decide_eq_false c3
        clear c3
        obtain rfl := Option.some.inj H
        have hcz8_0 : wr.cell? ⟨gb185, 0, none⟩ = some (.int .i64 a0_0) := (blk_cell BK185.out 0).trans rfl
        have hcz8_1 : wr.cell? ⟨gb185, 1, none⟩ = some (.string a0_1) := (blk_cell BK185.out 1).trans rfl
        have hcz8_2 : wr.cell? ⟨gb185, 2, none⟩ = some (.int .i64 a0_2) := (blk_cell BK185.out 2).trans rfl
        have hcz8_3 : wr.cell? ⟨gb185, 3, none⟩ = some (.slice A0_3 l0_3.length c0_3) := (blk_cell BK185.out 3).trans rfl
        have hfz8_0 := blk_frozen BK185.out 0
        have hfz8_1 := blk_frozen BK185.out 1
        have hfz8_2 := blk_frozen BK185.out 2
        have hfz8_3 := blk_frozen BK185.out 3
        go_wp2
        go_ret
        exact ⟨by first | rfl | (simp [errW_none, errW_some] <;> rfl) | (simp [*, errW_none, errW_some] <;> rfl), by repeat (first | (with_reducible first | exact HB.out | apply below_alloc | apply pw_below_drewN | apply below_drew1 | refine below_set ?_ GE185.out) | exact HB.out)⟩
end Go.Proofs.YtgcpfelccfnnbaaDoor.X
namespace Go.Proofs.YtgcpfelccfnnbaaDoor
namespace X
open Go.RowKit Go.Proofs.YtgcpfelccfnnbaaDoorW.PrintWords Go.Proofs.YtgcpfelccfnnbaaDoorW.PrintLast Go.Proofs.YtgcpfelccfnnbaaDoorW.PrintMore
set_option linter.unusedVariables false
set_option linter.unusedSimpArgs false
theorem wrap_id {a : Int} (h0 : -9223372036854775808 ≤ a) (h1 : a ≤ 9223372036854775807) : wrap64 a = a := by unfold wrap64; omega
theorem rd_nth (l : List S24) (j : Nat) : rd_T24 l (j : Int) = nth l j := by unfold rd_T24 nth; rw [Int.toNat_natCast]
theorem cntL_drop {l : List S24} {j : Nat} (h : j < l.length) : cntL (l.drop j) = cnt (nth l j) + cntL (l.drop (j + 1)) := by rw [drop_nth h, cntL]
theorem left_abs (cn : S24 → Nat) (tl : List S24 → Nat → Nat) (H1 : ∀ x, cn x = 1 + tl x.f3 0) (H2 : ∀ l j, j < l.length → tl l j = cn (nth l j) + tl l (j + 1)) (H3 : ∀ l j, l.length ≤ j → tl l j = 0) (H4 : ∀ l j, cn (nth l j) ≤ tl l 0 ∨ l.length ≤ j) (N : Nat) :
    ∀ (x : S24) (m : Int) (k : Nat), cn x ≤ N → 0 ≤ m → m ≤ 1000 → 2 * cn x ≤ k →
    ∃ v, vinculumref09_left.f k x.f0 x.f1 x.f2 x.f3 m = some v ∧ -1 ≤ v ∧ (0 ≤ v → (cn x : Int) ≤ m ∧ v = m - cn x) ∧ ((cn x : Int) ≤ m → 0 ≤ v) := by
  induction N with
  | zero => intro x m k h; have := H1 x; omega
  | succ N ih =>
    intro x m k hN hm0 hm hk
    have hx := H1 x
    obtain ⟨k, rfl⟩ : ∃ q, k = q + 1 := ⟨k - 1, by omega⟩
    have hl : ∀ (d j : Nat) (q : Int) (k : Nat), j + d = x.f3.length → -1 ≤ q → (j : Int) + q ≤ 1000 → 2 * tl x.f3 j + 1 ≤ k →
        ∃ v, vinculumref09_left.l0 k q (j : Int) x.f0 x.f1 x.f2 x.f3 = some v ∧ -1 ≤ v ∧ (0 ≤ v → (tl x.f3 j : Int) ≤ q ∧ v = q - tl x.f3 j) ∧ ((tl x.f3 j : Int) ≤ q → 0 ≤ v) := by
      intro d
      induction d with
      | zero =>
        intro j q k hj h1 h2 hk
        obtain ⟨k, rfl⟩ : ∃ q, k = q + 1 := ⟨k - 1, by omega⟩
        have h3 := H3 x.f3 j (by omega)
        refine ⟨q, ?_, h1, by omega, by omega⟩
        rw [vinculumref09_left.l0, if_neg (by omega)]
      | succ d ihd =>
        intro j q k hj h1 h2 hk
        have hjl : j < x.f3.length := by omega
        have hc := H2 x.f3 j hjl
        have hp := H1 (nth x.f3 j)
        have hs := H4 x.f3 j
        obtain ⟨k, rfl⟩ : ∃ q, k = q + 1 := ⟨k - 1, by omega⟩
        rw [vinculumref09_left.l0, if_pos (by omega)]
        by_cases hq : q ≥ 0
        · rw [if_pos hq, if_pos (by omega), rd_nth]
          obtain ⟨v, e, v1, v2, v3⟩ := ih (nth x.f3 j) q k (by omega) hq (by omega) (by omega)
          rw [e, Option.bind_some, show wrap64 ((j : Int) + 1) = ((j + 1 : Nat) : Int) from wrap_id (by omega) (by omega)]
          by_cases h0 : 0 ≤ v
          · have v4 := v2 h0
            clear v2 v3
            obtain ⟨u, e2, u1, u2, u3⟩ := ihd (j + 1) v k (by omega) v1 (by omega) (by omega)
            refine ⟨u, e2, u1, fun h => ?_, fun h => u3 (by omega)⟩
            have h5 := u2 h
            clear u2 u3
            omega
          · have v5 : ¬ (cn (nth x.f3 j) : Int) ≤ q := fun h => h0 (v3 h)
            clear v2 v3
            obtain ⟨u, e2, u1, u2, u3⟩ := ihd (j + 1) v k (by omega) v1 (by omega) (by omega)
            refine ⟨u, e2, u1, fun h => ?_, fun h => ?_⟩
            · have h5 := u2 h
              clear u2 u3
              omega
            · clear u2 u3
              omega
        · rw [if_neg hq]
          exact ⟨q, rfl, h1, by omega, by omega⟩
    rw [vinculumref09_left.f, show wrap64 (m - 1) = m - 1 from wrap_id (by omega) (by omega)]
    obtain ⟨v, e, v1, v2, v3⟩ := hl x.f3.length 0 (m - 1) k (by omega) (by omega) (by omega) (by omega)
    refine ⟨v, e, v1, fun h => ?_, fun h => v3 (by omega)⟩
    have := v2 h
    clear v2 v3
    omega
theorem Count_abs (cn : S24 → Nat) (tl : List S24 → Nat → Nat) (H1 : ∀ x, cn x = 1 + tl x.f3 0) (H2 : ∀ l j, j < l.length → tl l j = cn (nth l j) + tl l (j + 1)) (H3 : ∀ l j, l.length ≤ j → tl l j = 0) (H4 : ∀ l j, cn (nth l j) ≤ tl l 0 ∨ l.length ≤ j) (H5 : ∀ l, l.length ≤ tl l 0) (N : Nat) :
    ∀ (x : S24) (k : Nat), cn x ≤ N → N ≤ 1000000 → 2 * cn x ≤ k → vinculumref09_Count.f k x.f0 x.f1 x.f2 x.f3 = some (cn x : Int) := by
  induction N with
  | zero => intro x k h; have := H1 x; omega
  | succ N ih =>
    intro x k hN hb hk
    have hx := H1 x
    have hlen := H5 x.f3
    obtain ⟨k, rfl⟩ : ∃ q, k = q + 1 := ⟨k - 1, by omega⟩
    have hl : ∀ (d j : Nat) (s : Int) (k : Nat), j + d = x.f3.length → 0 ≤ s → s + tl x.f3 j ≤ 1000000 → 2 * tl x.f3 j + 1 ≤ k →
        vinculumref09_Count.l0 k s (j : Int) x.f0 x.f1 x.f2 x.f3 = some (s + tl x.f3 j) := by
      intro d
      induction d with
      | zero =>
        intro j s k hj h1 h2 hk
        obtain ⟨k, rfl⟩ : ∃ q, k = q + 1 := ⟨k - 1, by omega⟩
        have h3 := H3 x.f3 j (by omega)
        rw [vinculumref09_Count.l0, if_neg (by omega), h3]
        simp
      | succ d ihd =>
        intro j s k hj h1 h2 hk
        have hjl : j < x.f3.length := by omega
        have hc := H2 x.f3 j hjl
        have hp := H1 (nth x.f3 j)
        have hs := H4 x.f3 j
        obtain ⟨k, rfl⟩ : ∃ q, k = q + 1 := ⟨k - 1, by omega⟩
        rw [vinculumref09_Count.l0, if_pos (by omega), if_pos (by omega), rd_nth, ih (nth x.f3 j) k (by omega) (by omega) (by omega), Option.bind_some,
          show wrap64 ((j : Int) + 1) = ((j + 1 : Nat) : Int) from wrap_id (by omega) (by omega), show wrap64 (s + (cn (nth x.f3 j) : Int)) = s + cn (nth x.f3 j) from wrap_id (by omega) (by omega), ihd (j + 1) _ k (by omega) (by omega) (by omega) (by omega), hc]
        congr 1
        omega
    rw [vinculumref09_Count.f]
    have := hl x.f3.length 0 1 k (by omega) (by omega) (by omega) (by omega)
    rw [show (0 : Int) = ((0 : Nat) : Int) from rfl, this, hx]
    congr 1
theorem tl_two (l : List S24) (j : Nat) (h : j < l.length) : cntL (l.drop j) = cnt (nth l j) + cntL (l.drop (j + 1)) := cntL_drop h
theorem tl_end (l : List S24) (j : Nat) (h : l.length ≤ j) : cntL (l.drop j) = 0 := by rw [List.drop_of_length_le h, cntL]
theorem tl_sub (l : List S24) (j : Nat) : cnt (nth l j) ≤ cntL (l.drop 0) ∨ l.length ≤ j := by
  rw [List.drop_zero]
  by_cases h : j < l.length
  · exact .inl (cntL_get (nth_some h))
  · exact .inr (by omega)
theorem left_spec (x : S24) (m : Int) (k : Nat) (hm0 : 0 ≤ m) (hm : m ≤ 1000) (hk : 2 * cnt x ≤ k) : ∃ v, vinculumref09_left.f k x.f0 x.f1 x.f2 x.f3 m = some v ∧ -1 ≤ v ∧ (0 ≤ v → (cnt x : Int) ≤ m ∧ v = m - cnt x) ∧ ((cnt x : Int) ≤ m → 0 ≤ v) :=
  left_abs cnt (fun l j => cntL (l.drop j)) (fun x => by rw [List.drop_zero]; exact cnt_eq x) tl_two tl_end tl_sub (cnt x) x m k (Nat.le_refl _) hm0 hm hk
theorem Count_spec (x : S24) (k : Nat) (hx : cnt x ≤ 1000000) (hk : 2 * cnt x ≤ k) : vinculumref09_Count.f k x.f0 x.f1 x.f2 x.f3 = some (cnt x : Int) :=
  Count_abs cnt (fun l j => cntL (l.drop j)) (fun x => by rw [List.drop_zero]; exact cnt_eq x) tl_two tl_end tl_sub (fun l => by rw [List.drop_zero]; exact cntL_len l) (cnt x) x k (Nat.le_refl _) hx hk
theorem Few_spec (x : S24) (m : Int) (k : Nat) (hm0 : 0 ≤ m) (hm : m ≤ 1000) (hk : 2 * cnt x ≤ k) : vinculumref09_Few.f k x.f0 x.f1 x.f2 x.f3 m = some (decide ((cnt x : Int) ≤ m)) := by
  obtain ⟨v, e, _, v2, v3⟩ := left_spec x m k hm0 hm hk
  unfold vinculumref09_Few.f
  rw [e, Option.bind_some]
  congr 1
  exact decide_eq_decide.2 ⟨fun h => (v2 h).1, v3⟩
/-- An operation is small. -/
def fewO (o : S27) : Bool := decide (1 + cntL o.f4 ≤ 100) && decide (o.f1.length ≤ 60)
theorem FewO_spec (o : S27) (k : Nat) (hk : 2 * (1 + cntL o.f4) ≤ k) : vinculumref12_Few.f k o.f0 o.f1 o.f2 o.f3 o.f4 o.f5 o.f6 o.f7 = some (fewO o) := by
  unfold vinculumref12_Few.f vinculumref09_ToRow.f fewO
  rw [Option.bind_some]
  have h := Few_spec ⟨1, ⟨#[]⟩, 0, o.f4⟩ 100 k (by omega) (by omega) (by rw [cnt]; exact hk)
  simp only at h ⊢
  rw [h, Option.bind_some, cnt]
  by_cases hc : 1 + cntL o.f4 ≤ 100
  · rw [decide_eq_true (show ((1 + cntL o.f4 : Nat) : Int) ≤ 100 by omega), if_pos rfl, decide_eq_true hc, Bool.true_and]
    congr 1
    exact decide_eq_decide.2 (by omega)
  · rw [decide_eq_false (show ¬ ((1 + cntL o.f4 : Nat) : Int) ≤ 100 by omega), if_neg (by decide), decide_eq_false hc]; rfl
theorem rd_op (l : List S27) (j : Nat) (h : j < l.length) : rd_T27 l (j : Int) = l[j] := by
  unfold rd_T27
  rw [Int.toNat_natCast, List.getD_eq_getElem?_getD, List.getElem?_eq_getElem h]
  rfl
/-- How many rounds the small bounds want. -/
def fewK (x : S24) : List S27 → Nat
  | [] => 2 * cnt x + 1
  | o :: l => 2 * (1 + cntL o.f4) + fewK x l + 1
/-- A tree and operations are small. -/
def fewB (x : S24) (l : List S27) : Bool := l.all fewO && (decide (cnt x ≤ 300) && decide (l.length ≤ 12))
theorem few_spec (x : S24) (l : List S27) (hl : l.length ≤ 9223372036854775807) (k : Nat) (hk : fewK x l ≤ k) : vinculumlaw12_few.f k x.f0 x.f1 x.f2 x.f3 l = some (fewB x l) := by
  unfold vinculumlaw12_few.f
  have h : ∀ (d j k : Nat), j + d = l.length → fewK x (l.drop j) ≤ k → vinculumlaw12_few.l0 k l l (l.length : Int) (j : Int) x.f0 x.f1 x.f2 x.f3 = some ((l.drop j).all fewO && (decide (cnt x ≤ 300) && decide (l.length ≤ 12))) := by
    intro d
    induction d with
    | zero =>
      intro j k hj hk
      rw [List.drop_of_length_le (by omega)] at hk ⊢
      rw [fewK] at hk
      obtain ⟨k, rfl⟩ : ∃ q, k = q + 1 := ⟨k - 1, by omega⟩
      rw [vinculumlaw12_few.l0, if_neg (by omega), Few_spec x 300 k (by omega) (by omega) (by omega), Option.bind_some]
      by_cases hc : cnt x ≤ 300
      · rw [decide_eq_true (show (cnt x : Int) ≤ 300 by omega), if_pos rfl, decide_eq_true hc]
        simp
        omega
      · rw [decide_eq_false (show ¬ (cnt x : Int) ≤ 300 by omega), if_neg (by decide), decide_eq_false hc]; rfl
    | succ d ih =>
      intro j k hj hk
      have hjl : j < l.length := by omega
      rw [List.drop_eq_getElem_cons hjl] at hk ⊢
      rw [fewK] at hk
      obtain ⟨k, rfl⟩ : ∃ q, k = q + 1 := ⟨k - 1, by omega⟩
      rw [vinculumlaw12_few.l0, if_pos (by omega), if_pos (by omega), if_pos (by omega), rd_op l j hjl, FewO_spec _ k (by omega), Option.bind_some, List.all_cons]
      cases hf : fewO l[j]
      · rw [if_neg (by decide)]; rfl
      · rw [if_pos rfl]
        have hw : wrap64 ((j : Int) + 1) = ((j + 1 : Nat) : Int) := wrap_id (by omega) (by omega)
        rw [hw, ih (j + 1) k (by omega) (by omega), Bool.true_and]
  have := h l.length 0 k (by omega) (by rw [List.drop_zero]; exact hk)
  rw [List.drop_zero] at this
  exact this
theorem fewB_op {x : S24} {l : List S27} (h : fewB x l = true) {o : S27} (ho : o ∈ l) : cntL o.f4 < 100 ∧ o.f1.length ≤ 60 := by
  unfold fewB at h
  simp only [Bool.and_eq_true] at h
  have := List.all_eq_true.1 h.1 o ho
  unfold fewO at this
  simp only [Bool.and_eq_true, decide_eq_true_eq] at this
  omega
theorem fewB_tree {x : S24} {l : List S27} (h : fewB x l = true) : cnt x ≤ 300 ∧ l.length ≤ 12 := by
  unfold fewB at h
  simp only [Bool.and_eq_true, decide_eq_true_eq] at h
  exact h.2
end X
end Go.Proofs.YtgcpfelccfnnbaaDoor
