/-
Part 2 of the texts of this proof: the walks through the program's functions.
-/
import Derived.StillTailTactics
import Derived.Test.YtgcpfelccfnnbaaDoorMCounts1
namespace Go.Proofs.YtgcpfelccfnnbaaDoor.X
open Go.RowKit Go.Proofs.YtgcpfelccfnnbaaDoorW.PrintWords Go.Proofs.YtgcpfelccfnnbaaDoorW.PrintLast Go.Proofs.YtgcpfelccfnnbaaDoorW.PrintMore
attribute [local go_sem] max2_int min2_int max_two min_two max_three min_three max_four min_four   -- for this text's walks alone
set_option linter.unusedVariables false
set_option linter.unusedSimpArgs false
def node_digits.f (a0 : ByteArray) : Option (Bool) := if a0.toList = ([] : List UInt8) then (some false) else ((strings_Trim.f a0 (⟨#[48, 49, 50, 51, 52, 53, 54, 55, 56, 57]⟩ : ByteArray)).bind fun t124 => (some (t124.toList == ([] : List UInt8))))
set_option maxHeartbeats 8000000 in
set_option maxRecDepth 100000 in
theorem node_digits.calls (a0 : ByteArray) (r : Bool) (w : World) (h : node_digits.f a0 = some r) :
    Calls Tryd.prog 77 #[.string a0] w fun e w' => e = .returned (.bool r) ∧ Below w.heap.size w w' := by
  have HB := Aside0.mk (Below.refl w.heap.size w)
  have H : (if a0.toList = ([] : List UInt8) then (some false) else ((strings_Trim.f a0 (⟨#[48, 49, 50, 51, 52, 53, 54, 55, 56, 57]⟩ : ByteArray)).bind fun t124 => (some (t124.toList == ([] : List UInt8))))) = some r := h
  clear h
  by_cases c2 : a0.toList = ([] : List UInt8)
  · rw [if_pos c2] at H
    have c2b0 : (a0.toList == ([] : List UInt8)) = true := beq_iff_eq.mpr c2
    have c2b1 : (a0.toList != ([] : List UInt8)) = false := bne_eq_false_iff_eq.mpr c2
    clear c2
    obtain rfl := Option.some.inj H
    go_enter Tryd.func77, Tryd.ntmps77
    go_wp2
    go_ret
    exact ⟨by first | rfl | (simp [errW_none, errW_some] <;> rfl) | (simp [*, errW_none, errW_some] <;> rfl), by repeat (first | (with_reducible first | exact HB.out | apply below_alloc | apply pw_below_drewN | apply below_drew1) | exact HB.out)⟩
  · rw [if_neg c2] at H
    have c2b0 : (a0.toList == ([] : List UInt8)) = false := beq_eq_false_iff_ne.mpr c2
    have c2b1 : (a0.toList != ([] : List UInt8)) = true := bne_iff_ne.mpr c2
    replace H := Option.bind_eq_some_iff.mp H
    obtain ⟨t124, A30, H⟩ := H
    replace H : (some (t124.toList == ([] : List UInt8))) = some r := H
    have A3 := Aside0.mk A30
    clear A30
    obtain rfl := Option.some.inj H
    go_enter Tryd.func77, Tryd.ntmps77
    go_wp2_with (first | (go_at_call 86; (with_reducible refine (strings_Trim.calls a0 (⟨#[48, 49, 50, 51, 52, 53, 54, 55, 56, 57]⟩ : ByteArray) t124 _ A3.out).mono ?_); rintro e w4 ⟨rfl, hb⟩; have n0_ := Aside0.mk (below_step (by repeat (first | (with_reducible first | exact HB.out | apply below_alloc | apply pw_below_drewN | apply below_drew1) | exact HB.out)) hb); clear HB; have HB := n0_; clear n0_; (try clear hb); (try clear hb2); (try clear hk); (try clear hi)))
    go_ret
    exact ⟨by first | rfl | (simp [errW_none, errW_some] <;> rfl) | (simp [*, errW_none, errW_some] <;> rfl), by repeat (first | (with_reducible first | exact HB.out | apply below_alloc | apply pw_below_drewN | apply below_drew1) | exact HB.out)⟩
end Go.Proofs.YtgcpfelccfnnbaaDoor.X
namespace Go.Proofs.YtgcpfelccfnnbaaDoor.X
open Go.RowKit Go.Proofs.YtgcpfelccfnnbaaDoorW.PrintWords Go.Proofs.YtgcpfelccfnnbaaDoorW.PrintLast Go.Proofs.YtgcpfelccfnnbaaDoorW.PrintMore
attribute [local go_sem] max2_int min2_int max_two min_two max_three min_three max_four min_four   -- for this text's walks alone
set_option linter.unusedVariables false
set_option linter.unusedSimpArgs false
def node_Number.f (a0 : ByteArray) : Option (Bool) := if (a0.size : Int) > 20 then (some false) else ((strings_Cut.f a0 (⟨#[46]⟩ : ByteArray)).bind fun bt125 => ((node_digits.f bt125.1).bind fun t128 => (if t128 = true then (if bt125.2.2 = true then ((node_digits.f bt125.2.1).bind fun t129 => (some t129)) else (some true)) else (some false))))
set_option maxHeartbeats 8000000 in
set_option maxRecDepth 100000 in
theorem node_Number.calls (a0 : ByteArray) (r : Bool) (w : World) (h : node_Number.f a0 = some r) :
    Calls Tryd.prog 61 #[.string a0] w fun e w' => e = .returned (.bool r) ∧ Below w.heap.size w w' := by
  have HB := Aside0.mk (Below.refl w.heap.size w)
  have H : (if (a0.size : Int) > 20 then (some false) else ((strings_Cut.f a0 (⟨#[46]⟩ : ByteArray)).bind fun bt125 => ((node_digits.f bt125.1).bind fun t128 => (if t128 = true then (if bt125.2.2 = true then ((node_digits.f bt125.2.1).bind fun t129 => (some t129)) else (some true)) else (some false))))) = some r := h
  clear h
  by_cases c2 : (a0.size : Int) > 20
  · rw [if_pos c2] at H
    have c2b0 : decide (20 < (a0.size : Int)) = true := decide_eq_true c2
    have c2b1 : decide (20 < a0.size) = true := decide_eq_true (by omega)
    clear c2
    obtain rfl := Option.some.inj H
    go_enter Tryd.func61, Tryd.ntmps61
    go_wp2
    go_ret
    exact ⟨by first | rfl | (simp [errW_none, errW_some] <;> rfl) | (simp [*, errW_none, errW_some] <;> rfl), by repeat (first | (with_reducible first | exact HB.out | apply below_alloc | apply pw_below_drewN | apply below_drew1) | exact HB.out)⟩
  · rw [if_neg c2] at H
    have c2b0 : decide (20 < (a0.size : Int)) = false := decide_eq_false c2
    have c2b1 : decide (20 < a0.size) = false := decide_eq_false (by omega)
    clear c2
    replace H := Option.bind_eq_some_iff.mp H
    obtain ⟨⟨t125, t126, t127⟩, A30, H⟩ := H
    replace H : ((node_digits.f t125).bind fun t128 => (if t128 = true then (if t127 = true then ((node_digits.f t126).bind fun t129 => (some t129)) else (some true)) else (some false))) = some r := H
    have A3 := Aside0.mk A30
    clear A30
    replace H := Option.bind_eq_some_iff.mp H
    obtain ⟨t128, A40, H⟩ := H
    replace H : (if t128 = true then (if t127 = true then ((node_digits.f t126).bind fun t129 => (some t129)) else (some true)) else (some false)) = some r := H
    have A4 := Aside0.mk A40
    clear A40
    by_cases c5 : t128 = true
    · subst c5
      have H1 : (if t127 = true then ((node_digits.f t126).bind fun t129 => (some t129)) else (some true)) = some r := by rw [if_pos rfl] at H; exact H
      clear H
      have H := H1
      clear H1
      by_cases c6 : t127 = true
      · subst c6
        have H1 : ((node_digits.f t126).bind fun t129 => (some t129)) = some r := by rw [if_pos rfl] at H; exact H
        clear H
        have H := H1
        clear H1
        replace H := Option.bind_eq_some_iff.mp H
        obtain ⟨t129, A70, H⟩ := H
        replace H : (some t129) = some r := H
        have A7 := Aside0.mk A70
        clear A70
        obtain rfl := Option.some.inj H
        go_enter Tryd.func61, Tryd.ntmps61
        go_wp2_with (first | ((with_reducible refine gate_callee (f := 76) rfl ?_); refine goesL_ (some 11) rfl rfl Tryd.func76 (by kernel_rfl) rfl #[.string a0, .string (⟨#[46]⟩ : ByteArray)] rfl (by (try simp only [List.map_toArray, List.map_cons, List.map_nil]); first | done | rfl | (simp only [List.length_drop, List.length_take]; rfl)) ?_; (with_reducible refine (strings_Cut.calls a0 (⟨#[46]⟩ : ByteArray) t125 t126 true _ A3.out).mono ?_); rintro e w' ⟨rfl, ⟨nd, rfl⟩⟩; refine ⟨_, rfl, ?_⟩) | ((with_reducible refine gate_callee (f := 77) rfl ?_); refine goesL_ (some 16) rfl rfl Tryd.func77 (by kernel_rfl) rfl #[.string t125] rfl (by (try simp only [List.map_toArray, List.map_cons, List.map_nil]); first | done | rfl | (simp only [List.length_drop, List.length_take]; rfl)) ?_; (with_reducible refine (node_digits.calls t125 true _ A4.out).mono ?_); rintro e w8 ⟨rfl, hb⟩; refine ⟨_, rfl, ?_⟩; have n0_ := Aside0.mk (below_step (by repeat (first | (with_reducible first | exact HB.out | apply below_alloc | apply pw_below_drewN | apply below_drew1) | exact HB.out)) hb); clear HB; have HB := n0_; clear n0_; (try clear hb); (try clear hb2); (try clear hk); (try clear hi)) | (go_at_call 77; (with_reducible refine (node_digits.calls t126 t129 _ A7.out).mono ?_); rintro e w9 ⟨rfl, hb⟩; have n0_ := Aside0.mk (below_step (by repeat (first | (with_reducible first | exact HB.out | apply below_alloc | apply pw_below_drewN | apply below_drew1) | exact HB.out)) hb); clear HB; have HB := n0_; clear n0_; (try clear hb); (try clear hb2); (try clear hk); (try clear hi)))
        go_ret
        exact ⟨by first | rfl | (simp [errW_none, errW_some] <;> rfl) | (simp [*, errW_none, errW_some] <;> rfl), by repeat (first | (with_reducible first | exact HB.out | apply below_alloc | apply pw_below_drewN | apply below_drew1) | exact HB.out)⟩
      · replace c6 := Bool.eq_false_iff.mpr c6
        subst c6
        have H1 : (some true) = some r := by rw [if_neg (show ¬ (false = true) by decide)] at H; exact H
        clear H
        have H := H1
        clear H1
        obtain rfl := Option.some.inj H
        go_enter Tryd.func61, Tryd.ntmps61
        go_wp2_with (first | ((with_reducible refine gate_callee (f := 76) rfl ?_); refine goesL_ (some 11) rfl rfl Tryd.func76 (by kernel_rfl) rfl #[.string a0, .string (⟨#[46]⟩ : ByteArray)] rfl (by (try simp only [List.map_toArray, List.map_cons, List.map_nil]); first | done | rfl | (simp only [List.length_drop, List.length_take]; rfl)) ?_; (with_reducible refine (strings_Cut.calls a0 (⟨#[46]⟩ : ByteArray) t125 t126 false _ A3.out).mono ?_); rintro e w' ⟨rfl, ⟨nd, rfl⟩⟩; refine ⟨_, rfl, ?_⟩) | ((with_reducible refine gate_callee (f := 77) rfl ?_); refine goesL_ (some 16) rfl rfl Tryd.func77 (by kernel_rfl) rfl #[.string t125] rfl (by (try simp only [List.map_toArray, List.map_cons, List.map_nil]); first | done | rfl | (simp only [List.length_drop, List.length_take]; rfl)) ?_; (with_reducible refine (node_digits.calls t125 true _ A4.out).mono ?_); rintro e w10 ⟨rfl, hb⟩; refine ⟨_, rfl, ?_⟩; have n0_ := Aside0.mk (below_step (by repeat (first | (with_reducible first | exact HB.out | apply below_alloc | apply pw_below_drewN | apply below_drew1) | exact HB.out)) hb); clear HB; have HB := n0_; clear n0_; (try clear hb); (try clear hb2); (try clear hk); (try clear hi)))
        go_ret
        exact ⟨by first | rfl | (simp [errW_none, errW_some] <;> rfl) | (simp [*, errW_none, errW_some] <;> rfl), by repeat (first | (with_reducible first | exact HB.out | apply below_alloc | apply pw_below_drewN | apply below_drew1) | exact HB.out)⟩
    · replace c5 := Bool.eq_false_iff.mpr c5
      subst c5
      have H1 : (some false) = some r := by rw [if_neg (show ¬ (false = true) by decide)] at H; exact H
      clear H
      have H := H1
      clear H1
      obtain rfl := Option.some.inj H
      go_enter Tryd.func61, Tryd.ntmps61
      go_wp2_with (first | ((with_reducible refine gate_callee (f := 76) rfl ?_); refine goesL_ (some 11) rfl rfl Tryd.func76 (by kernel_rfl) rfl #[.string a0, .string (⟨#[46]⟩ : ByteArray)] rfl (by (try simp only [List.map_toArray, List.map_cons, List.map_nil]); first | done | rfl | (simp only [List.length_drop, List.length_take]; rfl)) ?_; (with_reducible refine (strings_Cut.calls a0 (⟨#[46]⟩ : ByteArray) t125 t126 t127 _ A3.out).mono ?_); rintro e w' ⟨rfl, ⟨nd, rfl⟩⟩; refine ⟨_, rfl, ?_⟩) | ((with_reducible refine gate_callee (f := 77) rfl ?_); refine goesL_ (some 16) rfl rfl Tryd.func77 (by kernel_rfl) rfl #[.string t125] rfl (by (try simp only [List.map_toArray, List.map_cons, List.map_nil]); first | done | rfl | (simp only [List.length_drop, List.length_take]; rfl)) ?_; (with_reducible refine (node_digits.calls t125 false _ A4.out).mono ?_); rintro e w11 ⟨rfl, hb⟩; refine ⟨_, rfl, ?_⟩; have n0_ := Aside0.mk (below_step (by repeat (first | (with_reducible first | exact HB.out | apply below_alloc | apply pw_below_drewN | apply below_drew1) | exact HB.out)) hb); clear HB; have HB := n0_; clear n0_; (try clear hb); (try clear hb2); (try clear hk); (try clear hi)))
      go_ret
      exact ⟨by first | rfl | (simp [errW_none, errW_some] <;> rfl) | (simp [*, errW_none, errW_some] <;> rfl), by repeat (first | (with_reducible first | exact HB.out | apply below_alloc | apply pw_below_drewN | apply below_drew1) | exact HB.out)⟩
end Go.Proofs.YtgcpfelccfnnbaaDoor.X
namespace Go.Proofs.YtgcpfelccfnnbaaDoor.X
open Go.RowKit Go.Proofs.YtgcpfelccfnnbaaDoorW.PrintWords Go.Proofs.YtgcpfelccfnnbaaDoorW.PrintLast Go.Proofs.YtgcpfelccfnnbaaDoorW.PrintMore
attribute [local go_sem] max2_int min2_int max_two min_two max_three min_three max_four min_four   -- for this text's walks alone
set_option linter.unusedVariables false
set_option linter.unusedSimpArgs false
def node_printable.l0 : Nat → ByteArray → Int → Int → Option (Bool)
  | 0, _, _, _ => none
  | k + 1, x0, x5, x6 => if x6 < x5 then (if 0 ≤ x6 then (if x6 < (x0.size : Int) then (if (bt x0 x6) < 32 then (some false) else (if (bt x0 x6) > 126 then (some false) else (node_printable.l0 k x0 x5 (wrap64 (x6 + 1))))) else (none)) else (none)) else (some (decide ((x0.size : Int) ≤ 200)))
def node_printable.f (k : Nat) (a0 : ByteArray) : Option (Bool) := node_printable.l0 k a0 (a0.size : Int) 0
theorem node_printable.mono_l : ∀ k, (∀ y0 y1 y2, LeO (node_printable.l0 k y0 y1 y2) (node_printable.l0 (k + 1) y0 y1 y2))
  | 0 => fun _ _ _ r h => by simp [node_printable.l0] at h
  | k + 1 => by
    have ih0 := node_printable.mono_l k
    · intro y0 y1 y2
      unfold node_printable.l0
      repeat' first
      | (with_reducible exact ih0 _ _ _)
      | (with_reducible exact LeO.refl _)
      | (with_reducible exact LeO.none _)
      | (with_reducible refine LeO.ite ?_ ?_)
      | (with_reducible refine LeO.bind ?_ (fun _ => ?_))
      | exact ih0 _ _ _
      | exact LeO.none _
      | refine LeO.ite ?_ ?_
      | refine LeO.bind ?_ (fun _ => ?_)
theorem node_printable.mono : ∀ a0 k, LeO (node_printable.f k a0) (node_printable.f (k + 1) a0) := by
  intro a0 k
  have ih0 := node_printable.mono_l k
  unfold node_printable.f
  repeat' first
      | (with_reducible exact ih0 _ _ _)
      | (with_reducible exact LeO.refl _)
      | (with_reducible exact LeO.none _)
      | (with_reducible refine LeO.ite ?_ ?_)
      | (with_reducible refine LeO.bind ?_ (fun _ => ?_))
      | exact ih0 _ _ _
      | exact LeO.none _
      | refine LeO.ite ?_ ?_
      | refine LeO.bind ?_ (fun _ => ?_)
set_option maxHeartbeats 8000000 in
set_option maxRecDepth 100000 in
theorem node_printable.calls (k : Nat) (a0 : ByteArray) (r : Bool) (w : World) (h : node_printable.f k a0 = some r) :
    Calls Tryd.prog 62 #[.string a0] w fun e w' => e = .returned (.bool r) ∧ Drawn0 w w' := by
  have H : (node_printable.l0 k a0 (a0.size : Int) 0) = some r := h
  clear h
  have H' := Aside0.mk H
  clear H
  go_enter Tryd.func62, Tryd.ntmps62
  go_wp2
  go_loopg [6] k (fun kq v6 w' => ∃ (x6_1 : Int), v6 = .int .i64 x6_1 ∧ Aside0 (node_printable.l0 kq a0 (a0.size : Int) x6_1 = some r) ∧ Aside0 (kq ≤ k) ∧ Drawn0 w w')
  case atStart => exact ⟨(0), (by first | rfl | (simp; done) | (simp [*]; done)), H', ⟨Nat.le_refl _⟩, by repeat (first | exact Drawn0.refl _ | apply Drawn0.step)⟩
  case round =>
    clear H'
    obtain ⟨x6_1, rfl, HA, HK1, ⟨m1, rfl⟩⟩ := hrel
    cases gk with
    | zero => exact absurd HA.out (by simp [node_printable.l0])
    | succ k1 =>
      have H := HA.out
      clear HA
      simp only [node_printable.l0] at H
      by_cases c2 : x6_1 < (a0.size : Int)
      · rw [if_pos c2] at H
        have c2b0 : decide (x6_1 < (a0.size : Int)) = true := decide_eq_true c2
        clear c2
        by_cases c3 : 0 ≤ x6_1
        · rw [if_pos c3] at H
          have c3b0 : decide (0 ≤ x6_1) = true := decide_eq_true c3
          clear c3
          by_cases c4 : x6_1 < (a0.size : Int)
          · rw [if_pos c4] at H
            have c4b0 : decide (x6_1 < (a0.size : Int)) = true := decide_eq_true c4
            clear c4
            by_cases c6 : (bt a0 x6_1) < 32
            · rw [if_pos c6] at H
              have c6b0 : decide ((bt a0 x6_1) < 32) = true := decide_eq_true c6
              clear c6
              obtain rfl := Option.some.inj H
              have p5 : 0 ≤ (x6_1 : Int) := of_decide_eq_true (by first | (with_reducible assumption) | assumption)
              have q5 : x6_1 < (a0.size : Int) := of_decide_eq_true (by first | (with_reducible assumption) | assumption)
              have hx5 := bt_at a0 x6_1
              replace p5 := eq_true p5
              replace q5 := eq_true q5
              go_wp2
              go_ret
              exact ⟨by first | rfl | (simp; done) | (simp [*]; done), by repeat (first | exact Drawn0.refl _ | apply Drawn0.step)⟩
            · rw [if_neg c6] at H
              have c6b0 : decide ((bt a0 x6_1) < 32) = false := decide_eq_false c6
              clear c6
              by_cases c8 : (bt a0 x6_1) > 126
              · rw [if_pos c8] at H
                have c8b0 : decide (126 < (bt a0 x6_1)) = true := decide_eq_true c8
                clear c8
                obtain rfl := Option.some.inj H
                have p5 : 0 ≤ (x6_1 : Int) := of_decide_eq_true (by first | (with_reducible assumption) | assumption)
                have q5 : x6_1 < (a0.size : Int) := of_decide_eq_true (by first | (with_reducible assumption) | assumption)
                have hx5 := bt_at a0 x6_1
                replace p5 := eq_true p5
                replace q5 := eq_true q5
                have p7 : 0 ≤ (x6_1 : Int) := of_decide_eq_true (by first | (with_reducible assumption) | assumption)
                have q7 : x6_1 < (a0.size : Int) := of_decide_eq_true (by first | (with_reducible assumption) | assumption)
                have hx7 := bt_at a0 x6_1
                replace p7 := eq_true p7
                replace q7 := eq_true q7
                go_wp2
                go_ret
                exact ⟨by first | rfl | (simp; done) | (simp [*]; done), by repeat (first | exact Drawn0.refl _ | apply Drawn0.step)⟩
              · rw [if_neg c8] at H
                have c8b0 : decide (126 < (bt a0 x6_1)) = false := decide_eq_false c8
                clear c8
                have H' := Aside0.mk H
                clear H
                have p5 : 0 ≤ (x6_1 : Int) := of_decide_eq_true (by first | (with_reducible assumption) | assumption)
                have q5 : x6_1 < (a0.size : Int) := of_decide_eq_true (by first | (with_reducible assumption) | assumption)
                have hx5 := bt_at a0 x6_1
                replace p5 := eq_true p5
                replace q5 := eq_true q5
                have p7 : 0 ≤ (x6_1 : Int) := of_decide_eq_true (by first | (with_reducible assumption) | assumption)
                have q7 : x6_1 < (a0.size : Int) := of_decide_eq_true (by first | (with_reducible assumption) | assumption)
                have hx7 := bt_at a0 x6_1
                replace p7 := eq_true p7
                replace q7 := eq_true q7
                go_wp2
                go_roundg k1
                case measure => have := HK1.out; omega
                case rel => exact ⟨(wrap64 (x6_1 + 1)), (by first | rfl | (simp; done) | (simp [*]; done)), H', ⟨by have := HK1.out; omega⟩, by repeat (first | exact Drawn0.refl _ | apply Drawn0.step)⟩
          · rw [if_neg c4] at H
            exact absurd H (by simp)
        · rw [if_neg c3] at H
          exact absurd H (by simp)
      · rw [if_neg c2] at H
        have c2b0 : decide (x6_1 < (a0.size : Int)) = false := decide_eq_false c2
        clear c2
        obtain rfl := Option.some.inj H
        go_wp2
        go_ret
        exact ⟨by first | rfl | (simp; done) | (simp [*]; done), by repeat (first | exact Drawn0.refl _ | apply Drawn0.step)⟩
end Go.Proofs.YtgcpfelccfnnbaaDoor.X
namespace Go.Proofs.YtgcpfelccfnnbaaDoor.X
open Go.RowKit Go.Proofs.YtgcpfelccfnnbaaDoorW.PrintWords Go.Proofs.YtgcpfelccfnnbaaDoorW.PrintLast Go.Proofs.YtgcpfelccfnnbaaDoorW.PrintMore
attribute [local go_sem] max2_int min2_int max_two min_two max_three min_three max_four min_four   -- for this text's walks alone
set_option linter.unusedVariables false
set_option linter.unusedSimpArgs false
def node_fence.f (a0 : ByteArray) : Option (Bool) := if (a0.size : Int) = 2 then (if 0 ≤ 1 then (if 1 ≤ (a0.size : Int) then ((strings_Contains.f (⟨#[40, 41, 91, 93, 123, 125, 60, 62, 47, 124, 46]⟩ : ByteArray) (a0.extract 0 1)).bind fun t130 => (if t130 = true then ((strings_Contains.f (⟨#[40, 41, 91, 93, 123, 125, 60, 62, 47, 124, 46]⟩ : ByteArray) (a0.extract 1 a0.size)).bind fun t131 => (some t131)) else (some false))) else (none)) else (none)) else (some false)
set_option maxHeartbeats 8000000 in
set_option maxRecDepth 100000 in
theorem node_fence.calls (a0 : ByteArray) (r : Bool) (w : World) (h : node_fence.f a0 = some r) :
    Calls Tryd.prog 64 #[.string a0] w fun e w' => e = .returned (.bool r) ∧ Drawn0 w w' := by
  have H : (if (a0.size : Int) = 2 then (if 0 ≤ 1 then (if 1 ≤ (a0.size : Int) then ((strings_Contains.f (⟨#[40, 41, 91, 93, 123, 125, 60, 62, 47, 124, 46]⟩ : ByteArray) (a0.extract 0 1)).bind fun t130 => (if t130 = true then ((strings_Contains.f (⟨#[40, 41, 91, 93, 123, 125, 60, 62, 47, 124, 46]⟩ : ByteArray) (a0.extract 1 a0.size)).bind fun t131 => (some t131)) else (some false))) else (none)) else (none)) else (some false)) = some r := h
  clear h
  by_cases c2 : (a0.size : Int) = 2
  · rw [if_pos c2] at H
    have c2b0 : ((a0.size : Int) == 2) = true := beq_iff_eq.mpr c2
    have c2b1 : ((a0.size : Int) != 2) = false := bne_eq_false_iff_eq.mpr c2
    clear c2
    by_cases c3 : 0 ≤ 1
    · rw [if_pos c3] at H
      have c3b0 := eq_true c3
      have c3b1 : decide (0 ≤ 1) = true := decide_eq_true c3
      clear c3
      by_cases c4 : 1 ≤ (a0.size : Int)
      · rw [if_pos c4] at H
        have c4b0 := eq_true c4
        have c4b1 : decide (1 ≤ (a0.size : Int)) = true := decide_eq_true c4
        clear c4
        replace H := Option.bind_eq_some_iff.mp H
        obtain ⟨t130, A50, H⟩ := H
        replace H : (if t130 = true then ((strings_Contains.f (⟨#[40, 41, 91, 93, 123, 125, 60, 62, 47, 124, 46]⟩ : ByteArray) (a0.extract 1 a0.size)).bind fun t131 => (some t131)) else (some false)) = some r := H
        have A5 := Aside0.mk A50
        clear A50
        by_cases c6 : t130 = true
        · subst c6
          have H1 : ((strings_Contains.f (⟨#[40, 41, 91, 93, 123, 125, 60, 62, 47, 124, 46]⟩ : ByteArray) (a0.extract 1 a0.size)).bind fun t131 => (some t131)) = some r := by rw [if_pos rfl] at H; exact H
          clear H
          have H := H1
          clear H1
          have c7b0 := eq_true (of_decide_eq_true (by first | (with_reducible assumption) | assumption) : 1 ≤ (a0.size : Int))
          replace H := Option.bind_eq_some_iff.mp H
          obtain ⟨t131, A80, H⟩ := H
          replace H : (some t131) = some r := H
          have A8 := Aside0.mk A80
          clear A80
          obtain rfl := Option.some.inj H
          go_enter Tryd.func64, Tryd.ntmps64
          go_wp2_with (first | (go_at_call 74; (with_reducible refine (strings_Contains.calls (⟨#[40, 41, 91, 93, 123, 125, 60, 62, 47, 124, 46]⟩ : ByteArray) (a0.extract 0 1) true _ A5.out).mono ?_); rintro e w' ⟨rfl, ⟨nd, rfl⟩⟩) | (go_at_call 74; (with_reducible refine (strings_Contains.calls (⟨#[40, 41, 91, 93, 123, 125, 60, 62, 47, 124, 46]⟩ : ByteArray) (a0.extract 1 a0.size) t131 _ A8.out).mono ?_); rintro e w' ⟨rfl, ⟨nd, rfl⟩⟩))
          go_ret
          exact ⟨by first | rfl | (simp; done) | (simp [*]; done), by repeat (first | exact Drawn0.refl _ | apply Drawn0.step)⟩
        · replace c6 := Bool.eq_false_iff.mpr c6
          subst c6
          have H1 : (some false) = some r := by rw [if_neg (show ¬ (false = true) by decide)] at H; exact H
          clear H
          have H := H1
          clear H1
          obtain rfl := Option.some.inj H
          go_enter Tryd.func64, Tryd.ntmps64
          go_wp2_with (first | (go_at_call 74; (with_reducible refine (strings_Contains.calls (⟨#[40, 41, 91, 93, 123, 125, 60, 62, 47, 124, 46]⟩ : ByteArray) (a0.extract 0 1) false _ A5.out).mono ?_); rintro e w' ⟨rfl, ⟨nd, rfl⟩⟩))
          go_ret
          exact ⟨by first | rfl | (simp; done) | (simp [*]; done), by repeat (first | exact Drawn0.refl _ | apply Drawn0.step)⟩
      · rw [if_neg c4] at H
        exact absurd H (by simp)
    · rw [if_neg c3] at H
      exact absurd H (by simp)
  · rw [if_neg c2] at H
    have c2b0 : ((a0.size : Int) == 2) = false := beq_eq_false_iff_ne.mpr c2
    have c2b1 : ((a0.size : Int) != 2) = true := bne_iff_ne.mpr c2
    obtain rfl := Option.some.inj H
    go_enter Tryd.func64, Tryd.ntmps64
    go_wp2
    go_ret
    exact ⟨by first | rfl | (simp; done) | (simp [*]; done), by repeat (first | exact Drawn0.refl _ | apply Drawn0.step)⟩
end Go.Proofs.YtgcpfelccfnnbaaDoor.X
namespace Go.Proofs.YtgcpfelccfnnbaaDoor.X
open Go.RowKit Go.Proofs.YtgcpfelccfnnbaaDoorW.PrintWords Go.Proofs.YtgcpfelccfnnbaaDoorW.PrintLast Go.Proofs.YtgcpfelccfnnbaaDoorW.PrintMore
attribute [local go_sem] max2_int min2_int max_two min_two max_three min_three max_four min_four   -- for this text's walks alone
set_option linter.unusedVariables false
set_option linter.unusedSimpArgs false
theorem ba_toList (s : ByteArray) : s.toList = s.data.toList := by
  obtain ⟨⟨l⟩⟩ := s
  exact ByteArray.toList_mk l
theorem ba_size (s : ByteArray) : s.size = s.data.toList.length := by simp
theorem bt_get {s : ByteArray} {i : Nat} (h : i < s.size) (h' : i < s.data.toList.length) : bt s (i : Int) = ((s.data.toList[i]).toNat : Int) := by
  unfold bt
  rw [dif_pos (by simpa using h)]
  simp only [Int.toNat_natCast]
  congr 2
def letterB (c : UInt8) : Bool := decide (97 ≤ c.toNat ∧ c.toNat ≤ 122) || decide (65 ≤ c.toNat ∧ c.toNat ≤ 90)
theorem letter_f (c : UInt8) : node_letter.f (c.toNat : Int) = some (letterB c) := by
  unfold node_letter.f letterB
  by_cases h1 : (c.toNat : Int) ≥ 97
  · rw [if_pos h1]
    by_cases h2 : (c.toNat : Int) ≤ 122
    · rw [if_pos h2, decide_eq_true (p := 97 ≤ c.toNat ∧ c.toNat ≤ 122) (by omega)]; rfl
    · rw [if_neg h2, if_pos (by omega), decide_eq_false (p := 97 ≤ c.toNat ∧ c.toNat ≤ 122) (by omega), decide_eq_false (p := 65 ≤ c.toNat ∧ c.toNat ≤ 90) (by omega), decide_eq_false (by omega)]; rfl
  · rw [if_neg h1, decide_eq_false (p := 97 ≤ c.toNat ∧ c.toNat ≤ 122) (by omega)]
    by_cases h2 : (c.toNat : Int) ≥ 65
    · rw [if_pos h2]
      by_cases h3 : c.toNat ≤ 90
      · rw [decide_eq_true (p := 65 ≤ c.toNat ∧ c.toNat ≤ 90) (by omega), decide_eq_true (by omega)]; rfl
      · rw [decide_eq_false (p := 65 ≤ c.toNat ∧ c.toNat ≤ 90) (by omega), decide_eq_false (by omega)]; rfl
    · rw [if_neg h2, decide_eq_false (p := 65 ≤ c.toNat ∧ c.toNat ≤ 90) (by omega)]; rfl
theorem indexB_contains (l : List UInt8) (c : UInt8) : decide (Lib.indexByte l c ≥ 0) = l.contains c := by
  have hg := Lib.indexByte_ge l c
  by_cases h : Lib.indexByte l c = -1
  · have h2 := Lib.indexByte_none h
    rw [h]
    have : ¬ c ∈ l := fun hm => by
      obtain ⟨k, hk⟩ := List.mem_iff_getElem?.1 hm
      exact h2 k hk
    simp [this]
  · obtain ⟨o, ho⟩ : ∃ o : Nat, Lib.indexByte l c = o := ⟨(Lib.indexByte l c).toNat, by omega⟩
    have h2 := (Lib.indexByte_some ho).1
    rw [ho]
    have : c ∈ l := List.mem_iff_getElem?.2 ⟨o, h2⟩
    simp [this]
theorem contains_f (a : ByteArray) (c : UInt8) : strings_Contains.f a ⟨#[c]⟩ = some (a.data.toList.contains c) := by
  unfold strings_Contains.f strings_Index.f stringslite_Index.f
  simp only [Option.bind_some]
  rw [← indexB_contains]
theorem contains_f' (a s : ByteArray) (c : UInt8) (h : s.data.toList = [c]) : strings_Contains.f a s = some (a.data.toList.contains c) := by
  have : s = ⟨#[c]⟩ := by
    obtain ⟨⟨l⟩⟩ := s
    simp at h
    subst h
    rfl
  rw [this, contains_f]
theorem among_l (l : List ByteArray) (a : ByteArray) (hl : l.length ≤ 1000) (d : Nat) : ∀ (k i : Nat), d < k → i + d = l.length → ∃ r : Int, slices_Index_string_string.l0 k l a (l.length : Int) (i : Int) = some r ∧ (decide (r ≥ 0) = (l.drop i).any fun x => a.data.toList == x.data.toList) := by
  induction d with
  | zero =>
    intro k i hk h
    obtain ⟨k, rfl⟩ : ∃ m, k = m + 1 := ⟨k - 1, by omega⟩
    refine ⟨-1, ?_, ?_⟩
    · simp only [slices_Index_string_string.l0]
      rw [if_neg (by omega)]
    · rw [List.drop_eq_nil_of_le (by omega)]
      rfl
  | succ d ih =>
    intro k i hk h
    obtain ⟨k, rfl⟩ : ∃ m, k = m + 1 := ⟨k - 1, by omega⟩
    have hi : i < l.length := by omega
    obtain ⟨r, hr, hd⟩ := ih k (i + 1) (by omega) (by omega)
    have hw : wrap64 ((i : Int) + 1) = ((i + 1 : Nat) : Int) := by unfold wrap64; omega
    have hrd : rdOf ByteArray.empty l (i : Int) = l[i] := by simp [rdOf, List.getD_eq_getElem?_getD, List.getElem?_eq_getElem hi]
    have hdrop : l.drop i = l[i] :: l.drop (i + 1) := List.drop_eq_getElem_cons hi
    by_cases he : a.data.toList = l[i].data.toList
    · refine ⟨(i : Int), ?_, ?_⟩
      · simp only [slices_Index_string_string.l0]
        rw [if_pos (by omega), if_pos (by omega), if_pos (by omega), if_pos (by rw [ba_toList, ba_toList, hrd]; exact he)]
      · rw [hdrop, List.any_cons, he]
        simp
    · refine ⟨r, ?_, ?_⟩
      · rw [slices_Index_string_string.l0]
        rw [if_pos (by omega), if_pos (by omega), if_pos (by omega), if_neg (by rw [ba_toList, ba_toList, hrd]; exact he), hw]
        exact hr
      · rw [hdrop, List.any_cons, hd]
        have : (a.data.toList == l[i].data.toList) = false := by simpa using he
        rw [this, Bool.false_or]
theorem among_f (l : List ByteArray) (a : ByteArray) (hl : l.length ≤ 1000) (k : Nat) (hk : l.length < k) : slices_Contains_string_string.f k l a = some (l.any fun x => a.data.toList == x.data.toList) := by
  obtain ⟨r, hr, hd⟩ := among_l l a hl l.length k 0 hk (by omega)
  unfold slices_Contains_string_string.f slices_Index_string_string.f
  rw [show ((0 : Nat) : Int) = 0 from rfl] at hr
  rw [hr]
  simp only [Option.bind_some]
  rw [hd, List.drop_zero]
def accL (l : List UInt8) : Bool := [[104, 97, 116], [98, 97, 114], [118, 101, 99], [100, 111, 116], [116, 105, 108, 100, 101], [99, 104, 101, 99, 107]].any fun x => l == x
def keyL (l : List UInt8) : Bool := [[102, 114, 97, 99], [114, 111, 111, 116], [109, 97, 116, 114, 105, 120], [102, 101, 110, 99, 101]].any fun x => l == x
theorem accent_f (s : ByteArray) (k : Nat) (hk : 6 < k) : node_accent.f k s = some (accL s.data.toList) := by
  unfold node_accent.f
  rw [among_f _ _ (by decide) k (by exact hk)]
  rfl
def charsL : List UInt8 := [43, 45, 42, 47, 61, 60, 62, 44, 59, 58, 33, 124, 39, 63, 126, 64]
def symL (l : List UInt8) : Bool := if l.length = 1 then letterB (l.headD 0) || charsL.contains (l.headD 0) else decide (2 ≤ l.length) && (decide (l.length ≤ 16) && (!accL l && (!keyL l && l.all letterB)))
theorem sym_l (s : ByteArray) (hs : s.data.toList.length ≤ 16) (d : Nat) : ∀ (k i : Nat), d < k → i + d = s.data.toList.length → node_Symbol.l0 k s (s.size : Int) (i : Int) = some ((s.data.toList.drop i).all letterB) := by
  have hsz := ba_size s
  induction d with
  | zero =>
    intro k i hk h
    obtain ⟨k, rfl⟩ : ∃ m, k = m + 1 := ⟨k - 1, by omega⟩
    rw [node_Symbol.l0, if_neg (by omega), List.drop_eq_nil_of_le (by omega)]
    rfl
  | succ d ih =>
    intro k i hk h
    obtain ⟨k, rfl⟩ : ∃ m, k = m + 1 := ⟨k - 1, by omega⟩
    have hi : i < s.data.toList.length := by omega
    have hw : wrap64 ((i : Int) + 1) = ((i + 1 : Nat) : Int) := by unfold wrap64; omega
    have hr := ih k (i + 1) (by omega) (by omega)
    rw [node_Symbol.l0, if_pos (by omega), if_pos (by omega), if_pos (by omega), bt_get (by omega) hi, letter_f, List.drop_eq_getElem_cons hi, List.all_cons, hw, hr]
    simp only [Option.bind_some]
    cases letterB s.data.toList[i] <;> rfl
theorem symbol_f (s : ByteArray) (k : Nat) (hk : 20 < k) : node_Symbol.f k s = some (symL s.data.toList) := by
  have hsz := ba_size s
  obtain ⟨k, rfl⟩ : ∃ m, k = m + 1 := ⟨k - 1, by omega⟩
  unfold node_Symbol.f symL
  by_cases h1 : s.data.toList.length = 1
  · rw [if_pos (by omega), if_pos (by omega), if_pos h1]
    obtain ⟨c, hc⟩ := List.length_eq_one_iff.1 h1
    have hb := bt_get (s := s) (i := 0) (by omega) (by omega)
    rw [show ((0 : Nat) : Int) = 0 from rfl] at hb
    rw [hb, letter_f, contains_f' _ _ c hc]
    simp only [hc, List.getElem_cons_zero, Option.bind_some, List.headD_cons]
    cases letterB c <;> rfl
  · rw [if_neg (by omega), if_neg h1]
    have hj : ∀ b : Bool, node_Symbol.j0 (k + 1) s b = if b = true then some false else node_Symbol.l0 k s (s.size : Int) 0 := fun b => by rw [node_Symbol.j0]
    by_cases h2 : s.data.toList.length < 2
    · rw [if_pos (by omega), hj, if_pos rfl, decide_eq_false (by omega), Bool.false_and]
    · rw [if_neg (by omega), decide_eq_true (by omega), Bool.true_and]
      by_cases h3 : s.data.toList.length ≤ 16
      · rw [if_neg (by omega), accent_f s _ (by omega), decide_eq_true h3, Bool.true_and]
        simp only [Option.bind_some]
        cases ha : accL s.data.toList with
        | true => rw [if_pos rfl, hj, if_pos rfl]; rfl
        | false =>
          rw [if_neg (by decide), among_f _ _ (by decide) _ (by show 4 < k + 1; omega)]
          simp only [Option.bind_some]
          rw [hj]
          have hkey : ([(⟨#[102, 114, 97, 99]⟩ : ByteArray), (⟨#[114, 111, 111, 116]⟩ : ByteArray), (⟨#[109, 97, 116, 114, 105, 120]⟩ : ByteArray), (⟨#[102, 101, 110, 99, 101]⟩ : ByteArray)].any fun x => s.data.toList == x.data.toList) = keyL s.data.toList := rfl
          rw [hkey]
          cases keyL s.data.toList with
          | true => rfl
          | false =>
            have hl := sym_l s h3 s.data.toList.length k 0 (by omega) (by omega)
            rw [show ((0 : Nat) : Int) = 0 from rfl] at hl
            rw [if_neg (by decide), hl]
            rfl
      · rw [if_pos (by omega), hj, if_pos rfl, decide_eq_false h3, Bool.false_and]
def digitB (c : UInt8) : Bool := decide (48 ≤ c.toNat ∧ c.toNat ≤ 57)
def digitsL (l : List UInt8) : Bool := !l.isEmpty && l.all digitB
theorem digit_mem (c : UInt8) : ([48, 49, 50, 51, 52, 53, 54, 55, 56, 57] : List UInt8).contains c = digitB c := by
  obtain ⟨n, hn, rfl⟩ : ∃ n, ∃ h : n < 256, c = UInt8.ofNat n := ⟨c.toNat, c.toNat_lt, by simp⟩
  revert n
  decide +kernel
theorem dropW_nil {α : Type} (p : α → Bool) (l : List α) : l.dropWhile p = [] ↔ ∀ x, x ∈ l → p x = true := by
  induction l with
  | nil => simp
  | cons a t ih =>
    rw [List.dropWhile_cons]
    cases h : p a <;> simp [h, ih]
theorem trim_nil (l cs : List UInt8) : Lib.trimS l cs = [] ↔ l.all (cs.contains ·) = true := by
  unfold Lib.trimS Lib.trimLeftS Lib.trimRightS
  constructor
  · intro h
    rw [dropW_nil] at h
    have h2 : (l.reverse.dropWhile (cs.contains ·)) = [] := by
      cases hd : l.reverse.dropWhile (cs.contains ·) with
      | nil => rfl
      | cons a t =>
        have h3 := h a (by rw [hd]; simp)
        have h4 := List.head_dropWhile_not (cs.contains ·) (l := l.reverse) (by rw [hd]; simp)
        simp only [hd, List.head_cons] at h4
        rw [h3] at h4
        cases h4
    rw [dropW_nil] at h2
    rw [List.all_eq_true]
    intro x hx
    exact h2 x (by simpa using hx)
  · intro h
    rw [List.all_eq_true] at h
    have h2 : l.reverse.dropWhile (cs.contains ·) = [] := by
      rw [dropW_nil]
      intro x hx
      exact h x (by simpa using hx)
    rw [h2]
    rfl
theorem digits_f (s : ByteArray) (hs : s.data.toList.length ≤ 1000) : node_digits.f s = some (digitsL s.data.toList) := by
  have hsz := ba_size s
  unfold node_digits.f digitsL
  rw [ba_toList]
  by_cases h : s.data.toList = []
  · rw [if_pos h, h]; rfl
  · rw [if_neg h]
    unfold strings_Trim.f
    rw [if_pos ⟨by decide, by omega, by decide⟩]
    simp only [Option.bind_some]
    rw [ba_toList]
    have he : s.data.toList.isEmpty = false := by simpa using h
    have ha : s.data.toList.all (([48, 49, 50, 51, 52, 53, 54, 55, 56, 57] : List UInt8).contains ·) = s.data.toList.all digitB := by
      congr 1
      funext c
      exact digit_mem c
    have h2 := trim_nil s.data.toList [48, 49, 50, 51, 52, 53, 54, 55, 56, 57]
    rw [ha] at h2
    rw [he]
    simp only [Bool.not_false, Bool.true_and]
    congr 1
    cases hb : s.data.toList.all digitB with
    | true => rw [h2.2 hb]; rfl
    | false =>
      have : ¬ Lib.trimS s.data.toList [48, 49, 50, 51, 52, 53, 54, 55, 56, 57] = [] := fun e => by rw [h2.1 e] at hb; cases hb
      simpa using this
/-- What lies ahead of the first point and behind it; is there one? -/
def cutL : List UInt8 → List UInt8 × List UInt8 × Bool
  | [] => ([], [], false)
  | c :: l => if c = 46 then ([], l, true) else ((c :: (cutL l).1), (cutL l).2.1, (cutL l).2.2)
theorem cut_idx (l : List UInt8) : if Lib.indexByte l 46 = -1 then cutL l = (l, [], false) else cutL l = (l.take (Lib.indexByte l 46).toNat, l.drop ((Lib.indexByte l 46).toNat + 1), true) := by
  induction l with
  | nil => simp [Lib.indexByte, cutL]
  | cons c l ih =>
    have hg := Lib.indexByte_ge l 46
    by_cases h : c = 46
    · subst h
      simp [Lib.indexByte, cutL]
    · have hb : (c == 46) = false := by simpa using h
      rw [Lib.indexByte, cutL, if_neg h, hb]
      simp only [Bool.false_eq_true, if_false]
      by_cases h2 : Lib.indexByte l 46 = -1
      · rw [if_pos h2] at ih
        simp [h2, ih]
      · rw [if_neg h2] at ih
        have hb2 : (Lib.indexByte l 46 == -1) = false := by simpa using h2
        rw [hb2]
        simp only [Bool.false_eq_true, if_false]
        rw [if_neg (by omega), ih]
        have : (Lib.indexByte l 46 + 1).toNat = (Lib.indexByte l 46).toNat + 1 := by omega
        rw [this]
        simp
def numL (l : List UInt8) : Bool := decide (l.length ≤ 20) && (digitsL (cutL l).1 && (!(cutL l).2.2 || digitsL (cutL l).2.1))
theorem ext_take (s : ByteArray) (n : Nat) : (s.extract 0 n).data.toList = s.data.toList.take n := by
  rw [Lib.extract_data]; simp
theorem ext_drop (s : ByteArray) (n : Nat) : (s.extract n s.size).data.toList = s.data.toList.drop n := by
  rw [Lib.extract_data, List.take_of_length_le (by rw [List.length_drop, ba_size]; omega)]
theorem number_f (s : ByteArray) : node_Number.f s = some (numL s.data.toList) := by
  have hsz := ba_size s
  unfold node_Number.f numL
  by_cases h : s.data.toList.length ≤ 20
  · rw [if_neg (by omega), decide_eq_true h, Bool.true_and]
    have hi := Lib.indexByte_ge s.data.toList 46
    have hcut := cut_idx s.data.toList
    unfold strings_Cut.f stringslite_Cut.f stringslite_Index.f
    simp only [Option.bind_some]
    by_cases h2 : Lib.indexByte s.data.toList 46 = -1
    · rw [if_pos h2] at hcut
      rw [h2, if_neg (by decide), hcut]
      simp only [Option.bind_some]
      rw [digits_f s (by omega)]
      simp only [Option.bind_some]
      cases digitsL s.data.toList <;> rfl
    · rw [if_neg h2] at hcut
      obtain ⟨o, ho⟩ : ∃ o : Nat, Lib.indexByte s.data.toList 46 = o := ⟨(Lib.indexByte s.data.toList 46).toNat, by omega⟩
      have hlt : o < s.data.toList.length := by
        have h3 := (Lib.indexByte_some ho).1
        exact (List.getElem?_eq_some_iff.1 h3).1
      rw [ho] at hcut ⊢
      have hw : wrap64 ((o : Int) + (((⟨#[46]⟩ : ByteArray).size : Nat) : Int)) = ((o + 1 : Nat) : Int) := by
        show wrap64 ((o : Int) + 1) = _
        unfold wrap64; omega
      rw [if_pos (by omega), if_pos (by omega), if_pos (by omega), hw, if_pos (by omega), if_pos (by omega), hcut]
      simp only [Option.bind_some, Int.toNat_natCast]
      rw [digits_f _ (by rw [ext_take]; simp; omega), digits_f _ (by rw [ext_drop]; simp; omega), ext_take, ext_drop]
      simp only [Option.bind_some]
      cases digitsL (s.data.toList.take o) <;> cases digitsL (s.data.toList.drop (o + 1)) <;> rfl
  · rw [if_pos (by omega), decide_eq_false h, Bool.false_and]
def printB (c : UInt8) : Bool := decide (32 ≤ c.toNat) && decide (c.toNat ≤ 126)
def printL (l : List UInt8) : Bool := l.all printB && decide (l.length ≤ 200)
theorem print_l (s : ByteArray) (hs : s.data.toList.length ≤ 9223372036854775807) (d : Nat) : ∀ (k i : Nat), d < k → i + d = s.data.toList.length → node_printable.l0 k s (s.size : Int) (i : Int) = some ((s.data.toList.drop i).all printB && decide (s.data.toList.length ≤ 200)) := by
  have hsz := ba_size s
  induction d with
  | zero =>
    intro k i hk h
    obtain ⟨k, rfl⟩ : ∃ m, k = m + 1 := ⟨k - 1, by omega⟩
    rw [node_printable.l0, if_neg (by omega), List.drop_eq_nil_of_le (by omega)]
    simp only [List.all_nil, Bool.true_and]
    congr 1
    by_cases h2 : s.data.toList.length ≤ 200
    · rw [decide_eq_true h2, decide_eq_true (by omega)]
    · rw [decide_eq_false h2, decide_eq_false (by omega)]
  | succ d ih =>
    intro k i hk h
    obtain ⟨k, rfl⟩ : ∃ m, k = m + 1 := ⟨k - 1, by omega⟩
    have hi : i < s.data.toList.length := by omega
    have hw : wrap64 ((i : Int) + 1) = ((i + 1 : Nat) : Int) := by unfold wrap64; omega
    have hr := ih k (i + 1) (by omega) (by omega)
    rw [node_printable.l0, if_pos (by omega), if_pos (by omega), if_pos (by omega), bt_get (by omega) hi, List.drop_eq_getElem_cons hi, List.all_cons, hw, hr]
    unfold printB
    by_cases h1 : 32 ≤ (s.data.toList[i]).toNat
    · rw [if_neg (by omega), decide_eq_true h1]
      by_cases h2 : (s.data.toList[i]).toNat ≤ 126
      · rw [if_neg (by omega), decide_eq_true h2]; rfl
      · rw [if_pos (by omega), decide_eq_false h2]; rfl
    · rw [if_pos (by omega), decide_eq_false h1]; rfl
theorem printable_f (s : ByteArray) (hs : s.data.toList.length ≤ 9223372036854775807) (k : Nat) (hk : s.data.toList.length < k) : node_printable.f k s = some (printL s.data.toList) := by
  have hl := print_l s hs s.data.toList.length k 0 hk (by omega)
  rw [show ((0 : Nat) : Int) = 0 from rfl] at hl
  unfold node_printable.f printL
  rw [hl, List.drop_zero]
def delimsL : List UInt8 := [40, 41, 91, 93, 123, 125, 60, 62, 47, 124, 46]
def fenceL (l : List UInt8) : Bool := match l with
  | [a, b] => delimsL.contains a && delimsL.contains b
  | _ => false
theorem fence_f (s : ByteArray) : node_fence.f s = some (fenceL s.data.toList) := by
  have hsz := ba_size s
  unfold node_fence.f
  by_cases h : s.data.toList.length = 2
  · obtain ⟨a, b, hab⟩ : ∃ a b, s.data.toList = [a, b] := by
      generalize s.data.toList = l at h
      match l, h with
      | [a, b], _ => exact ⟨a, b, rfl⟩
    rw [if_pos (by omega), if_pos (by omega), if_pos (by omega), contains_f' _ _ a (by have h1 := ext_take s 1; rw [hab] at h1; exact h1), contains_f' _ _ b (by have h1 := ext_drop s 1; rw [hab] at h1; exact h1), hab]
    simp only [Option.bind_some, fenceL]
    show (if (delimsL.contains a) = true then some (delimsL.contains b) else some false) = _
    cases delimsL.contains a <;> rfl
  · rw [if_neg (by omega)]
    have : fenceL s.data.toList = false := by
      unfold fenceL
      split
      · rename_i hab; rw [hab] at h; exact absurd rfl h
      · rfl
    rw [this]
theorem empty_f (s : ByteArray) : node_empty.f s = some s.data.toList.isEmpty := by
  unfold node_empty.f
  rw [ba_toList]
  cases s.data.toList <;> rfl
def FORMS : Array Value := #[.string ⟨#[]⟩, .nilFunc, .int .i64 0, .string ⟨#[114, 111, 119]⟩, .func (.func 59) #[] #[], .int .i64 (-1), .string ⟨#[115, 121, 109]⟩, .func (.func 60) #[] #[], .int .i64 0, .string ⟨#[110, 117, 109]⟩, .func (.func 61) #[] #[], .int .i64 0, .string ⟨#[116, 101, 120, 116]⟩, .func (.func 62) #[] #[], .int .i64 0,
  .string ⟨#[102, 114, 97, 99]⟩, .func (.func 59) #[] #[], .int .i64 2, .string ⟨#[114, 111, 111, 116]⟩, .func (.func 59) #[] #[], .int .i64 2, .string ⟨#[115, 117, 98]⟩, .func (.func 59) #[] #[], .int .i64 2, .string ⟨#[115, 117, 112]⟩, .func (.func 59) #[] #[], .int .i64 2, .string ⟨#[98, 111, 116, 104]⟩, .func (.func 59) #[] #[], .int .i64 3,
  .string ⟨#[97, 99, 99, 101, 110, 116]⟩, .func (.func 63) #[] #[], .int .i64 1, .string ⟨#[102, 101, 110, 99, 101]⟩, .func (.func 64) #[] #[], .int .i64 1, .string ⟨#[109, 97, 116, 114, 105, 120]⟩, .func (.func 59) #[] #[], .int .i64 (-1)]
set_option maxRecDepth 100000 in
set_option maxHeartbeats 1000000 in
theorem forms_any (w : World) : Calls Tryd.prog 42 #[] w fun e w' => e = .returned (.slice (some ⟨w.heap.size, 0, none⟩) 13 13) ∧ w.alloc (.cells FORMS 79) = w' := by
  go_enter Tryd.func42, Tryd.ntmps42
  go_wp2
  go_ret
  exact ⟨rfl, rfl⟩
end Go.Proofs.YtgcpfelccfnnbaaDoor.X
namespace Go.Proofs.YtgcpfelccfnnbaaDoor.X
open Go.RowKit Go.Proofs.YtgcpfelccfnnbaaDoorW.PrintWords Go.Proofs.YtgcpfelccfnnbaaDoorW.PrintLast Go.Proofs.YtgcpfelccfnnbaaDoorW.PrintMore
attribute [local go_sem] max2_int min2_int max_two min_two max_three min_three max_four min_four   -- for this text's walks alone
set_option linter.unusedVariables false
set_option linter.unusedSimpArgs false
set_option maxRecDepth 100000 in
set_option maxHeartbeats 1000000 in
theorem shape_2 (f1 : ByteArray) (f2 : Int) (A : Option Addr) (n c gC gF : Nat) (w : World) (hf1 : f1.data.toList.length ≤ 9223372036854775807) (hn : n ≤ 9223372036854775807) (hC : w.cell? ⟨gC, 0, none⟩ = some (.slice (some ⟨gF, 0, none⟩) 13 13)) (hF : w.heap[gF]? = some (.cells FORMS 79 (0, 0))) :
    Calls Tryd.prog 65 #[.pointer (some ⟨gC, 0, none⟩), .agg #[.int .i64 2, .string f1, .int .i64 f2, .slice A n c]] w fun e w' => e = .returned (.bool (symL f1.data.toList && (decide (f2 = 0) && decide (n = 0)))) ∧ Below w.heap.size w w' := by
  have hgF := blk_lt hF
  have hgC := World.block_lt_of_cell? w _ hC
  have e0 : w.cell? ⟨gF, 6, none⟩ = some (.string ⟨#[115, 121, 109]⟩) := blk_cell hF 6
  have e1 : w.cell? ⟨gF, 7, none⟩ = some (.func (.func 60) #[] #[]) := blk_cell hF 7
  have e2 : w.cell? ⟨gF, 8, none⟩ = some (.int .i64 0) := blk_cell hF 8
  clear hF
  cases hT : symL f1.data.toList with
  | false =>
    have HT := Aside0.mk hT
    clear hT
    go_enter Tryd.func65, Tryd.ntmps65
    go_wp2_with fail
    go_region
    go_wp2_with (go_at_call 60; go_loud (refine (node_Symbol.calls 21 f1 false _ (by rw [symbol_f f1 21 (by decide), HT.out])).mono ?_; rintro e w1 ⟨rfl, hb⟩))
    go_ret
    exact ⟨by simp, (((Below.refl _ _).alloc (Nat.le_refl _) _).alloc (by simp) _).drew.trans ⟨hb.os, hb.tape, hb.output, hb.size, fun k hk => hb.block k (by simp; omega)⟩⟩
  | true =>
    have HT := Aside0.mk hT
    clear hT
    by_cases h2 : f2 = 0
    · subst h2
      by_cases h3 : n = 0
      · subst h3
        go_enter Tryd.func65, Tryd.ntmps65
        go_wp2_with fail
        go_region
        go_wp2_with (go_at_call 60; go_loud (refine (node_Symbol.calls 21 f1 true _ (by rw [symbol_f f1 21 (by decide), HT.out])).mono ?_; rintro e w1 ⟨rfl, hb⟩; have HB1 := (hb.block w.heap.size (by simp; omega)).trans (alloc2_fst w (.cells #[.int .i64 2, .string f1, .int .i64 0, .slice A 0 c] 24) (.cells #[.string ⟨#[115, 121, 109]⟩, .func (.func 60) #[] #[], .int .i64 0] 79)); have HB2 := (hb.block (w.heap.size + 1) (by simp)).trans (alloc2_snd w (.cells #[.int .i64 2, .string f1, .int .i64 0, .slice A 0 c] 24) (.cells #[.string ⟨#[115, 121, 109]⟩, .func (.func 60) #[] #[], .int .i64 0] 79)); have b2 := blk_cell HB1 2; have b3 := blk_cell HB1 3; have b4 := blk_cell HB2 2; clear HB1 HB2))
        go_ret
        exact ⟨by simp, (((Below.refl _ _).alloc (Nat.le_refl _) _).alloc (by simp) _).drew.trans ⟨hb.os, hb.tape, hb.output, hb.size, fun k hk => hb.block k (by simp; omega)⟩⟩
      · have h3b : ((n : Int) == 0) = false := beq_eq_false_iff_ne.2 (by omega)
        have H3 := Aside0.mk h3
        clear h3
        go_enter Tryd.func65, Tryd.ntmps65
        go_wp2_with fail
        go_region
        go_wp2_with (go_at_call 60; go_loud (refine (node_Symbol.calls 21 f1 true _ (by rw [symbol_f f1 21 (by decide), HT.out])).mono ?_; rintro e w1 ⟨rfl, hb⟩; have HB1 := (hb.block w.heap.size (by simp; omega)).trans (alloc2_fst w (.cells #[.int .i64 2, .string f1, .int .i64 0, .slice A n c] 24) (.cells #[.string ⟨#[115, 121, 109]⟩, .func (.func 60) #[] #[], .int .i64 0] 79)); have HB2 := (hb.block (w.heap.size + 1) (by simp)).trans (alloc2_snd w (.cells #[.int .i64 2, .string f1, .int .i64 0, .slice A n c] 24) (.cells #[.string ⟨#[115, 121, 109]⟩, .func (.func 60) #[] #[], .int .i64 0] 79)); have b2 := blk_cell HB1 2; have b3 := blk_cell HB1 3; have b4 := blk_cell HB2 2; clear HB1 HB2))
        go_ret
        exact ⟨by simp [H3.out], (((Below.refl _ _).alloc (Nat.le_refl _) _).alloc (by simp) _).drew.trans ⟨hb.os, hb.tape, hb.output, hb.size, fun k hk => hb.block k (by simp; omega)⟩⟩
    · have h2b : (f2 == 0) = false := beq_eq_false_iff_ne.2 h2
      have H2 := Aside0.mk h2
      clear h2
      go_enter Tryd.func65, Tryd.ntmps65
      go_wp2_with fail
      go_region
      go_wp2_with (go_at_call 60; go_loud (refine (node_Symbol.calls 21 f1 true _ (by rw [symbol_f f1 21 (by decide), HT.out])).mono ?_; rintro e w1 ⟨rfl, hb⟩; have HB1 := (hb.block w.heap.size (by simp; omega)).trans (alloc2_fst w (.cells #[.int .i64 2, .string f1, .int .i64 f2, .slice A n c] 24) (.cells #[.string ⟨#[115, 121, 109]⟩, .func (.func 60) #[] #[], .int .i64 0] 79)); have HB2 := (hb.block (w.heap.size + 1) (by simp)).trans (alloc2_snd w (.cells #[.int .i64 2, .string f1, .int .i64 f2, .slice A n c] 24) (.cells #[.string ⟨#[115, 121, 109]⟩, .func (.func 60) #[] #[], .int .i64 0] 79)); have b2 := blk_cell HB1 2; have b3 := blk_cell HB1 3; have b4 := blk_cell HB2 2; clear HB1 HB2))
      go_ret
      exact ⟨by simp [H2.out], (((Below.refl _ _).alloc (Nat.le_refl _) _).alloc (by simp) _).drew.trans ⟨hb.os, hb.tape, hb.output, hb.size, fun k hk => hb.block k (by simp; omega)⟩⟩
set_option maxRecDepth 100000 in
set_option maxHeartbeats 1000000 in
theorem shape_3 (f1 : ByteArray) (f2 : Int) (A : Option Addr) (n c gC gF : Nat) (w : World) (hf1 : f1.data.toList.length ≤ 9223372036854775807) (hn : n ≤ 9223372036854775807) (hC : w.cell? ⟨gC, 0, none⟩ = some (.slice (some ⟨gF, 0, none⟩) 13 13)) (hF : w.heap[gF]? = some (.cells FORMS 79 (0, 0))) :
    Calls Tryd.prog 65 #[.pointer (some ⟨gC, 0, none⟩), .agg #[.int .i64 3, .string f1, .int .i64 f2, .slice A n c]] w fun e w' => e = .returned (.bool (numL f1.data.toList && (decide (f2 = 0) && decide (n = 0)))) ∧ Below w.heap.size w w' := by
  have hgF := blk_lt hF
  have hgC := World.block_lt_of_cell? w _ hC
  have e0 : w.cell? ⟨gF, 9, none⟩ = some (.string ⟨#[110, 117, 109]⟩) := blk_cell hF 9
  have e1 : w.cell? ⟨gF, 10, none⟩ = some (.func (.func 61) #[] #[]) := blk_cell hF 10
  have e2 : w.cell? ⟨gF, 11, none⟩ = some (.int .i64 0) := blk_cell hF 11
  clear hF
  cases hT : numL f1.data.toList with
  | false =>
    have HT := Aside0.mk hT
    clear hT
    go_enter Tryd.func65, Tryd.ntmps65
    go_wp2_with fail
    go_region
    go_wp2_with (go_at_call 61; go_loud (refine (node_Number.calls f1 false _ (by rw [number_f f1, HT.out])).mono ?_; rintro e w1 ⟨rfl, hb⟩))
    go_ret
    exact ⟨by simp, (((Below.refl _ _).alloc (Nat.le_refl _) _).alloc (by simp) _).drew.trans ⟨hb.os, hb.tape, hb.output, hb.size, fun k hk => hb.block k (by simp; omega)⟩⟩
  | true =>
    have HT := Aside0.mk hT
    clear hT
    by_cases h2 : f2 = 0
    · subst h2
      by_cases h3 : n = 0
      · subst h3
        go_enter Tryd.func65, Tryd.ntmps65
        go_wp2_with fail
        go_region
        go_wp2_with (go_at_call 61; go_loud (refine (node_Number.calls f1 true _ (by rw [number_f f1, HT.out])).mono ?_; rintro e w1 ⟨rfl, hb⟩; have HB1 := (hb.block w.heap.size (by simp; omega)).trans (alloc2_fst w (.cells #[.int .i64 3, .string f1, .int .i64 0, .slice A 0 c] 24) (.cells #[.string ⟨#[110, 117, 109]⟩, .func (.func 61) #[] #[], .int .i64 0] 79)); have HB2 := (hb.block (w.heap.size + 1) (by simp)).trans (alloc2_snd w (.cells #[.int .i64 3, .string f1, .int .i64 0, .slice A 0 c] 24) (.cells #[.string ⟨#[110, 117, 109]⟩, .func (.func 61) #[] #[], .int .i64 0] 79)); have b2 := blk_cell HB1 2; have b3 := blk_cell HB1 3; have b4 := blk_cell HB2 2; clear HB1 HB2))
        go_ret
        exact ⟨by simp, (((Below.refl _ _).alloc (Nat.le_refl _) _).alloc (by simp) _).drew.trans ⟨hb.os, hb.tape, hb.output, hb.size, fun k hk => hb.block k (by simp; omega)⟩⟩
      · have h3b : ((n : Int) == 0) = false := beq_eq_false_iff_ne.2 (by omega)
        have H3 := Aside0.mk h3
        clear h3
        go_enter Tryd.func65, Tryd.ntmps65
        go_wp2_with fail
        go_region
        go_wp2_with (go_at_call 61; go_loud (refine (node_Number.calls f1 true _ (by rw [number_f f1, HT.out])).mono ?_; rintro e w1 ⟨rfl, hb⟩; have HB1 := (hb.block w.heap.size (by simp; omega)).trans (alloc2_fst w (.cells #[.int .i64 3, .string f1, .int .i64 0, .slice A n c] 24) (.cells #[.string ⟨#[110, 117, 109]⟩, .func (.func 61) #[] #[], .int .i64 0] 79)); have HB2 := (hb.block (w.heap.size + 1) (by simp)).trans (alloc2_snd w (.cells #[.int .i64 3, .string f1, .int .i64 0, .slice A n c] 24) (.cells #[.string ⟨#[110, 117, 109]⟩, .func (.func 61) #[] #[], .int .i64 0] 79)); have b2 := blk_cell HB1 2; have b3 := blk_cell HB1 3; have b4 := blk_cell HB2 2; clear HB1 HB2))
        go_ret
        exact ⟨by simp [H3.out], (((Below.refl _ _).alloc (Nat.le_refl _) _).alloc (by simp) _).drew.trans ⟨hb.os, hb.tape, hb.output, hb.size, fun k hk => hb.block k (by simp; omega)⟩⟩
    · have h2b : (f2 == 0) = false := beq_eq_false_iff_ne.2 h2
      have H2 := Aside0.mk h2
      clear h2
      go_enter Tryd.func65, Tryd.ntmps65
      go_wp2_with fail
      go_region
      go_wp2_with (go_at_call 61; go_loud (refine (node_Number.calls f1 true _ (by rw [number_f f1, HT.out])).mono ?_; rintro e w1 ⟨rfl, hb⟩; have HB1 := (hb.block w.heap.size (by simp; omega)).trans (alloc2_fst w (.cells #[.int .i64 3, .string f1, .int .i64 f2, .slice A n c] 24) (.cells #[.string ⟨#[110, 117, 109]⟩, .func (.func 61) #[] #[], .int .i64 0] 79)); have HB2 := (hb.block (w.heap.size + 1) (by simp)).trans (alloc2_snd w (.cells #[.int .i64 3, .string f1, .int .i64 f2, .slice A n c] 24) (.cells #[.string ⟨#[110, 117, 109]⟩, .func (.func 61) #[] #[], .int .i64 0] 79)); have b2 := blk_cell HB1 2; have b3 := blk_cell HB1 3; have b4 := blk_cell HB2 2; clear HB1 HB2))
      go_ret
      exact ⟨by simp [H2.out], (((Below.refl _ _).alloc (Nat.le_refl _) _).alloc (by simp) _).drew.trans ⟨hb.os, hb.tape, hb.output, hb.size, fun k hk => hb.block k (by simp; omega)⟩⟩
end Go.Proofs.YtgcpfelccfnnbaaDoor.X
namespace Go.Proofs.YtgcpfelccfnnbaaDoor.X
open Go.RowKit Go.Proofs.YtgcpfelccfnnbaaDoorW.PrintWords Go.Proofs.YtgcpfelccfnnbaaDoorW.PrintLast Go.Proofs.YtgcpfelccfnnbaaDoorW.PrintMore
attribute [local go_sem] max2_int min2_int max_two min_two max_three min_three max_four min_four   -- for this text's walks alone
set_option linter.unusedVariables false
set_option linter.unusedSimpArgs false
set_option maxRecDepth 100000 in
set_option maxHeartbeats 1000000 in
theorem shape_4 (f1 : ByteArray) (f2 : Int) (A : Option Addr) (n c gC gF : Nat) (w : World) (hf1 : f1.data.toList.length ≤ 9223372036854775807) (hn : n ≤ 9223372036854775807) (hC : w.cell? ⟨gC, 0, none⟩ = some (.slice (some ⟨gF, 0, none⟩) 13 13)) (hF : w.heap[gF]? = some (.cells FORMS 79 (0, 0))) :
    Calls Tryd.prog 65 #[.pointer (some ⟨gC, 0, none⟩), .agg #[.int .i64 4, .string f1, .int .i64 f2, .slice A n c]] w fun e w' => e = .returned (.bool (printL f1.data.toList && (decide (f2 = 0) && decide (n = 0)))) ∧ Below w.heap.size w w' := by
  have hgF := blk_lt hF
  have hgC := World.block_lt_of_cell? w _ hC
  have e0 : w.cell? ⟨gF, 12, none⟩ = some (.string ⟨#[116, 101, 120, 116]⟩) := blk_cell hF 12
  have e1 : w.cell? ⟨gF, 13, none⟩ = some (.func (.func 62) #[] #[]) := blk_cell hF 13
  have e2 : w.cell? ⟨gF, 14, none⟩ = some (.int .i64 0) := blk_cell hF 14
  clear hF
  cases hT : printL f1.data.toList with
  | false =>
    have HT := Aside0.mk hT
    clear hT
    go_enter Tryd.func65, Tryd.ntmps65
    go_wp2_with fail
    go_region
    go_wp2_with (go_at_call 62; go_loud (refine (node_printable.calls (f1.data.toList.length + 1) f1 false _ (by rw [printable_f f1 hf1 _ (Nat.lt_succ_self _), HT.out])).mono ?_; rintro e w1 ⟨rfl, hd⟩; have hb := Drawn0.below hd))
    go_ret
    exact ⟨by simp, (((Below.refl _ _).alloc (Nat.le_refl _) _).alloc (by simp) _).drew.trans ⟨hb.os, hb.tape, hb.output, hb.size, fun k hk => hb.block k (by simp; omega)⟩⟩
  | true =>
    have HT := Aside0.mk hT
    clear hT
    by_cases h2 : f2 = 0
    · subst h2
      by_cases h3 : n = 0
      · subst h3
        go_enter Tryd.func65, Tryd.ntmps65
        go_wp2_with fail
        go_region
        go_wp2_with (go_at_call 62; go_loud (refine (node_printable.calls (f1.data.toList.length + 1) f1 true _ (by rw [printable_f f1 hf1 _ (Nat.lt_succ_self _), HT.out])).mono ?_; rintro e w1 ⟨rfl, hd⟩; have hb := Drawn0.below hd; have HB1 := (hb.block w.heap.size (by simp; omega)).trans (alloc2_fst w (.cells #[.int .i64 4, .string f1, .int .i64 0, .slice A 0 c] 24) (.cells #[.string ⟨#[116, 101, 120, 116]⟩, .func (.func 62) #[] #[], .int .i64 0] 79)); have HB2 := (hb.block (w.heap.size + 1) (by simp)).trans (alloc2_snd w (.cells #[.int .i64 4, .string f1, .int .i64 0, .slice A 0 c] 24) (.cells #[.string ⟨#[116, 101, 120, 116]⟩, .func (.func 62) #[] #[], .int .i64 0] 79)); have b2 := blk_cell HB1 2; have b3 := blk_cell HB1 3; have b4 := blk_cell HB2 2; clear HB1 HB2))
        go_ret
        exact ⟨by simp, (((Below.refl _ _).alloc (Nat.le_refl _) _).alloc (by simp) _).drew.trans ⟨hb.os, hb.tape, hb.output, hb.size, fun k hk => hb.block k (by simp; omega)⟩⟩
      · have h3b : ((n : Int) == 0) = false := beq_eq_false_iff_ne.2 (by omega)
        have H3 := Aside0.mk h3
        clear h3
        go_enter Tryd.func65, Tryd.ntmps65
        go_wp2_with fail
        go_region
        go_wp2_with (go_at_call 62; go_loud (refine (node_printable.calls (f1.data.toList.length + 1) f1 true _ (by rw [printable_f f1 hf1 _ (Nat.lt_succ_self _), HT.out])).mono ?_; rintro e w1 ⟨rfl, hd⟩; have hb := Drawn0.below hd; have HB1 := (hb.block w.heap.size (by simp; omega)).trans (alloc2_fst w (.cells #[.int .i64 4, .string f1, .int .i64 0, .slice A n c] 24) (.cells #[.string ⟨#[116, 101, 120, 116]⟩, .func (.func 62) #[] #[], .int .i64 0] 79)); have HB2 := (hb.block (w.heap.size + 1) (by simp)).trans (alloc2_snd w (.cells #[.int .i64 4, .string f1, .int .i64 0, .slice A n c] 24) (.cells #[.string ⟨#[116, 101, 120, 116]⟩, .func (.func 62) #[] #[], .int .i64 0] 79)); have b2 := blk_cell HB1 2; have b3 := blk_cell HB1 3; have b4 := blk_cell HB2 2; clear HB1 HB2))
        go_ret
        exact ⟨by simp [H3.out], (((Below.refl _ _).alloc (Nat.le_refl _) _).alloc (by simp) _).drew.trans ⟨hb.os, hb.tape, hb.output, hb.size, fun k hk => hb.block k (by simp; omega)⟩⟩
    · have h2b : (f2 == 0) = false := beq_eq_false_iff_ne.2 h2
      have H2 := Aside0.mk h2
      clear h2
      go_enter Tryd.func65, Tryd.ntmps65
      go_wp2_with fail
      go_region
      go_wp2_with (go_at_call 62; go_loud (refine (node_printable.calls (f1.data.toList.length + 1) f1 true _ (by rw [printable_f f1 hf1 _ (Nat.lt_succ_self _), HT.out])).mono ?_; rintro e w1 ⟨rfl, hd⟩; have hb := Drawn0.below hd; have HB1 := (hb.block w.heap.size (by simp; omega)).trans (alloc2_fst w (.cells #[.int .i64 4, .string f1, .int .i64 f2, .slice A n c] 24) (.cells #[.string ⟨#[116, 101, 120, 116]⟩, .func (.func 62) #[] #[], .int .i64 0] 79)); have HB2 := (hb.block (w.heap.size + 1) (by simp)).trans (alloc2_snd w (.cells #[.int .i64 4, .string f1, .int .i64 f2, .slice A n c] 24) (.cells #[.string ⟨#[116, 101, 120, 116]⟩, .func (.func 62) #[] #[], .int .i64 0] 79)); have b2 := blk_cell HB1 2; have b3 := blk_cell HB1 3; have b4 := blk_cell HB2 2; clear HB1 HB2))
      go_ret
      exact ⟨by simp [H2.out], (((Below.refl _ _).alloc (Nat.le_refl _) _).alloc (by simp) _).drew.trans ⟨hb.os, hb.tape, hb.output, hb.size, fun k hk => hb.block k (by simp; omega)⟩⟩
end Go.Proofs.YtgcpfelccfnnbaaDoor.X
namespace Go.Proofs.YtgcpfelccfnnbaaDoor.X
open Go.RowKit Go.Proofs.YtgcpfelccfnnbaaDoorW.PrintWords Go.Proofs.YtgcpfelccfnnbaaDoorW.PrintLast Go.Proofs.YtgcpfelccfnnbaaDoorW.PrintMore
attribute [local go_sem] max2_int min2_int max_two min_two max_three min_three max_four min_four   -- for this text's walks alone
set_option linter.unusedVariables false
set_option linter.unusedSimpArgs false
set_option maxRecDepth 100000 in
set_option maxHeartbeats 1000000 in
theorem shape_5 (f1 : ByteArray) (f2 : Int) (A : Option Addr) (n c gC gF : Nat) (w : World) (hf1 : f1.data.toList.length ≤ 9223372036854775807) (hn : n ≤ 9223372036854775807) (hC : w.cell? ⟨gC, 0, none⟩ = some (.slice (some ⟨gF, 0, none⟩) 13 13)) (hF : w.heap[gF]? = some (.cells FORMS 79 (0, 0))) :
    Calls Tryd.prog 65 #[.pointer (some ⟨gC, 0, none⟩), .agg #[.int .i64 5, .string f1, .int .i64 f2, .slice A n c]] w fun e w' => e = .returned (.bool (f1.data.toList.isEmpty && (decide (f2 = 0) && decide (n = 2)))) ∧ Below w.heap.size w w' := by
  have hgF := blk_lt hF
  have hgC := World.block_lt_of_cell? w _ hC
  have e0 : w.cell? ⟨gF, 15, none⟩ = some (.string ⟨#[102, 114, 97, 99]⟩) := blk_cell hF 15
  have e1 : w.cell? ⟨gF, 16, none⟩ = some (.func (.func 59) #[] #[]) := blk_cell hF 16
  have e2 : w.cell? ⟨gF, 17, none⟩ = some (.int .i64 2) := blk_cell hF 17
  clear hF
  cases hT : f1.data.toList.isEmpty with
  | false =>
    have HT := Aside0.mk hT
    clear hT
    go_enter Tryd.func65, Tryd.ntmps65
    go_wp2_with fail
    go_region
    go_wp2_with (go_at_call 59; go_loud (refine (node_empty.calls f1 false _ (by rw [empty_f f1, HT.out])).mono ?_; rintro e w1 ⟨rfl, hd⟩; have hb := Drawn0.below hd))
    go_ret
    exact ⟨by simp, (((Below.refl _ _).alloc (Nat.le_refl _) _).alloc (by simp) _).drew.trans ⟨hb.os, hb.tape, hb.output, hb.size, fun k hk => hb.block k (by simp; omega)⟩⟩
  | true =>
    have HT := Aside0.mk hT
    clear hT
    by_cases h2 : f2 = 0
    · subst h2
      by_cases h3 : n = 2
      · subst h3
        go_enter Tryd.func65, Tryd.ntmps65
        go_wp2_with fail
        go_region
        go_wp2_with (go_at_call 59; go_loud (refine (node_empty.calls f1 true _ (by rw [empty_f f1, HT.out])).mono ?_; rintro e w1 ⟨rfl, hd⟩; have hb := Drawn0.below hd; have HB1 := (hb.block w.heap.size (by simp; omega)).trans (alloc2_fst w (.cells #[.int .i64 5, .string f1, .int .i64 0, .slice A 2 c] 24) (.cells #[.string ⟨#[102, 114, 97, 99]⟩, .func (.func 59) #[] #[], .int .i64 2] 79)); have HB2 := (hb.block (w.heap.size + 1) (by simp)).trans (alloc2_snd w (.cells #[.int .i64 5, .string f1, .int .i64 0, .slice A 2 c] 24) (.cells #[.string ⟨#[102, 114, 97, 99]⟩, .func (.func 59) #[] #[], .int .i64 2] 79)); have b2 := blk_cell HB1 2; have b3 := blk_cell HB1 3; have b4 := blk_cell HB2 2; clear HB1 HB2))
        go_ret
        exact ⟨by simp, (((Below.refl _ _).alloc (Nat.le_refl _) _).alloc (by simp) _).drew.trans ⟨hb.os, hb.tape, hb.output, hb.size, fun k hk => hb.block k (by simp; omega)⟩⟩
      · have h3b : ((n : Int) == 2) = false := beq_eq_false_iff_ne.2 (by omega)
        have H3 := Aside0.mk h3
        clear h3
        go_enter Tryd.func65, Tryd.ntmps65
        go_wp2_with fail
        go_region
        go_wp2_with (go_at_call 59; go_loud (refine (node_empty.calls f1 true _ (by rw [empty_f f1, HT.out])).mono ?_; rintro e w1 ⟨rfl, hd⟩; have hb := Drawn0.below hd; have HB1 := (hb.block w.heap.size (by simp; omega)).trans (alloc2_fst w (.cells #[.int .i64 5, .string f1, .int .i64 0, .slice A n c] 24) (.cells #[.string ⟨#[102, 114, 97, 99]⟩, .func (.func 59) #[] #[], .int .i64 2] 79)); have HB2 := (hb.block (w.heap.size + 1) (by simp)).trans (alloc2_snd w (.cells #[.int .i64 5, .string f1, .int .i64 0, .slice A n c] 24) (.cells #[.string ⟨#[102, 114, 97, 99]⟩, .func (.func 59) #[] #[], .int .i64 2] 79)); have b2 := blk_cell HB1 2; have b3 := blk_cell HB1 3; have b4 := blk_cell HB2 2; clear HB1 HB2))
        go_ret
        exact ⟨by simp [H3.out], (((Below.refl _ _).alloc (Nat.le_refl _) _).alloc (by simp) _).drew.trans ⟨hb.os, hb.tape, hb.output, hb.size, fun k hk => hb.block k (by simp; omega)⟩⟩
    · have h2b : (f2 == 0) = false := beq_eq_false_iff_ne.2 h2
      have H2 := Aside0.mk h2
      clear h2
      go_enter Tryd.func65, Tryd.ntmps65
      go_wp2_with fail
      go_region
      go_wp2_with (go_at_call 59; go_loud (refine (node_empty.calls f1 true _ (by rw [empty_f f1, HT.out])).mono ?_; rintro e w1 ⟨rfl, hd⟩; have hb := Drawn0.below hd; have HB1 := (hb.block w.heap.size (by simp; omega)).trans (alloc2_fst w (.cells #[.int .i64 5, .string f1, .int .i64 f2, .slice A n c] 24) (.cells #[.string ⟨#[102, 114, 97, 99]⟩, .func (.func 59) #[] #[], .int .i64 2] 79)); have HB2 := (hb.block (w.heap.size + 1) (by simp)).trans (alloc2_snd w (.cells #[.int .i64 5, .string f1, .int .i64 f2, .slice A n c] 24) (.cells #[.string ⟨#[102, 114, 97, 99]⟩, .func (.func 59) #[] #[], .int .i64 2] 79)); have b2 := blk_cell HB1 2; have b3 := blk_cell HB1 3; have b4 := blk_cell HB2 2; clear HB1 HB2))
      go_ret
      exact ⟨by simp [H2.out], (((Below.refl _ _).alloc (Nat.le_refl _) _).alloc (by simp) _).drew.trans ⟨hb.os, hb.tape, hb.output, hb.size, fun k hk => hb.block k (by simp; omega)⟩⟩
set_option maxRecDepth 100000 in
set_option maxHeartbeats 1000000 in
theorem shape_6 (f1 : ByteArray) (f2 : Int) (A : Option Addr) (n c gC gF : Nat) (w : World) (hf1 : f1.data.toList.length ≤ 9223372036854775807) (hn : n ≤ 9223372036854775807) (hC : w.cell? ⟨gC, 0, none⟩ = some (.slice (some ⟨gF, 0, none⟩) 13 13)) (hF : w.heap[gF]? = some (.cells FORMS 79 (0, 0))) :
    Calls Tryd.prog 65 #[.pointer (some ⟨gC, 0, none⟩), .agg #[.int .i64 6, .string f1, .int .i64 f2, .slice A n c]] w fun e w' => e = .returned (.bool (f1.data.toList.isEmpty && (decide (f2 = 0) && decide (n = 2)))) ∧ Below w.heap.size w w' := by
  have hgF := blk_lt hF
  have hgC := World.block_lt_of_cell? w _ hC
  have e0 : w.cell? ⟨gF, 18, none⟩ = some (.string ⟨#[114, 111, 111, 116]⟩) := blk_cell hF 18
  have e1 : w.cell? ⟨gF, 19, none⟩ = some (.func (.func 59) #[] #[]) := blk_cell hF 19
  have e2 : w.cell? ⟨gF, 20, none⟩ = some (.int .i64 2) := blk_cell hF 20
  clear hF
  cases hT : f1.data.toList.isEmpty with
  | false =>
    have HT := Aside0.mk hT
    clear hT
    go_enter Tryd.func65, Tryd.ntmps65
    go_wp2_with fail
    go_region
    go_wp2_with (go_at_call 59; go_loud (refine (node_empty.calls f1 false _ (by rw [empty_f f1, HT.out])).mono ?_; rintro e w1 ⟨rfl, hd⟩; have hb := Drawn0.below hd))
    go_ret
    exact ⟨by simp, (((Below.refl _ _).alloc (Nat.le_refl _) _).alloc (by simp) _).drew.trans ⟨hb.os, hb.tape, hb.output, hb.size, fun k hk => hb.block k (by simp; omega)⟩⟩
  | true =>
    have HT := Aside0.mk hT
    clear hT
    by_cases h2 : f2 = 0
    · subst h2
      by_cases h3 : n = 2
      · subst h3
        go_enter Tryd.func65, Tryd.ntmps65
        go_wp2_with fail
        go_region
        go_wp2_with (go_at_call 59; go_loud (refine (node_empty.calls f1 true _ (by rw [empty_f f1, HT.out])).mono ?_; rintro e w1 ⟨rfl, hd⟩; have hb := Drawn0.below hd; have HB1 := (hb.block w.heap.size (by simp; omega)).trans (alloc2_fst w (.cells #[.int .i64 6, .string f1, .int .i64 0, .slice A 2 c] 24) (.cells #[.string ⟨#[114, 111, 111, 116]⟩, .func (.func 59) #[] #[], .int .i64 2] 79)); have HB2 := (hb.block (w.heap.size + 1) (by simp)).trans (alloc2_snd w (.cells #[.int .i64 6, .string f1, .int .i64 0, .slice A 2 c] 24) (.cells #[.string ⟨#[114, 111, 111, 116]⟩, .func (.func 59) #[] #[], .int .i64 2] 79)); have b2 := blk_cell HB1 2; have b3 := blk_cell HB1 3; have b4 := blk_cell HB2 2; clear HB1 HB2))
        go_ret
        exact ⟨by simp, (((Below.refl _ _).alloc (Nat.le_refl _) _).alloc (by simp) _).drew.trans ⟨hb.os, hb.tape, hb.output, hb.size, fun k hk => hb.block k (by simp; omega)⟩⟩
      · have h3b : ((n : Int) == 2) = false := beq_eq_false_iff_ne.2 (by omega)
        have H3 := Aside0.mk h3
        clear h3
        go_enter Tryd.func65, Tryd.ntmps65
        go_wp2_with fail
        go_region
        go_wp2_with (go_at_call 59; go_loud (refine (node_empty.calls f1 true _ (by rw [empty_f f1, HT.out])).mono ?_; rintro e w1 ⟨rfl, hd⟩; have hb := Drawn0.below hd; have HB1 := (hb.block w.heap.size (by simp; omega)).trans (alloc2_fst w (.cells #[.int .i64 6, .string f1, .int .i64 0, .slice A n c] 24) (.cells #[.string ⟨#[114, 111, 111, 116]⟩, .func (.func 59) #[] #[], .int .i64 2] 79)); have HB2 := (hb.block (w.heap.size + 1) (by simp)).trans (alloc2_snd w (.cells #[.int .i64 6, .string f1, .int .i64 0, .slice A n c] 24) (.cells #[.string ⟨#[114, 111, 111, 116]⟩, .func (.func 59) #[] #[], .int .i64 2] 79)); have b2 := blk_cell HB1 2; have b3 := blk_cell HB1 3; have b4 := blk_cell HB2 2; clear HB1 HB2))
        go_ret
        exact ⟨by simp [H3.out], (((Below.refl _ _).alloc (Nat.le_refl _) _).alloc (by simp) _).drew.trans ⟨hb.os, hb.tape, hb.output, hb.size, fun k hk => hb.block k (by simp; omega)⟩⟩
    · have h2b : (f2 == 0) = false := beq_eq_false_iff_ne.2 h2
      have H2 := Aside0.mk h2
      clear h2
      go_enter Tryd.func65, Tryd.ntmps65
      go_wp2_with fail
      go_region
      go_wp2_with (go_at_call 59; go_loud (refine (node_empty.calls f1 true _ (by rw [empty_f f1, HT.out])).mono ?_; rintro e w1 ⟨rfl, hd⟩; have hb := Drawn0.below hd; have HB1 := (hb.block w.heap.size (by simp; omega)).trans (alloc2_fst w (.cells #[.int .i64 6, .string f1, .int .i64 f2, .slice A n c] 24) (.cells #[.string ⟨#[114, 111, 111, 116]⟩, .func (.func 59) #[] #[], .int .i64 2] 79)); have HB2 := (hb.block (w.heap.size + 1) (by simp)).trans (alloc2_snd w (.cells #[.int .i64 6, .string f1, .int .i64 f2, .slice A n c] 24) (.cells #[.string ⟨#[114, 111, 111, 116]⟩, .func (.func 59) #[] #[], .int .i64 2] 79)); have b2 := blk_cell HB1 2; have b3 := blk_cell HB1 3; have b4 := blk_cell HB2 2; clear HB1 HB2))
      go_ret
      exact ⟨by simp [H2.out], (((Below.refl _ _).alloc (Nat.le_refl _) _).alloc (by simp) _).drew.trans ⟨hb.os, hb.tape, hb.output, hb.size, fun k hk => hb.block k (by simp; omega)⟩⟩
end Go.Proofs.YtgcpfelccfnnbaaDoor.X
namespace Go.Proofs.YtgcpfelccfnnbaaDoor.X
open Go.RowKit Go.Proofs.YtgcpfelccfnnbaaDoorW.PrintWords Go.Proofs.YtgcpfelccfnnbaaDoorW.PrintLast Go.Proofs.YtgcpfelccfnnbaaDoorW.PrintMore
attribute [local go_sem] max2_int min2_int max_two min_two max_three min_three max_four min_four   -- for this text's walks alone
set_option linter.unusedVariables false
set_option linter.unusedSimpArgs false
set_option maxRecDepth 100000 in
set_option maxHeartbeats 1000000 in
theorem shape_7 (f1 : ByteArray) (f2 : Int) (A : Option Addr) (n c gC gF : Nat) (w : World) (hf1 : f1.data.toList.length ≤ 9223372036854775807) (hn : n ≤ 9223372036854775807) (hC : w.cell? ⟨gC, 0, none⟩ = some (.slice (some ⟨gF, 0, none⟩) 13 13)) (hF : w.heap[gF]? = some (.cells FORMS 79 (0, 0))) :
    Calls Tryd.prog 65 #[.pointer (some ⟨gC, 0, none⟩), .agg #[.int .i64 7, .string f1, .int .i64 f2, .slice A n c]] w fun e w' => e = .returned (.bool (f1.data.toList.isEmpty && (decide (f2 = 0) && decide (n = 2)))) ∧ Below w.heap.size w w' := by
  have hgF := blk_lt hF
  have hgC := World.block_lt_of_cell? w _ hC
  have e0 : w.cell? ⟨gF, 21, none⟩ = some (.string ⟨#[115, 117, 98]⟩) := blk_cell hF 21
  have e1 : w.cell? ⟨gF, 22, none⟩ = some (.func (.func 59) #[] #[]) := blk_cell hF 22
  have e2 : w.cell? ⟨gF, 23, none⟩ = some (.int .i64 2) := blk_cell hF 23
  clear hF
  cases hT : f1.data.toList.isEmpty with
  | false =>
    have HT := Aside0.mk hT
    clear hT
    go_enter Tryd.func65, Tryd.ntmps65
    go_wp2_with fail
    go_region
    go_wp2_with (go_at_call 59; go_loud (refine (node_empty.calls f1 false _ (by rw [empty_f f1, HT.out])).mono ?_; rintro e w1 ⟨rfl, hd⟩; have hb := Drawn0.below hd))
    go_ret
    exact ⟨by simp, (((Below.refl _ _).alloc (Nat.le_refl _) _).alloc (by simp) _).drew.trans ⟨hb.os, hb.tape, hb.output, hb.size, fun k hk => hb.block k (by simp; omega)⟩⟩
  | true =>
    have HT := Aside0.mk hT
    clear hT
    by_cases h2 : f2 = 0
    · subst h2
      by_cases h3 : n = 2
      · subst h3
        go_enter Tryd.func65, Tryd.ntmps65
        go_wp2_with fail
        go_region
        go_wp2_with (go_at_call 59; go_loud (refine (node_empty.calls f1 true _ (by rw [empty_f f1, HT.out])).mono ?_; rintro e w1 ⟨rfl, hd⟩; have hb := Drawn0.below hd; have HB1 := (hb.block w.heap.size (by simp; omega)).trans (alloc2_fst w (.cells #[.int .i64 7, .string f1, .int .i64 0, .slice A 2 c] 24) (.cells #[.string ⟨#[115, 117, 98]⟩, .func (.func 59) #[] #[], .int .i64 2] 79)); have HB2 := (hb.block (w.heap.size + 1) (by simp)).trans (alloc2_snd w (.cells #[.int .i64 7, .string f1, .int .i64 0, .slice A 2 c] 24) (.cells #[.string ⟨#[115, 117, 98]⟩, .func (.func 59) #[] #[], .int .i64 2] 79)); have b2 := blk_cell HB1 2; have b3 := blk_cell HB1 3; have b4 := blk_cell HB2 2; clear HB1 HB2))
        go_ret
        exact ⟨by simp, (((Below.refl _ _).alloc (Nat.le_refl _) _).alloc (by simp) _).drew.trans ⟨hb.os, hb.tape, hb.output, hb.size, fun k hk => hb.block k (by simp; omega)⟩⟩
      · have h3b : ((n : Int) == 2) = false := beq_eq_false_iff_ne.2 (by omega)
        have H3 := Aside0.mk h3
        clear h3
        go_enter Tryd.func65, Tryd.ntmps65
        go_wp2_with fail
        go_region
        go_wp2_with (go_at_call 59; go_loud (refine (node_empty.calls f1 true _ (by rw [empty_f f1, HT.out])).mono ?_; rintro e w1 ⟨rfl, hd⟩; have hb := Drawn0.below hd; have HB1 := (hb.block w.heap.size (by simp; omega)).trans (alloc2_fst w (.cells #[.int .i64 7, .string f1, .int .i64 0, .slice A n c] 24) (.cells #[.string ⟨#[115, 117, 98]⟩, .func (.func 59) #[] #[], .int .i64 2] 79)); have HB2 := (hb.block (w.heap.size + 1) (by simp)).trans (alloc2_snd w (.cells #[.int .i64 7, .string f1, .int .i64 0, .slice A n c] 24) (.cells #[.string ⟨#[115, 117, 98]⟩, .func (.func 59) #[] #[], .int .i64 2] 79)); have b2 := blk_cell HB1 2; have b3 := blk_cell HB1 3; have b4 := blk_cell HB2 2; clear HB1 HB2))
        go_ret
        exact ⟨by simp [H3.out], (((Below.refl _ _).alloc (Nat.le_refl _) _).alloc (by simp) _).drew.trans ⟨hb.os, hb.tape, hb.output, hb.size, fun k hk => hb.block k (by simp; omega)⟩⟩
    · have h2b : (f2 == 0) = false := beq_eq_false_iff_ne.2 h2
      have H2 := Aside0.mk h2
      clear h2
      go_enter Tryd.func65, Tryd.ntmps65
      go_wp2_with fail
      go_region
      go_wp2_with (go_at_call 59; go_loud (refine (node_empty.calls f1 true _ (by rw [empty_f f1, HT.out])).mono ?_; rintro e w1 ⟨rfl, hd⟩; have hb := Drawn0.below hd; have HB1 := (hb.block w.heap.size (by simp; omega)).trans (alloc2_fst w (.cells #[.int .i64 7, .string f1, .int .i64 f2, .slice A n c] 24) (.cells #[.string ⟨#[115, 117, 98]⟩, .func (.func 59) #[] #[], .int .i64 2] 79)); have HB2 := (hb.block (w.heap.size + 1) (by simp)).trans (alloc2_snd w (.cells #[.int .i64 7, .string f1, .int .i64 f2, .slice A n c] 24) (.cells #[.string ⟨#[115, 117, 98]⟩, .func (.func 59) #[] #[], .int .i64 2] 79)); have b2 := blk_cell HB1 2; have b3 := blk_cell HB1 3; have b4 := blk_cell HB2 2; clear HB1 HB2))
      go_ret
      exact ⟨by simp [H2.out], (((Below.refl _ _).alloc (Nat.le_refl _) _).alloc (by simp) _).drew.trans ⟨hb.os, hb.tape, hb.output, hb.size, fun k hk => hb.block k (by simp; omega)⟩⟩
set_option maxRecDepth 100000 in
set_option maxHeartbeats 1000000 in
theorem shape_8 (f1 : ByteArray) (f2 : Int) (A : Option Addr) (n c gC gF : Nat) (w : World) (hf1 : f1.data.toList.length ≤ 9223372036854775807) (hn : n ≤ 9223372036854775807) (hC : w.cell? ⟨gC, 0, none⟩ = some (.slice (some ⟨gF, 0, none⟩) 13 13)) (hF : w.heap[gF]? = some (.cells FORMS 79 (0, 0))) :
    Calls Tryd.prog 65 #[.pointer (some ⟨gC, 0, none⟩), .agg #[.int .i64 8, .string f1, .int .i64 f2, .slice A n c]] w fun e w' => e = .returned (.bool (f1.data.toList.isEmpty && (decide (f2 = 0) && decide (n = 2)))) ∧ Below w.heap.size w w' := by
  have hgF := blk_lt hF
  have hgC := World.block_lt_of_cell? w _ hC
  have e0 : w.cell? ⟨gF, 24, none⟩ = some (.string ⟨#[115, 117, 112]⟩) := blk_cell hF 24
  have e1 : w.cell? ⟨gF, 25, none⟩ = some (.func (.func 59) #[] #[]) := blk_cell hF 25
  have e2 : w.cell? ⟨gF, 26, none⟩ = some (.int .i64 2) := blk_cell hF 26
  clear hF
  cases hT : f1.data.toList.isEmpty with
  | false =>
    have HT := Aside0.mk hT
    clear hT
    go_enter Tryd.func65, Tryd.ntmps65
    go_wp2_with fail
    go_region
    go_wp2_with (go_at_call 59; go_loud (refine (node_empty.calls f1 false _ (by rw [empty_f f1, HT.out])).mono ?_; rintro e w1 ⟨rfl, hd⟩; have hb := Drawn0.below hd))
    go_ret
    exact ⟨by simp, (((Below.refl _ _).alloc (Nat.le_refl _) _).alloc (by simp) _).drew.trans ⟨hb.os, hb.tape, hb.output, hb.size, fun k hk => hb.block k (by simp; omega)⟩⟩
  | true =>
    have HT := Aside0.mk hT
    clear hT
    by_cases h2 : f2 = 0
    · subst h2
      by_cases h3 : n = 2
      · subst h3
        go_enter Tryd.func65, Tryd.ntmps65
        go_wp2_with fail
        go_region
        go_wp2_with (go_at_call 59; go_loud (refine (node_empty.calls f1 true _ (by rw [empty_f f1, HT.out])).mono ?_; rintro e w1 ⟨rfl, hd⟩; have hb := Drawn0.below hd; have HB1 := (hb.block w.heap.size (by simp; omega)).trans (alloc2_fst w (.cells #[.int .i64 8, .string f1, .int .i64 0, .slice A 2 c] 24) (.cells #[.string ⟨#[115, 117, 112]⟩, .func (.func 59) #[] #[], .int .i64 2] 79)); have HB2 := (hb.block (w.heap.size + 1) (by simp)).trans (alloc2_snd w (.cells #[.int .i64 8, .string f1, .int .i64 0, .slice A 2 c] 24) (.cells #[.string ⟨#[115, 117, 112]⟩, .func (.func 59) #[] #[], .int .i64 2] 79)); have b2 := blk_cell HB1 2; have b3 := blk_cell HB1 3; have b4 := blk_cell HB2 2; clear HB1 HB2))
        go_ret
        exact ⟨by simp, (((Below.refl _ _).alloc (Nat.le_refl _) _).alloc (by simp) _).drew.trans ⟨hb.os, hb.tape, hb.output, hb.size, fun k hk => hb.block k (by simp; omega)⟩⟩
      · have h3b : ((n : Int) == 2) = false := beq_eq_false_iff_ne.2 (by omega)
        have H3 := Aside0.mk h3
        clear h3
        go_enter Tryd.func65, Tryd.ntmps65
        go_wp2_with fail
        go_region
        go_wp2_with (go_at_call 59; go_loud (refine (node_empty.calls f1 true _ (by rw [empty_f f1, HT.out])).mono ?_; rintro e w1 ⟨rfl, hd⟩; have hb := Drawn0.below hd; have HB1 := (hb.block w.heap.size (by simp; omega)).trans (alloc2_fst w (.cells #[.int .i64 8, .string f1, .int .i64 0, .slice A n c] 24) (.cells #[.string ⟨#[115, 117, 112]⟩, .func (.func 59) #[] #[], .int .i64 2] 79)); have HB2 := (hb.block (w.heap.size + 1) (by simp)).trans (alloc2_snd w (.cells #[.int .i64 8, .string f1, .int .i64 0, .slice A n c] 24) (.cells #[.string ⟨#[115, 117, 112]⟩, .func (.func 59) #[] #[], .int .i64 2] 79)); have b2 := blk_cell HB1 2; have b3 := blk_cell HB1 3; have b4 := blk_cell HB2 2; clear HB1 HB2))
        go_ret
        exact ⟨by simp [H3.out], (((Below.refl _ _).alloc (Nat.le_refl _) _).alloc (by simp) _).drew.trans ⟨hb.os, hb.tape, hb.output, hb.size, fun k hk => hb.block k (by simp; omega)⟩⟩
    · have h2b : (f2 == 0) = false := beq_eq_false_iff_ne.2 h2
      have H2 := Aside0.mk h2
      clear h2
      go_enter Tryd.func65, Tryd.ntmps65
      go_wp2_with fail
      go_region
      go_wp2_with (go_at_call 59; go_loud (refine (node_empty.calls f1 true _ (by rw [empty_f f1, HT.out])).mono ?_; rintro e w1 ⟨rfl, hd⟩; have hb := Drawn0.below hd; have HB1 := (hb.block w.heap.size (by simp; omega)).trans (alloc2_fst w (.cells #[.int .i64 8, .string f1, .int .i64 f2, .slice A n c] 24) (.cells #[.string ⟨#[115, 117, 112]⟩, .func (.func 59) #[] #[], .int .i64 2] 79)); have HB2 := (hb.block (w.heap.size + 1) (by simp)).trans (alloc2_snd w (.cells #[.int .i64 8, .string f1, .int .i64 f2, .slice A n c] 24) (.cells #[.string ⟨#[115, 117, 112]⟩, .func (.func 59) #[] #[], .int .i64 2] 79)); have b2 := blk_cell HB1 2; have b3 := blk_cell HB1 3; have b4 := blk_cell HB2 2; clear HB1 HB2))
      go_ret
      exact ⟨by simp [H2.out], (((Below.refl _ _).alloc (Nat.le_refl _) _).alloc (by simp) _).drew.trans ⟨hb.os, hb.tape, hb.output, hb.size, fun k hk => hb.block k (by simp; omega)⟩⟩
end Go.Proofs.YtgcpfelccfnnbaaDoor.X
namespace Go.Proofs.YtgcpfelccfnnbaaDoor.X
open Go.RowKit Go.Proofs.YtgcpfelccfnnbaaDoorW.PrintWords Go.Proofs.YtgcpfelccfnnbaaDoorW.PrintLast Go.Proofs.YtgcpfelccfnnbaaDoorW.PrintMore
attribute [local go_sem] max2_int min2_int max_two min_two max_three min_three max_four min_four   -- for this text's walks alone
set_option linter.unusedVariables false
set_option linter.unusedSimpArgs false
set_option maxRecDepth 100000 in
set_option maxHeartbeats 1000000 in
theorem shape_9 (f1 : ByteArray) (f2 : Int) (A : Option Addr) (n c gC gF : Nat) (w : World) (hf1 : f1.data.toList.length ≤ 9223372036854775807) (hn : n ≤ 9223372036854775807) (hC : w.cell? ⟨gC, 0, none⟩ = some (.slice (some ⟨gF, 0, none⟩) 13 13)) (hF : w.heap[gF]? = some (.cells FORMS 79 (0, 0))) :
    Calls Tryd.prog 65 #[.pointer (some ⟨gC, 0, none⟩), .agg #[.int .i64 9, .string f1, .int .i64 f2, .slice A n c]] w fun e w' => e = .returned (.bool (f1.data.toList.isEmpty && (decide (f2 = 0) && decide (n = 3)))) ∧ Below w.heap.size w w' := by
  have hgF := blk_lt hF
  have hgC := World.block_lt_of_cell? w _ hC
  have e0 : w.cell? ⟨gF, 27, none⟩ = some (.string ⟨#[98, 111, 116, 104]⟩) := blk_cell hF 27
  have e1 : w.cell? ⟨gF, 28, none⟩ = some (.func (.func 59) #[] #[]) := blk_cell hF 28
  have e2 : w.cell? ⟨gF, 29, none⟩ = some (.int .i64 3) := blk_cell hF 29
  clear hF
  cases hT : f1.data.toList.isEmpty with
  | false =>
    have HT := Aside0.mk hT
    clear hT
    go_enter Tryd.func65, Tryd.ntmps65
    go_wp2_with fail
    go_region
    go_wp2_with (go_at_call 59; go_loud (refine (node_empty.calls f1 false _ (by rw [empty_f f1, HT.out])).mono ?_; rintro e w1 ⟨rfl, hd⟩; have hb := Drawn0.below hd))
    go_ret
    exact ⟨by simp, (((Below.refl _ _).alloc (Nat.le_refl _) _).alloc (by simp) _).drew.trans ⟨hb.os, hb.tape, hb.output, hb.size, fun k hk => hb.block k (by simp; omega)⟩⟩
  | true =>
    have HT := Aside0.mk hT
    clear hT
    by_cases h2 : f2 = 0
    · subst h2
      by_cases h3 : n = 3
      · subst h3
        go_enter Tryd.func65, Tryd.ntmps65
        go_wp2_with fail
        go_region
        go_wp2_with (go_at_call 59; go_loud (refine (node_empty.calls f1 true _ (by rw [empty_f f1, HT.out])).mono ?_; rintro e w1 ⟨rfl, hd⟩; have hb := Drawn0.below hd; have HB1 := (hb.block w.heap.size (by simp; omega)).trans (alloc2_fst w (.cells #[.int .i64 9, .string f1, .int .i64 0, .slice A 3 c] 24) (.cells #[.string ⟨#[98, 111, 116, 104]⟩, .func (.func 59) #[] #[], .int .i64 3] 79)); have HB2 := (hb.block (w.heap.size + 1) (by simp)).trans (alloc2_snd w (.cells #[.int .i64 9, .string f1, .int .i64 0, .slice A 3 c] 24) (.cells #[.string ⟨#[98, 111, 116, 104]⟩, .func (.func 59) #[] #[], .int .i64 3] 79)); have b2 := blk_cell HB1 2; have b3 := blk_cell HB1 3; have b4 := blk_cell HB2 2; clear HB1 HB2))
        go_ret
        exact ⟨by simp, (((Below.refl _ _).alloc (Nat.le_refl _) _).alloc (by simp) _).drew.trans ⟨hb.os, hb.tape, hb.output, hb.size, fun k hk => hb.block k (by simp; omega)⟩⟩
      · have h3b : ((n : Int) == 3) = false := beq_eq_false_iff_ne.2 (by omega)
        have H3 := Aside0.mk h3
        clear h3
        go_enter Tryd.func65, Tryd.ntmps65
        go_wp2_with fail
        go_region
        go_wp2_with (go_at_call 59; go_loud (refine (node_empty.calls f1 true _ (by rw [empty_f f1, HT.out])).mono ?_; rintro e w1 ⟨rfl, hd⟩; have hb := Drawn0.below hd; have HB1 := (hb.block w.heap.size (by simp; omega)).trans (alloc2_fst w (.cells #[.int .i64 9, .string f1, .int .i64 0, .slice A n c] 24) (.cells #[.string ⟨#[98, 111, 116, 104]⟩, .func (.func 59) #[] #[], .int .i64 3] 79)); have HB2 := (hb.block (w.heap.size + 1) (by simp)).trans (alloc2_snd w (.cells #[.int .i64 9, .string f1, .int .i64 0, .slice A n c] 24) (.cells #[.string ⟨#[98, 111, 116, 104]⟩, .func (.func 59) #[] #[], .int .i64 3] 79)); have b2 := blk_cell HB1 2; have b3 := blk_cell HB1 3; have b4 := blk_cell HB2 2; clear HB1 HB2))
        go_ret
        exact ⟨by simp [H3.out], (((Below.refl _ _).alloc (Nat.le_refl _) _).alloc (by simp) _).drew.trans ⟨hb.os, hb.tape, hb.output, hb.size, fun k hk => hb.block k (by simp; omega)⟩⟩
    · have h2b : (f2 == 0) = false := beq_eq_false_iff_ne.2 h2
      have H2 := Aside0.mk h2
      clear h2
      go_enter Tryd.func65, Tryd.ntmps65
      go_wp2_with fail
      go_region
      go_wp2_with (go_at_call 59; go_loud (refine (node_empty.calls f1 true _ (by rw [empty_f f1, HT.out])).mono ?_; rintro e w1 ⟨rfl, hd⟩; have hb := Drawn0.below hd; have HB1 := (hb.block w.heap.size (by simp; omega)).trans (alloc2_fst w (.cells #[.int .i64 9, .string f1, .int .i64 f2, .slice A n c] 24) (.cells #[.string ⟨#[98, 111, 116, 104]⟩, .func (.func 59) #[] #[], .int .i64 3] 79)); have HB2 := (hb.block (w.heap.size + 1) (by simp)).trans (alloc2_snd w (.cells #[.int .i64 9, .string f1, .int .i64 f2, .slice A n c] 24) (.cells #[.string ⟨#[98, 111, 116, 104]⟩, .func (.func 59) #[] #[], .int .i64 3] 79)); have b2 := blk_cell HB1 2; have b3 := blk_cell HB1 3; have b4 := blk_cell HB2 2; clear HB1 HB2))
      go_ret
      exact ⟨by simp [H2.out], (((Below.refl _ _).alloc (Nat.le_refl _) _).alloc (by simp) _).drew.trans ⟨hb.os, hb.tape, hb.output, hb.size, fun k hk => hb.block k (by simp; omega)⟩⟩
set_option maxRecDepth 100000 in
set_option maxHeartbeats 1000000 in
theorem shape_10 (f1 : ByteArray) (f2 : Int) (A : Option Addr) (n c gC gF : Nat) (w : World) (hf1 : f1.data.toList.length ≤ 9223372036854775807) (hn : n ≤ 9223372036854775807) (hC : w.cell? ⟨gC, 0, none⟩ = some (.slice (some ⟨gF, 0, none⟩) 13 13)) (hF : w.heap[gF]? = some (.cells FORMS 79 (0, 0))) :
    Calls Tryd.prog 65 #[.pointer (some ⟨gC, 0, none⟩), .agg #[.int .i64 10, .string f1, .int .i64 f2, .slice A n c]] w fun e w' => e = .returned (.bool (accL f1.data.toList && (decide (f2 = 0) && decide (n = 1)))) ∧ Below w.heap.size w w' := by
  have hgF := blk_lt hF
  have hgC := World.block_lt_of_cell? w _ hC
  have e0 : w.cell? ⟨gF, 30, none⟩ = some (.string ⟨#[97, 99, 99, 101, 110, 116]⟩) := blk_cell hF 30
  have e1 : w.cell? ⟨gF, 31, none⟩ = some (.func (.func 63) #[] #[]) := blk_cell hF 31
  have e2 : w.cell? ⟨gF, 32, none⟩ = some (.int .i64 1) := blk_cell hF 32
  clear hF
  cases hT : accL f1.data.toList with
  | false =>
    have HT := Aside0.mk hT
    clear hT
    go_enter Tryd.func65, Tryd.ntmps65
    go_wp2_with fail
    go_region
    go_wp2_with (go_at_call 63; go_loud (refine (node_accent.calls 7 f1 false _ (by rw [accent_f f1 7 (by decide), HT.out])).mono ?_; rintro e w1 ⟨rfl, hb⟩))
    go_ret
    exact ⟨by simp, (((Below.refl _ _).alloc (Nat.le_refl _) _).alloc (by simp) _).drew.trans ⟨hb.os, hb.tape, hb.output, hb.size, fun k hk => hb.block k (by simp; omega)⟩⟩
  | true =>
    have HT := Aside0.mk hT
    clear hT
    by_cases h2 : f2 = 0
    · subst h2
      by_cases h3 : n = 1
      · subst h3
        go_enter Tryd.func65, Tryd.ntmps65
        go_wp2_with fail
        go_region
        go_wp2_with (go_at_call 63; go_loud (refine (node_accent.calls 7 f1 true _ (by rw [accent_f f1 7 (by decide), HT.out])).mono ?_; rintro e w1 ⟨rfl, hb⟩; have HB1 := (hb.block w.heap.size (by simp; omega)).trans (alloc2_fst w (.cells #[.int .i64 10, .string f1, .int .i64 0, .slice A 1 c] 24) (.cells #[.string ⟨#[97, 99, 99, 101, 110, 116]⟩, .func (.func 63) #[] #[], .int .i64 1] 79)); have HB2 := (hb.block (w.heap.size + 1) (by simp)).trans (alloc2_snd w (.cells #[.int .i64 10, .string f1, .int .i64 0, .slice A 1 c] 24) (.cells #[.string ⟨#[97, 99, 99, 101, 110, 116]⟩, .func (.func 63) #[] #[], .int .i64 1] 79)); have b2 := blk_cell HB1 2; have b3 := blk_cell HB1 3; have b4 := blk_cell HB2 2; clear HB1 HB2))
        go_ret
        exact ⟨by simp, (((Below.refl _ _).alloc (Nat.le_refl _) _).alloc (by simp) _).drew.trans ⟨hb.os, hb.tape, hb.output, hb.size, fun k hk => hb.block k (by simp; omega)⟩⟩
      · have h3b : ((n : Int) == 1) = false := beq_eq_false_iff_ne.2 (by omega)
        have H3 := Aside0.mk h3
        clear h3
        go_enter Tryd.func65, Tryd.ntmps65
        go_wp2_with fail
        go_region
        go_wp2_with (go_at_call 63; go_loud (refine (node_accent.calls 7 f1 true _ (by rw [accent_f f1 7 (by decide), HT.out])).mono ?_; rintro e w1 ⟨rfl, hb⟩; have HB1 := (hb.block w.heap.size (by simp; omega)).trans (alloc2_fst w (.cells #[.int .i64 10, .string f1, .int .i64 0, .slice A n c] 24) (.cells #[.string ⟨#[97, 99, 99, 101, 110, 116]⟩, .func (.func 63) #[] #[], .int .i64 1] 79)); have HB2 := (hb.block (w.heap.size + 1) (by simp)).trans (alloc2_snd w (.cells #[.int .i64 10, .string f1, .int .i64 0, .slice A n c] 24) (.cells #[.string ⟨#[97, 99, 99, 101, 110, 116]⟩, .func (.func 63) #[] #[], .int .i64 1] 79)); have b2 := blk_cell HB1 2; have b3 := blk_cell HB1 3; have b4 := blk_cell HB2 2; clear HB1 HB2))
        go_ret
        exact ⟨by simp [H3.out], (((Below.refl _ _).alloc (Nat.le_refl _) _).alloc (by simp) _).drew.trans ⟨hb.os, hb.tape, hb.output, hb.size, fun k hk => hb.block k (by simp; omega)⟩⟩
    · have h2b : (f2 == 0) = false := beq_eq_false_iff_ne.2 h2
      have H2 := Aside0.mk h2
      clear h2
      go_enter Tryd.func65, Tryd.ntmps65
      go_wp2_with fail
      go_region
      go_wp2_with (go_at_call 63; go_loud (refine (node_accent.calls 7 f1 true _ (by rw [accent_f f1 7 (by decide), HT.out])).mono ?_; rintro e w1 ⟨rfl, hb⟩; have HB1 := (hb.block w.heap.size (by simp; omega)).trans (alloc2_fst w (.cells #[.int .i64 10, .string f1, .int .i64 f2, .slice A n c] 24) (.cells #[.string ⟨#[97, 99, 99, 101, 110, 116]⟩, .func (.func 63) #[] #[], .int .i64 1] 79)); have HB2 := (hb.block (w.heap.size + 1) (by simp)).trans (alloc2_snd w (.cells #[.int .i64 10, .string f1, .int .i64 f2, .slice A n c] 24) (.cells #[.string ⟨#[97, 99, 99, 101, 110, 116]⟩, .func (.func 63) #[] #[], .int .i64 1] 79)); have b2 := blk_cell HB1 2; have b3 := blk_cell HB1 3; have b4 := blk_cell HB2 2; clear HB1 HB2))
      go_ret
      exact ⟨by simp [H2.out], (((Below.refl _ _).alloc (Nat.le_refl _) _).alloc (by simp) _).drew.trans ⟨hb.os, hb.tape, hb.output, hb.size, fun k hk => hb.block k (by simp; omega)⟩⟩
set_option maxRecDepth 100000 in
set_option maxHeartbeats 1000000 in
theorem shape_11 (f1 : ByteArray) (f2 : Int) (A : Option Addr) (n c gC gF : Nat) (w : World) (hf1 : f1.data.toList.length ≤ 9223372036854775807) (hn : n ≤ 9223372036854775807) (hC : w.cell? ⟨gC, 0, none⟩ = some (.slice (some ⟨gF, 0, none⟩) 13 13)) (hF : w.heap[gF]? = some (.cells FORMS 79 (0, 0))) :
    Calls Tryd.prog 65 #[.pointer (some ⟨gC, 0, none⟩), .agg #[.int .i64 11, .string f1, .int .i64 f2, .slice A n c]] w fun e w' => e = .returned (.bool (fenceL f1.data.toList && (decide (f2 = 0) && decide (n = 1)))) ∧ Below w.heap.size w w' := by
  have hgF := blk_lt hF
  have hgC := World.block_lt_of_cell? w _ hC
  have e0 : w.cell? ⟨gF, 33, none⟩ = some (.string ⟨#[102, 101, 110, 99, 101]⟩) := blk_cell hF 33
  have e1 : w.cell? ⟨gF, 34, none⟩ = some (.func (.func 64) #[] #[]) := blk_cell hF 34
  have e2 : w.cell? ⟨gF, 35, none⟩ = some (.int .i64 1) := blk_cell hF 35
  clear hF
  cases hT : fenceL f1.data.toList with
  | false =>
    have HT := Aside0.mk hT
    clear hT
    go_enter Tryd.func65, Tryd.ntmps65
    go_wp2_with fail
    go_region
    go_wp2_with (go_at_call 64; go_loud (refine (node_fence.calls f1 false _ (by rw [fence_f f1, HT.out])).mono ?_; rintro e w1 ⟨rfl, hd⟩; have hb := Drawn0.below hd))
    go_ret
    exact ⟨by simp, (((Below.refl _ _).alloc (Nat.le_refl _) _).alloc (by simp) _).drew.trans ⟨hb.os, hb.tape, hb.output, hb.size, fun k hk => hb.block k (by simp; omega)⟩⟩
  | true =>
    have HT := Aside0.mk hT
    clear hT
    by_cases h2 : f2 = 0
    · subst h2
      by_cases h3 : n = 1
      · subst h3
        go_enter Tryd.func65, Tryd.ntmps65
        go_wp2_with fail
        go_region
        go_wp2_with (go_at_call 64; go_loud (refine (node_fence.calls f1 true _ (by rw [fence_f f1, HT.out])).mono ?_; rintro e w1 ⟨rfl, hd⟩; have hb := Drawn0.below hd; have HB1 := (hb.block w.heap.size (by simp; omega)).trans (alloc2_fst w (.cells #[.int .i64 11, .string f1, .int .i64 0, .slice A 1 c] 24) (.cells #[.string ⟨#[102, 101, 110, 99, 101]⟩, .func (.func 64) #[] #[], .int .i64 1] 79)); have HB2 := (hb.block (w.heap.size + 1) (by simp)).trans (alloc2_snd w (.cells #[.int .i64 11, .string f1, .int .i64 0, .slice A 1 c] 24) (.cells #[.string ⟨#[102, 101, 110, 99, 101]⟩, .func (.func 64) #[] #[], .int .i64 1] 79)); have b2 := blk_cell HB1 2; have b3 := blk_cell HB1 3; have b4 := blk_cell HB2 2; clear HB1 HB2))
        go_ret
        exact ⟨by simp, (((Below.refl _ _).alloc (Nat.le_refl _) _).alloc (by simp) _).drew.trans ⟨hb.os, hb.tape, hb.output, hb.size, fun k hk => hb.block k (by simp; omega)⟩⟩
      · have h3b : ((n : Int) == 1) = false := beq_eq_false_iff_ne.2 (by omega)
        have H3 := Aside0.mk h3
        clear h3
        go_enter Tryd.func65, Tryd.ntmps65
        go_wp2_with fail
        go_region
        go_wp2_with (go_at_call 64; go_loud (refine (node_fence.calls f1 true _ (by rw [fence_f f1, HT.out])).mono ?_; rintro e w1 ⟨rfl, hd⟩; have hb := Drawn0.below hd; have HB1 := (hb.block w.heap.size (by simp; omega)).trans (alloc2_fst w (.cells #[.int .i64 11, .string f1, .int .i64 0, .slice A n c] 24) (.cells #[.string ⟨#[102, 101, 110, 99, 101]⟩, .func (.func 64) #[] #[], .int .i64 1] 79)); have HB2 := (hb.block (w.heap.size + 1) (by simp)).trans (alloc2_snd w (.cells #[.int .i64 11, .string f1, .int .i64 0, .slice A n c] 24) (.cells #[.string ⟨#[102, 101, 110, 99, 101]⟩, .func (.func 64) #[] #[], .int .i64 1] 79)); have b2 := blk_cell HB1 2; have b3 := blk_cell HB1 3; have b4 := blk_cell HB2 2; clear HB1 HB2))
        go_ret
        exact ⟨by simp [H3.out], (((Below.refl _ _).alloc (Nat.le_refl _) _).alloc (by simp) _).drew.trans ⟨hb.os, hb.tape, hb.output, hb.size, fun k hk => hb.block k (by simp; omega)⟩⟩
    · have h2b : (f2 == 0) = false := beq_eq_false_iff_ne.2 h2
      have H2 := Aside0.mk h2
      clear h2
      go_enter Tryd.func65, Tryd.ntmps65
      go_wp2_with fail
      go_region
      go_wp2_with (go_at_call 64; go_loud (refine (node_fence.calls f1 true _ (by rw [fence_f f1, HT.out])).mono ?_; rintro e w1 ⟨rfl, hd⟩; have hb := Drawn0.below hd; have HB1 := (hb.block w.heap.size (by simp; omega)).trans (alloc2_fst w (.cells #[.int .i64 11, .string f1, .int .i64 f2, .slice A n c] 24) (.cells #[.string ⟨#[102, 101, 110, 99, 101]⟩, .func (.func 64) #[] #[], .int .i64 1] 79)); have HB2 := (hb.block (w.heap.size + 1) (by simp)).trans (alloc2_snd w (.cells #[.int .i64 11, .string f1, .int .i64 f2, .slice A n c] 24) (.cells #[.string ⟨#[102, 101, 110, 99, 101]⟩, .func (.func 64) #[] #[], .int .i64 1] 79)); have b2 := blk_cell HB1 2; have b3 := blk_cell HB1 3; have b4 := blk_cell HB2 2; clear HB1 HB2))
      go_ret
      exact ⟨by simp [H2.out], (((Below.refl _ _).alloc (Nat.le_refl _) _).alloc (by simp) _).drew.trans ⟨hb.os, hb.tape, hb.output, hb.size, fun k hk => hb.block k (by simp; omega)⟩⟩
end Go.Proofs.YtgcpfelccfnnbaaDoor.X
namespace Go.Proofs.YtgcpfelccfnnbaaDoor.X
open Go.RowKit Go.Proofs.YtgcpfelccfnnbaaDoorW.PrintWords Go.Proofs.YtgcpfelccfnnbaaDoorW.PrintLast Go.Proofs.YtgcpfelccfnnbaaDoorW.PrintMore
attribute [local go_sem] max2_int min2_int max_two min_two max_three min_three max_four min_four   -- for this text's walks alone
set_option linter.unusedVariables false
set_option linter.unusedSimpArgs false
set_option maxRecDepth 100000 in
set_option maxHeartbeats 1000000 in
theorem shape_out (k : Int) (f1 : ByteArray) (f2 : Int) (A : Option Addr) (n c gC : Nat) (w : World) (hk : k < 1 ∨ 12 < k) :
    Calls Tryd.prog 65 #[.pointer (some ⟨gC, 0, none⟩), .agg #[.int .i64 k, .string f1, .int .i64 f2, .slice A n c]] w fun e w' => e = .returned (.bool false) ∧ Below w.heap.size w w' := by
  by_cases h1 : k < 1
  · go_enter Tryd.func65, Tryd.ntmps65
    go_wp2
    go_ret
    exact ⟨rfl, (Below.refl _ _).alloc (Nat.le_refl _) _⟩
  · have h2 : 12 < k := by omega
    clear hk
    go_enter Tryd.func65, Tryd.ntmps65
    go_wp2
    go_ret
    exact ⟨rfl, (Below.refl _ _).alloc (Nat.le_refl _) _⟩
theorem ba_empty {s : ByteArray} (h : s.data.toList = []) : s = ⟨#[]⟩ := by
  obtain ⟨⟨l⟩⟩ := s
  simp at h
  subst h
  rfl
theorem belowE {w : World} (o1 o2 : Obj) : Below w.heap.size w ((w.alloc o1).alloc o2).drew := (((Below.refl _ _).alloc (Nat.le_refl _) _).alloc (by simp) _).drew
set_option maxRecDepth 100000 in
set_option maxHeartbeats 1000000 in
theorem shape_1 (f1 : ByteArray) (f2 : Int) (A : Option Addr) (n c gC gF : Nat) (w : World) (hn : n ≤ 9223372036854775807) (hC : w.cell? ⟨gC, 0, none⟩ = some (.slice (some ⟨gF, 0, none⟩) 13 13)) (hF : w.heap[gF]? = some (.cells FORMS 79 (0, 0))) :
    Calls Tryd.prog 65 #[.pointer (some ⟨gC, 0, none⟩), .agg #[.int .i64 1, .string f1, .int .i64 f2, .slice A n c]] w fun e w' => e = .returned (.bool (f1.data.toList.isEmpty && (decide (f2 = 0) && decide (n ≤ 200)))) ∧ Below w.heap.size w w' := by
  have hgF := blk_lt hF
  have hgC := World.block_lt_of_cell? w _ hC
  have e0 : w.cell? ⟨gF, 3, none⟩ = some (.string ⟨#[114, 111, 119]⟩) := blk_cell hF 3
  have e1 : w.cell? ⟨gF, 4, none⟩ = some (.func (.func 59) #[] #[]) := blk_cell hF 4
  have e2 : w.cell? ⟨gF, 5, none⟩ = some (.int .i64 (-1)) := blk_cell hF 5
  clear hF
  by_cases h1 : f1.data.toList = []
  · have := ba_empty h1
    subst this
    clear h1
    by_cases h2 : f2 = 0
    · subst h2
      by_cases h3 : n ≤ 200
      · go_enter Tryd.func65, Tryd.ntmps65
        go_wp2_with fail
        go_region
        go_wp2
        go_ret
        exact ⟨by simp [h3]; omega, belowE _ _⟩
      · have h3b : decide ((n : Int) ≤ 200) = false := decide_eq_false (by omega)
        have H3 := Aside0.mk h3
        clear h3
        go_enter Tryd.func65, Tryd.ntmps65
        go_wp2_with fail
        go_region
        go_wp2
        go_ret
        exact ⟨by simp [H3.out], belowE _ _⟩
    · have h2b : (f2 == 0) = false := beq_eq_false_iff_ne.2 h2
      have H2 := Aside0.mk h2
      clear h2
      go_enter Tryd.func65, Tryd.ntmps65
      go_wp2_with fail
      go_region
      go_wp2
      go_ret
      exact ⟨by simp [H2.out], belowE _ _⟩
  · have h1b : (f1.toList == []) = false := by rw [ba_toList]; simpa using h1
    have h1c : f1.toList.isEmpty = false := by rw [ba_toList]; simpa using h1
    have H1 : Aside0 (f1.data.toList.isEmpty = false) := ⟨by simpa using h1⟩
    clear h1
    go_enter Tryd.func65, Tryd.ntmps65
    go_wp2_with fail
    go_region
    go_wp2
    go_ret
    exact ⟨by rw [H1.out]; rfl, belowE _ _⟩
set_option maxRecDepth 100000 in
set_option maxHeartbeats 1000000 in
theorem shape_12 (f1 : ByteArray) (f2 : Int) (A : Option Addr) (n c gC gF : Nat) (w : World) (hn : n ≤ 9223372036854775807) (hC : w.cell? ⟨gC, 0, none⟩ = some (.slice (some ⟨gF, 0, none⟩) 13 13)) (hF : w.heap[gF]? = some (.cells FORMS 79 (0, 0))) :
    Calls Tryd.prog 65 #[.pointer (some ⟨gC, 0, none⟩), .agg #[.int .i64 12, .string f1, .int .i64 f2, .slice A n c]] w fun e w' => e = .returned (.bool (f1.data.toList.isEmpty && (decide (1 ≤ f2) && (decide (f2 ≤ 16) && (decide (1 ≤ n) && (decide (n ≤ 256) && decide ((n : Int) % f2 = 0))))))) ∧ Below w.heap.size w w' := by
  have hgF := blk_lt hF
  have hgC := World.block_lt_of_cell? w _ hC
  have e0 : w.cell? ⟨gF, 36, none⟩ = some (.string ⟨#[109, 97, 116, 114, 105, 120]⟩) := blk_cell hF 36
  have e1 : w.cell? ⟨gF, 37, none⟩ = some (.func (.func 59) #[] #[]) := blk_cell hF 37
  have e2 : w.cell? ⟨gF, 38, none⟩ = some (.int .i64 (-1)) := blk_cell hF 38
  clear hF
  by_cases h1 : f1.data.toList = []
  · have := ba_empty h1
    subst this
    clear h1
    by_cases h2 : 1 ≤ f2
    · by_cases h3 : f2 ≤ 16
      · by_cases h4 : 1 ≤ n
        · by_cases h5 : n ≤ 256
          · go_enter Tryd.func65, Tryd.ntmps65
            go_wp2_with fail
            go_region
            go_wp2
            go_ret
            refine ⟨?_, belowE _ _⟩
            show Ending.returned (.bool ((n : Int) % f2 == 0)) = _
            rw [decide_eq_true (p := 1 ≤ f2) (by omega), decide_eq_true (p := f2 ≤ 16) (by omega), decide_eq_true (p := 1 ≤ n) (by omega), decide_eq_true (p := n ≤ 256) (by omega)]
            rfl
          · have h5b : decide ((n : Int) ≤ 256) = false := decide_eq_false (by omega)
            have H5 := Aside0.mk h5
            clear h5
            go_enter Tryd.func65, Tryd.ntmps65
            go_wp2_with fail
            go_region
            go_wp2
            go_ret
            exact ⟨by simp [H5.out], belowE _ _⟩
        · have h4b : decide (1 ≤ (n : Int)) = false := decide_eq_false (by omega)
          have h4c : n = 0 := by omega
          subst h4c
          clear h4
          go_enter Tryd.func65, Tryd.ntmps65
          go_wp2_with fail
          go_region
          go_wp2
          go_ret
          exact ⟨by simp, belowE _ _⟩
      · go_enter Tryd.func65, Tryd.ntmps65
        go_wp2_with fail
        go_region
        go_wp2
        go_ret
        exact ⟨by simp; intro h; omega, belowE _ _⟩
    · go_enter Tryd.func65, Tryd.ntmps65
      go_wp2_with fail
      go_region
      go_wp2
      go_ret
      exact ⟨by simp; intro h; omega, belowE _ _⟩
  · have h1b : (f1.toList == []) = false := by rw [ba_toList]; simpa using h1
    have h1c : f1.toList.isEmpty = false := by rw [ba_toList]; simpa using h1
    have H1 : Aside0 (f1.data.toList.isEmpty = false) := ⟨by simpa using h1⟩
    clear h1
    go_enter Tryd.func65, Tryd.ntmps65
    go_wp2_with fail
    go_region
    go_wp2
    go_ret
    exact ⟨by rw [H1.out]; rfl, belowE _ _⟩
/-- The shape of a node: kind, text, columns, number of kids. -/
def shapeB (k : Int) (t : List UInt8) (c : Int) (n : Nat) : Bool :=
  if k = 1 then t.isEmpty && (decide (c = 0) && decide (n ≤ 200))
  else if k = 2 then symL t && (decide (c = 0) && decide (n = 0))
  else if k = 3 then numL t && (decide (c = 0) && decide (n = 0))
  else if k = 4 then printL t && (decide (c = 0) && decide (n = 0))
  else if k = 5 ∨ k = 6 ∨ k = 7 ∨ k = 8 then t.isEmpty && (decide (c = 0) && decide (n = 2))
  else if k = 9 then t.isEmpty && (decide (c = 0) && decide (n = 3))
  else if k = 10 then accL t && (decide (c = 0) && decide (n = 1))
  else if k = 11 then fenceL t && (decide (c = 0) && decide (n = 1))
  else if k = 12 then t.isEmpty && (decide (1 ≤ c) && (decide (c ≤ 16) && (decide (1 ≤ n) && (decide (n ≤ 256) && decide ((n : Int) % c = 0)))))
  else false
theorem shape_any (k : Int) (f1 : ByteArray) (f2 : Int) (A : Option Addr) (n c gC gF : Nat) (w : World) (hf1 : f1.data.toList.length ≤ 9223372036854775807) (hn : n ≤ 9223372036854775807) (hC : w.cell? ⟨gC, 0, none⟩ = some (.slice (some ⟨gF, 0, none⟩) 13 13)) (hF : w.heap[gF]? = some (.cells FORMS 79 (0, 0))) :
    Calls Tryd.prog 65 #[.pointer (some ⟨gC, 0, none⟩), .agg #[.int .i64 k, .string f1, .int .i64 f2, .slice A n c]] w fun e w' => e = .returned (.bool (shapeB k f1.data.toList f2 n)) ∧ Below w.heap.size w w' := by
  unfold shapeB
  by_cases h : k < 1 ∨ 12 < k
  · have h0 := shape_out k f1 f2 A n c gC w h
    rw [if_neg (by omega), if_neg (by omega), if_neg (by omega), if_neg (by omega), if_neg (by omega), if_neg (by omega), if_neg (by omega), if_neg (by omega), if_neg (by omega)]
    exact h0
  · have : k = 1 ∨ k = 2 ∨ k = 3 ∨ k = 4 ∨ k = 5 ∨ k = 6 ∨ k = 7 ∨ k = 8 ∨ k = 9 ∨ k = 10 ∨ k = 11 ∨ k = 12 := by omega
    rcases this with rfl | rfl | rfl | rfl | rfl | rfl | rfl | rfl | rfl | rfl | rfl | rfl
    · exact shape_1 f1 f2 A n c gC gF w hn hC hF
    · exact shape_2 f1 f2 A n c gC gF w hf1 hn hC hF
    · exact shape_3 f1 f2 A n c gC gF w hf1 hn hC hF
    · exact shape_4 f1 f2 A n c gC gF w hf1 hn hC hF
    · exact shape_5 f1 f2 A n c gC gF w hf1 hn hC hF
    · exact shape_6 f1 f2 A n c gC gF w hf1 hn hC hF
    · exact shape_7 f1 f2 A n c gC gF w hf1 hn hC hF
    · exact shape_8 f1 f2 A n c gC gF w hf1 hn hC hF
    · exact shape_9 f1 f2 A n c gC gF w hf1 hn hC hF
    · exact shape_10 f1 f2 A n c gC gF w hf1 hn hC hF
    · exact shape_11 f1 f2 A n c gC gF w hf1 hn hC hF
    · exact shape_12 f1 f2 A n c gC gF w hn hC hF
end Go.Proofs.YtgcpfelccfnnbaaDoor.X
namespace Go.Proofs.YtgcpfelccfnnbaaDoor.X
open Go.RowKit Go.Proofs.YtgcpfelccfnnbaaDoorW.PrintWords Go.Proofs.YtgcpfelccfnnbaaDoorW.PrintLast Go.Proofs.YtgcpfelccfnnbaaDoorW.PrintMore
attribute [local go_sem] max2_int min2_int max_two min_two max_three min_three max_four min_four   -- for this text's walks alone
set_option linter.unusedVariables false
set_option linter.unusedSimpArgs false
mutual
def chk : S24 → Nat → Nat → Option Nat
  | ⟨k, t, c, l⟩, left, depth => if left = 0 then none else if depth = 0 then none else if shapeB k t.data.toList c l.length = true then chkL l k (left - 1) (depth - 1) else none
def chkL : List S24 → Int → Nat → Nat → Option Nat
  | [], _, left, _ => some left
  | x :: l, k, left, depth => if decide (x.f0 = 1) = decide (k = 1) then none else (chk x left depth).bind fun left' => chkL l k left' depth
end
def CheckPost (gC gF : Nat) (w : World) (r : Option Nat) (e : Ending) (w' : World) : Prop :=
  w.grownBy w' (some gC) ∧ match r with
  | none => e = .returned (.bool false) ∧ ∃ z : Int, w'.heap[gC]? = some (.cells #[.slice (some ⟨gF, 0, none⟩) 13 13, .int .i64 z] 67 (0, 0))
  | some lf => e = .returned (.bool true) ∧ w'.heap[gC]? = some (.cells #[.slice (some ⟨gF, 0, none⟩) 13 13, .int .i64 (lf : Int)] 67 (0, 0))
mutual
theorem chk_le : ∀ {x : S24} {left depth lf : Nat}, chk x left depth = some lf → lf ≤ left
  | ⟨k, t, c, l⟩, left, depth, lf, h => by
    rw [chk] at h
    split at h
    · cases h
    · split at h
      · cases h
      · split at h
        · have := chkL_le h; omega
        · cases h
theorem chkL_le : ∀ {l : List S24} {k : Int} {left depth lf : Nat}, chkL l k left depth = some lf → lf ≤ left
  | [], k, left, depth, lf, h => by
    rw [chkL] at h
    injection h with h
    omega
  | x :: l, k, left, depth, lf, h => by
    rw [chkL] at h
    split at h
    · cases h
    · obtain ⟨l1, h1, h2⟩ := Option.bind_eq_some_iff.1 h
      have := chk_le h1
      have := chkL_le h2
      omega
end
set_option maxRecDepth 100000 in
set_option maxHeartbeats 2000000 in
theorem check_any (gC gF : Nat) (hne : gC ≠ gF) (N : Nat) : ∀ (x : S24) (A : Option Addr) (c left depth : Nat) (P : Nat → Prop) (w : World), cnt x ≤ N → fine x = true → left ≤ 1000 → depth ≤ 24 → x.f3.length ≤ c → Kd.F k24 w P A x.f3.length x.f3 → (∀ k, P k → k ≠ gC) →
    w.heap[gC]? = some (.cells #[.slice (some ⟨gF, 0, none⟩) 13 13, .int .i64 (left : Int)] 67 (0, 0)) → w.heap[gF]? = some (.cells FORMS 79 (0, 0)) →
    Calls Tryd.prog 43 #[.pointer (some ⟨gC, 0, none⟩), .agg #[.int .i64 x.f0, .string x.f1, .int .i64 x.f2, .slice A x.f3.length c], .int .i64 depth] w (CheckPost gC gF w (chk x left depth)) := by
  induction N with
  | zero => intro x A c left depth P w h; have := cnt_pos x; omega
  | succ N ih =>
  intro x A c left depth P w hN hfine hleft hdepth hc hF hP hC hFo
  have hsub : ∀ i, i < x.f3.length → cnt (nth x.f3 i) ≤ N ∧ fine (nth x.f3 i) = true := fun i hi => by
    have h1 := cntL_get (nth_some hi)
    have h2 := cnt_eq x
    rw [fine_eq, Bool.and_eq_true] at hfine
    exact ⟨by omega, fineL_get (nth_some hi) hfine.2⟩
  have htxt : x.f1.data.toList.length ≤ 9223372036854775807 := by
    rw [fine_eq, Bool.and_eq_true] at hfine
    exact of_decide_eq_true hfine.1
  have hlen := Kd.F_max hF
  obtain ⟨f0, f1, f2, l⟩ := x
  simp only at hsub htxt hlen hF hc ⊢
  have HS := Aside0.mk hsub
  clear hsub hfine hN
  have HFO := Aside0.mk hFo
  have HC := Aside0.mk hC
  have HP := Aside0.mk hP
  have hgC := blk_lt hC
  have hgF := blk_lt hFo
  have c1 := blk_cell hC 1
  have c0 := blk_cell hC 0
  have z1 := blk_frozen hC 1
  clear hC hFo hP
  have HG : ∀ z : Value, Aside0 ((((w.setCell ⟨gC, 1, none⟩ z).alloc (.cells #[.int .i64 f0, .string f1, .int .i64 f2, .slice A l.length c] 24))).heap[gC]? = some (.cells #[.slice (some ⟨gF, 0, none⟩) 13 13, z] 67 (0, 0))) := fun z => ⟨blk_alloc (blk_put HC.out 1 z rfl) _⟩
  have HW : ∀ z : Value, Aside0 (w.grownBy ((w.setCell ⟨gC, 1, none⟩ z).alloc (.cells #[.int .i64 f0, .string f1, .int .i64 f2, .slice A l.length c] 24)) (some gC)) := fun z => ⟨by
    refine ⟨rfl, rfl, rfl, by simp, fun i hi hne => ?_⟩
    rw [Below.heap_alloc _ _ _ (by simpa using hi), Below.heap_setCell _ _ _ _ (fun e => hne (by rw [e]))]⟩
  by_cases hl0 : left = 0
  · subst hl0
    have HR : Aside0 (chk ⟨f0, f1, f2, l⟩ 0 depth = none) := ⟨by simp [chk]⟩
    go_enter Tryd.func43, Tryd.ntmps43
    go_wp2
    go_ret
    rw [HR.out]
    exact ⟨(HW _).out, rfl, _, (HG _).out⟩
  · obtain ⟨m, rfl⟩ : ∃ m, left = m + 1 := ⟨left - 1, by omega⟩
    have hm : m ≤ 999 := by omega
    clear hl0 hleft
    have ec : ((m + 1 : Nat) : Int) = (m : Int) + 1 := by omega
    rw [ec] at c1
    clear ec
    by_cases hd0 : depth = 0
    · subst hd0
      have HR : Aside0 (chk ⟨f0, f1, f2, l⟩ (m + 1) 0 = none) := ⟨by simp [chk]⟩
      go_enter Tryd.func43, Tryd.ntmps43
      go_wp2
      go_ret
      rw [HR.out]
      exact ⟨(HW _).out, rfl, _, (HG _).out⟩
    · obtain ⟨d, rfl⟩ : ∃ d, depth = d + 1 := ⟨depth - 1, by omega⟩
      clear hd0
      have hd0b : (((d + 1 : Nat) : Int) == 0) = false := beq_eq_false_iff_ne.2 (by omega)
      have hd0c : ((d : Int) + 1 == 0) = false := beq_eq_false_iff_ne.2 (by omega)
      have hd : d ≤ 23 := by omega
      have hm0 : decide ((m : Int) < 0) = false := decide_eq_false (by omega)
      clear hdepth
      have HS1 := shape_any f0 f1 f2 A l.length c gC gF ((w.setCell ⟨gC, 1, none⟩ (.int .i64 (m : Int))).alloc (.cells #[.int .i64 f0, .string f1, .int .i64 f2, .slice A l.length c] 24)) htxt hlen (blk_cell (HG _).out 0) (blk_alloc (blk_far HFO.out (fun e => hne e.symm) _) _)
      have HSH := Aside0.mk HS1
      clear HS1
      cases hs : shapeB f0 f1.data.toList f2 l.length with
      | false =>
        have HR : Aside0 (chk ⟨f0, f1, f2, l⟩ (m + 1) (d + 1) = none) := ⟨by simp [chk, hs]⟩
        rw [hs] at HSH
        clear hs
        go_enter Tryd.func43, Tryd.ntmps43
        go_wp2_with (go_at_call 65; refine HSH.out.mono ?_; rintro e w1 ⟨rfl, hb⟩)
        go_ret
        rw [HR.out]
        refine ⟨World.grownBy.trans (HW _).out (grown_of_below hb _), rfl, _, (hb.block _ (blk_lt (HG _).out)).trans (HG _).out⟩
      | true =>
        have HR : Aside0 (chk ⟨f0, f1, f2, l⟩ (m + 1) (d + 1) = chkL l f0 m d) := ⟨by simp [chk, hs]⟩
        rw [hs] at HSH
        clear hs
        go_enter Tryd.func43, Tryd.ntmps43
        go_wp2_with (go_at_call 65; go_loud (refine HSH.out.mono ?_; rintro e w1 ⟨rfl, hb⟩; have HB1 : w1.heap[w.heap.size]? = some (.cells #[.int .i64 f0, .string f1, .int .i64 f2, .slice A l.length c] 24 (0, 0)) := (hb.block w.heap.size (by simp)).trans (by have h := heap_alloc_new (w.setCell ⟨gC, 1, none⟩ (.int .i64 (m : Int))) (.cells #[.int .i64 f0, .string f1, .int .i64 f2, .slice A l.length c] 24); simpa using h); have b0 := blk_cell HB1 0; have b3 := blk_cell HB1 3; have HBB := Aside0.mk HB1; clear HB1))
        have HW1 := Aside0.mk (World.grownBy.trans (HW (.int .i64 (m : Int))).out (grown_of_below hb (some gC)))
        have HG1 := Aside0.mk ((hb.block _ (blk_lt (HG (.int .i64 (m : Int))).out)).trans (HG (.int .i64 (m : Int))).out)
        have HFd := Aside0.mk hF
        clear hb b0 b3 HW HG HSH hF c0 c1 z1 hm0
        go_loopg [34] l.length (fun kq v34 wr => ∃ i lf : Nat, v34 = .int .i64 i ∧ Aside0 (i + kq = l.length) ∧ Aside0 (w.grownBy wr (some gC)) ∧ Aside0 (wr.heap[gC]? = some (.cells #[.slice (some ⟨gF, 0, none⟩) 13 13, .int .i64 (lf : Int)] 67 (0, 0))) ∧ Aside0 (wr.heap[w.heap.size]? = some (.cells #[.int .i64 f0, .string f1, .int .i64 f2, .slice A l.length c] 24 (0, 0))) ∧ Aside0 (lf ≤ 1000) ∧ Aside0 (chkL (l.drop i) f0 lf d = chkL l f0 m d))
        case atStart => exact ⟨0, m, rfl, ⟨by omega⟩, HW1, HG1, HBB, ⟨by omega⟩, ⟨by rw [List.drop_zero]⟩⟩
        case round =>
          clear HW1 HG1 HBB
          obtain ⟨i, lf, rfl, HK, HW, HG, HBB, HL, HE⟩ := hrel
          by_cases hlt : i < l.length
          · have hFr := Kd.F_grown HFd.out HW.out (fun k hk he => HP.out k hk (by injection he))
            obtain ⟨ad, cs, rfl, hcl, hFK, hcc, _⟩ := Kd.F_get hFr z24 (i : Int) (by omega) (by omega)
            simp only [Int.toNat_natCast] at hFK hcc
            obtain ⟨A3, c3, rfl, hl3, hF3⟩ := k24_openF hFK
            have hx := nth_some hlt
            have hnx : l.getD i z24 = nth l i := rfl
            rw [hnx] at hcc hl3 hF3
            have HF3 := Aside0.mk hF3
            have HX := Aside0.mk hx
            have e0 : wr.cell? (ad.add (i * 4)) = some (.int .i64 (nth l i).f0) := hcc 0 _ rfl
            have e1 : wr.cell? ⟨(ad.add (i * 4)).block, (ad.add (i * 4)).off + 1, none⟩ = some (.string (nth l i).f1) := by rw [← add_field _ _ 1 (by omega)]; exact hcc 1 _ rfl
            have e2 : wr.cell? ⟨(ad.add (i * 4)).block, (ad.add (i * 4)).off + 2, none⟩ = some (.int .i64 (nth l i).f2) := by rw [← add_field _ _ 2 (by omega)]; exact hcc 2 _ rfl
            have e3 : wr.cell? ⟨(ad.add (i * 4)).block, (ad.add (i * 4)).off + 3, none⟩ = some (.slice A3 (nth l i).f3.length c3) := by rw [← add_field _ _ 3 (by omega)]; exact hcc 3 _ rfl
            have b0 := blk_cell HBB.out 0
            have hBlt := blk_lt HBB.out
            clear hFK hcc hF3 hFr hcl hnx hx
            have hdrop : l.drop i = nth l i :: l.drop (i + 1) := by
              rw [List.drop_eq_getElem_cons hlt]
              congr 1
              have h2 := HX.out
              rw [List.getElem?_eq_getElem hlt] at h2
              injection h2
            have HE2 : Aside0 ((if decide ((nth l i).f0 = 1) = decide (f0 = 1) then none else (chk (nth l i) lf d).bind fun left' => chkL (l.drop (i + 1)) f0 left' d) = chkL l f0 m d) := ⟨by have h2 := HE.out; rw [hdrop] at h2; rw [chkL] at h2; exact h2⟩
            clear hdrop HE
            by_cases hx1 : (nth l i).f0 = 1
            · by_cases hf1 : f0 = 1
              · skip
                have q1 : ((nth l i).f0 == 1) = true := beq_iff_eq.2 hx1
                have q2 : (f0 == 1) = true := beq_iff_eq.2 hf1
                have HI : Aside0 (decide ((nth l i).f0 = 1) = decide (f0 = 1)) := ⟨by rw [decide_eq_true hx1, decide_eq_true hf1]⟩
                clear hx1 hf1
                go_wp2
                go_ret
                rw [HR.out, ← HE2.out, if_pos HI.out]
                exact ⟨World.grownBy.trans HW.out (grown_of_below (below_alloc (Below.refl _ _) _) _), rfl, _, blk_alloc HG.out _⟩
              · skip
                have q1 : ((nth l i).f0 == 1) = true := beq_iff_eq.2 hx1
                have q2 : (f0 == 1) = false := beq_eq_false_iff_ne.2 hf1
                have HI : Aside0 (¬ decide ((nth l i).f0 = 1) = decide (f0 = 1)) := ⟨by rw [decide_eq_true hx1, decide_eq_false hf1]; decide⟩
                clear hx1 hf1
                have hih := ih (nth l i) A3 c3 lf d P (wr.alloc (.cells #[.int .i64 (nth l i).f0, .string (nth l i).f1, .int .i64 (nth l i).f2, .slice A3 (nth l i).f3.length c3] 24)) (HS.out i hlt).1 (HS.out i hlt).2 HL.out (by omega) hl3 (Kd.F_alloc HF3.out _) HP.out (blk_alloc HG.out _) (blk_alloc ((HW.out.block gF hgF (fun e => hne (by injection e with e; exact e.symm))).trans HFO.out) _)
                have HIH := Aside0.mk hih
                clear hih
                cases hck : chk (nth l i) lf d with
                | none =>
                  have HCK := Aside0.mk hck
                  rw [hck] at HIH
                  clear hck
                  go_wp2_with (go_at_call 43; go_loud (refine HIH.out.mono ?_; rintro e w3 ⟨hg3, rfl, z3, hz3⟩))
                  go_ret
                  rw [HR.out, ← HE2.out, if_neg HI.out, HCK.out]
                  exact ⟨World.grownBy.trans (World.grownBy.trans HW.out (grown_of_below (below_alloc (Below.refl _ _) _) _)) hg3, rfl, _, hz3⟩
                | some lf' =>
                  have HCK := Aside0.mk hck
                  rw [hck] at HIH
                  have hle := chk_le hck
                  clear hck
                  go_wp2_with (go_at_call 43; go_loud (refine HIH.out.mono ?_; rintro e w3 ⟨hg3, rfl, hz3⟩))
                  obtain ⟨k', rfl⟩ : ∃ k', gk = k' + 1 := ⟨gk - 1, by have := HK.out; omega⟩
                  have hbb : w3.heap[w.heap.size]? = some (.cells #[.int .i64 f0, .string f1, .int .i64 f2, .slice (some ad) l.length c] 24 (0, 0)) := (hg3.block _ (by simp; omega) (fun e => by injection e with e; omega)).trans (blk_alloc HBB.out _)
                  go_roundg k'
                  case measure => omega
                  case rel => exact ⟨i + 1, lf', by go_num, ⟨by have := HK.out; omega⟩, ⟨World.grownBy.trans (World.grownBy.trans HW.out (grown_of_below (below_alloc (Below.refl _ _) _) _)) hg3⟩, ⟨hz3⟩, ⟨hbb⟩, ⟨by have := HL.out; omega⟩, ⟨by rw [← HE2.out, if_neg HI.out, HCK.out]; rfl⟩⟩
            · by_cases hf1 : f0 = 1
              · skip
                have q1 : ((nth l i).f0 == 1) = false := beq_eq_false_iff_ne.2 hx1
                have q2 : (f0 == 1) = true := beq_iff_eq.2 hf1
                have HI : Aside0 (¬ decide ((nth l i).f0 = 1) = decide (f0 = 1)) := ⟨by rw [decide_eq_false hx1, decide_eq_true hf1]; decide⟩
                clear hx1 hf1
                have hih := ih (nth l i) A3 c3 lf d P (wr.alloc (.cells #[.int .i64 (nth l i).f0, .string (nth l i).f1, .int .i64 (nth l i).f2, .slice A3 (nth l i).f3.length c3] 24)) (HS.out i hlt).1 (HS.out i hlt).2 HL.out (by omega) hl3 (Kd.F_alloc HF3.out _) HP.out (blk_alloc HG.out _) (blk_alloc ((HW.out.block gF hgF (fun e => hne (by injection e with e; exact e.symm))).trans HFO.out) _)
                have HIH := Aside0.mk hih
                clear hih
                cases hck : chk (nth l i) lf d with
                | none =>
                  have HCK := Aside0.mk hck
                  rw [hck] at HIH
                  clear hck
                  go_wp2_with (go_at_call 43; go_loud (refine HIH.out.mono ?_; rintro e w3 ⟨hg3, rfl, z3, hz3⟩))
                  go_ret
                  rw [HR.out, ← HE2.out, if_neg HI.out, HCK.out]
                  exact ⟨World.grownBy.trans (World.grownBy.trans HW.out (grown_of_below (below_alloc (Below.refl _ _) _) _)) hg3, rfl, _, hz3⟩
                | some lf' =>
                  have HCK := Aside0.mk hck
                  rw [hck] at HIH
                  have hle := chk_le hck
                  clear hck
                  go_wp2_with (go_at_call 43; go_loud (refine HIH.out.mono ?_; rintro e w3 ⟨hg3, rfl, hz3⟩))
                  obtain ⟨k', rfl⟩ : ∃ k', gk = k' + 1 := ⟨gk - 1, by have := HK.out; omega⟩
                  have hbb : w3.heap[w.heap.size]? = some (.cells #[.int .i64 f0, .string f1, .int .i64 f2, .slice (some ad) l.length c] 24 (0, 0)) := (hg3.block _ (by simp; omega) (fun e => by injection e with e; omega)).trans (blk_alloc HBB.out _)
                  go_roundg k'
                  case measure => omega
                  case rel => exact ⟨i + 1, lf', by go_num, ⟨by have := HK.out; omega⟩, ⟨World.grownBy.trans (World.grownBy.trans HW.out (grown_of_below (below_alloc (Below.refl _ _) _) _)) hg3⟩, ⟨hz3⟩, ⟨hbb⟩, ⟨by have := HL.out; omega⟩, ⟨by rw [← HE2.out, if_neg HI.out, HCK.out]; rfl⟩⟩
              · skip
                have q1 : ((nth l i).f0 == 1) = false := beq_eq_false_iff_ne.2 hx1
                have q2 : (f0 == 1) = false := beq_eq_false_iff_ne.2 hf1
                have HI : Aside0 (decide ((nth l i).f0 = 1) = decide (f0 = 1)) := ⟨by rw [decide_eq_false hx1, decide_eq_false hf1]⟩
                clear hx1 hf1
                go_wp2
                go_ret
                rw [HR.out, ← HE2.out, if_pos HI.out]
                exact ⟨World.grownBy.trans HW.out (grown_of_below (below_alloc (Below.refl _ _) _) _), rfl, _, blk_alloc HG.out _⟩
          · have hil : i = l.length := by have := HK.out; omega
            have HRR : Aside0 (chkL l f0 m d = some lf) := ⟨by rw [← HE.out, hil, List.drop_eq_nil_of_le (Nat.le_refl _)]; rfl⟩
            have b0 := blk_cell HBB.out 0
            clear hil HE
            go_wp2
            go_ret
            rw [HR.out, HRR.out]
            exact ⟨HW.out, rfl, HG.out⟩
end Go.Proofs.YtgcpfelccfnnbaaDoor.X
namespace Go.Proofs.YtgcpfelccfnnbaaDoor.X
open Go.RowKit Go.Proofs.YtgcpfelccfnnbaaDoorW.PrintWords Go.Proofs.YtgcpfelccfnnbaaDoorW.PrintLast Go.Proofs.YtgcpfelccfnnbaaDoorW.PrintMore
attribute [local go_sem] max2_int min2_int max_two min_two max_three min_three max_four min_four   -- for this text's walks alone
set_option linter.unusedVariables false
set_option linter.unusedSimpArgs false
def validB (x : S24) : Bool := decide (x.f0 = 1) && (chk x 1000 24).isSome
set_option maxRecDepth 100000 in
set_option maxHeartbeats 1000000 in
theorem valid_any (x : S24) (A : Option Addr) (c : Nat) (w : World) (hfine : fine x = true) (hc : x.f3.length ≤ c) (hr : Kd.C k24 w A x.f3.length x.f3) :
    Calls Tryd.prog 27 #[.agg #[.int .i64 x.f0, .string x.f1, .int .i64 x.f2, .slice A x.f3.length c]] w fun e w' => e = .returned (.bool (validB x)) ∧ Below w.heap.size w w' := by
  have HF := Aside0.mk (Kd.C_F k24_heap hr)
  have HFI := Aside0.mk hfine
  obtain ⟨f0, f1, f2, l⟩ := x
  simp only at HF hc ⊢
  clear hfine hr
  by_cases h1 : f0 = 1
  · subst h1
    have hst : ∀ o1 o2 o3 : Obj, Aside0 (Below w.heap.size w (((w.alloc o1).alloc o2).alloc o3)) := fun o1 o2 o3 => ⟨below_alloc (below_alloc (below_alloc (Below.refl _ _) _) _) _⟩
    have hchk := check_any (w.heap.size + 2) (w.heap.size + 1) (by omega) (cnt ⟨1, f1, f2, l⟩) ⟨1, f1, f2, l⟩ A c 1000 24 (fun k => k < w.heap.size) (((w.alloc (.cells #[.int .i64 1, .string f1, .int .i64 f2, .slice A l.length c] 24)).alloc (.cells FORMS 79)).alloc (.cells #[.slice (some ⟨w.heap.size + 1, 0, none⟩) 13 13, .int .i64 (1000 : Int)] 67)) (Nat.le_refl _) HFI.out (by omega) (by omega) hc (Kd.F_below (Kd.F_below (Kd.F_below HF.out (below_alloc (Below.refl _ _) _)) (below_alloc (Below.refl _ _) _)) (below_alloc (Below.refl _ _) _)) (fun k hk => by omega) (by have h := heap_alloc_new ((w.alloc (.cells #[.int .i64 1, .string f1, .int .i64 f2, .slice A l.length c] 24)).alloc (.cells FORMS 79)) (.cells #[.slice (some ⟨w.heap.size + 1, 0, none⟩) 13 13, .int .i64 (1000 : Int)] 67); simpa using h) (blk_alloc (by have h := heap_alloc_new (w.alloc (.cells #[.int .i64 1, .string f1, .int .i64 f2, .slice A l.length c] 24)) (.cells FORMS 79); simpa using h) _)
    have HCH := Aside0.mk hchk
    clear hchk
    cases hck : chk ⟨1, f1, f2, l⟩ 1000 24 with
    | none =>
      rw [hck] at HCH
      have HV : Aside0 (validB ⟨1, f1, f2, l⟩ = false) := ⟨by unfold validB; rw [hck]; rfl⟩
      clear hck
      go_enter Tryd.func27, Tryd.ntmps27
      go_wp2_with (first | (go_at_call 42; go_loud (refine (forms_any _).mono ?_; rintro e w1 ⟨rfl, rfl⟩)) | (go_at_call 43; go_loud (refine HCH.out.mono ?_; rintro e w3 ⟨hg3, rfl, z3, hz3⟩)))
      go_ret
      exact ⟨by rw [HV.out]; rfl, (hst _ _ _).out.grown hg3 (by simp; omega) (fun k hk => by injection hk with hk; omega)⟩
    | some lf =>
      rw [hck] at HCH
      have HV : Aside0 (validB ⟨1, f1, f2, l⟩ = true) := ⟨by unfold validB; rw [hck]; rfl⟩
      clear hck
      go_enter Tryd.func27, Tryd.ntmps27
      go_wp2_with (first | (go_at_call 42; go_loud (refine (forms_any _).mono ?_; rintro e w1 ⟨rfl, rfl⟩)) | (go_at_call 43; go_loud (refine HCH.out.mono ?_; rintro e w3 ⟨hg3, rfl, hz3⟩)))
      go_ret
      exact ⟨by rw [HV.out]; rfl, (hst _ _ _).out.grown hg3 (by simp; omega) (fun k hk => by injection hk with hk; omega)⟩
  · have q1 : (f0 == 1) = false := beq_eq_false_iff_ne.2 h1
    have HV : Aside0 (validB ⟨f0, f1, f2, l⟩ = false) := ⟨by unfold validB; rw [decide_eq_false h1]; rfl⟩
    clear h1
    have hst : ∀ o1 o2 o3 : Obj, Aside0 (Below w.heap.size w (((w.alloc o1).alloc o2).alloc o3)) := fun o1 o2 o3 => ⟨below_alloc (below_alloc (below_alloc (Below.refl _ _) _) _) _⟩
    go_enter Tryd.func27, Tryd.ntmps27
    go_wp2_with (go_at_call 42; go_loud (refine (forms_any _).mono ?_; rintro e w1 ⟨rfl, rfl⟩))
    go_ret
    exact ⟨by rw [HV.out]; rfl, (hst _ _ _).out⟩
def node_Valid.f (a0_0 : Int) (a0_1 : ByteArray) (a0_2 : Int) (l0_3 : List S24) : Option Bool := if fine ⟨a0_0, a0_1, a0_2, l0_3⟩ = true then some (validB ⟨a0_0, a0_1, a0_2, l0_3⟩) else none
theorem node_Valid.calls (a0_0 : Int) (a0_1 : ByteArray) (a0_2 : Int) (A0_3 : Option Addr) (c0_3 : Nat) (l0_3 : List S24) (r : Bool) (w : World) (hr0_3 : Kd.C k24 w A0_3 l0_3.length l0_3) (hc0_3 : l0_3.length ≤ c0_3) (h : node_Valid.f a0_0 a0_1 a0_2 l0_3 = some r) :
    Calls Tryd.prog 27 #[.agg #[.int .i64 a0_0, .string a0_1, .int .i64 a0_2, .slice A0_3 l0_3.length c0_3]] w fun e w' => e = .returned (.bool r) ∧ Below w.heap.size w w' := by
  unfold node_Valid.f at h
  split at h
  · rename_i hf
    injection h with h
    subst h
    exact valid_any ⟨a0_0, a0_1, a0_2, l0_3⟩ A0_3 c0_3 w hf hc0_3 hr0_3
  · cases h
end Go.Proofs.YtgcpfelccfnnbaaDoor.X
namespace Go.Proofs.YtgcpfelccfnnbaaDoor.X
open Go.RowKit Go.Proofs.YtgcpfelccfnnbaaDoorW.PrintWords Go.Proofs.YtgcpfelccfnnbaaDoorW.PrintLast Go.Proofs.YtgcpfelccfnnbaaDoorW.PrintMore
attribute [local go_sem] max2_int min2_int max_two min_two max_three min_three max_four min_four   -- for this text's walks alone
set_option linter.unusedVariables false
set_option linter.unusedSimpArgs false
def edit_bare.f (a0_0 : Int) (l0_1 : List Int) (a0_2 : Int) (a0_3 : Int) (l0_4 : List (S24)) (a0_5 : Int) (a0_6 : ByteArray) (a0_7 : ByteArray) : Option (Bool) := if a0_6.toList = ([] : List UInt8) then (some (a0_7.toList == ([] : List UInt8))) else (some false)
set_option maxHeartbeats 8000000 in
set_option maxRecDepth 100000 in
theorem edit_bare.calls (a0_0 : Int) (A0_1 : Option Addr) (c0_1 : Nat) (l0_1 : List Int) (a0_2 : Int) (a0_3 : Int) (A0_4 : Option Addr) (c0_4 : Nat) (l0_4 : List (S24)) (a0_5 : Int) (a0_6 : ByteArray) (a0_7 : ByteArray) (r : Bool) (w : World) (hr0_1 : Kd.C (Kd.int .i64) w A0_1 l0_1.length l0_1) (hc0_1 : l0_1.length ≤ c0_1) (hr0_4 : Kd.C k24 w A0_4 l0_4.length l0_4) (hc0_4 : l0_4.length ≤ c0_4) (h : edit_bare.f a0_0 l0_1 a0_2 a0_3 l0_4 a0_5 a0_6 a0_7 = some r) :
    Calls Tryd.prog 44 #[.agg #[.int .i64 a0_0, .slice A0_1 l0_1.length c0_1, .int .i64 a0_2, .int .i64 a0_3, .slice A0_4 l0_4.length c0_4, .int .i64 a0_5, .string a0_6, .string a0_7]] w fun e w' => e = .returned (.bool r) ∧ Below w.heap.size w w' := by
  have hu27 := Tryd.underlying27
  have HR0_1 := Aside0.mk hr0_1
  have HC0_1 := Aside0.mk hc0_1
  clear hr0_1 hc0_1
  have HR0_4 := Aside0.mk hr0_4
  have HC0_4 := Aside0.mk hc0_4
  clear hr0_4 hc0_4
  have HB := Aside0.mk (Below.refl w.heap.size w)
  have H : (if a0_6.toList = ([] : List UInt8) then (some (a0_7.toList == ([] : List UInt8))) else (some false)) = some r := h
  clear h
  by_cases c2 : a0_6.toList = ([] : List UInt8)
  · rw [if_pos c2] at H
    have c2b0 : (a0_6.toList == ([] : List UInt8)) = true := beq_iff_eq.mpr c2
    have c2b1 : (a0_6.toList != ([] : List UInt8)) = false := bne_eq_false_iff_eq.mpr c2
    clear c2
    obtain rfl := Option.some.inj H
    go_enter Tryd.func44, Tryd.ntmps44
    go_wp2_with (first | ((with_reducible refine gate_dst (N := 1) rfl ?_); refine box_event ?hg (N := 1) ?hd (cs := #[.int .i64 a0_0, .slice A0_1 l0_1.length c0_1, .int .i64 a0_2, .int .i64 a0_3, .slice A0_4 l0_4.length c0_4, .int .i64 a0_5, .string a0_6, .string a0_7]) (t := 27) ?hr ?_; (case hd => rfl); (case hg => rfl); (case hr => first | (go_simp; done) | (go_simp; rfl)); intro gb132 hg w3 hbox hb; have n0_ := Aside0.mk (below_step (by repeat (first | (with_reducible first | exact HB.out | apply below_alloc | apply pw_below_drewN | apply below_drew1) | exact HB.out)) hb); have n1_ := Aside0.mk (hbox); have n2_ := Aside0.mk ((by rw [hg]; exact (below_size (by repeat (first | (with_reducible first | exact HB.out | apply below_alloc | apply pw_below_drewN | apply below_drew1) | exact HB.out))) : w.heap.size ≤ gb132)); have n3_ := Aside0.mk ((by rw [hg]; exact (below_size (by repeat (first | (with_reducible first | exact HB.out | apply below_alloc | apply pw_below_drewN | apply below_drew1) | exact HB.out))) : w.heap.size ≤ gb132)); clear HB; have HB := n0_; have BK132 := n1_; have GW132 := n2_; have GE132 := n3_; clear n0_ n1_ n2_ n3_; clear hb hbox hg; have hcz4_0 : w3.cell? ⟨gb132, 0, none⟩ = some (.int .i64 a0_0) := (blk_cell BK132.out 0).trans rfl; have hcz4_1 : w3.cell? ⟨gb132, 1, none⟩ = some (.slice A0_1 l0_1.length c0_1) := (blk_cell BK132.out 1).trans rfl; have hcz4_2 : w3.cell? ⟨gb132, 2, none⟩ = some (.int .i64 a0_2) := (blk_cell BK132.out 2).trans rfl; have hcz4_3 : w3.cell? ⟨gb132, 3, none⟩ = some (.int .i64 a0_3) := (blk_cell BK132.out 3).trans rfl; have hcz4_4 : w3.cell? ⟨gb132, 4, none⟩ = some (.slice A0_4 l0_4.length c0_4) := (blk_cell BK132.out 4).trans rfl; have hcz4_5 : w3.cell? ⟨gb132, 5, none⟩ = some (.int .i64 a0_5) := (blk_cell BK132.out 5).trans rfl; have hcz4_6 : w3.cell? ⟨gb132, 6, none⟩ = some (.string a0_6) := (blk_cell BK132.out 6).trans rfl; have hcz4_7 : w3.cell? ⟨gb132, 7, none⟩ = some (.string a0_7) := (blk_cell BK132.out 7).trans rfl; have hfz4_0 := blk_frozen BK132.out 0; have hfz4_1 := blk_frozen BK132.out 1; have hfz4_2 := blk_frozen BK132.out 2; have hfz4_3 := blk_frozen BK132.out 3; have hfz4_4 := blk_frozen BK132.out 4; have hfz4_5 := blk_frozen BK132.out 5; have hfz4_6 := blk_frozen BK132.out 6; have hfz4_7 := blk_frozen BK132.out 7))
    go_ret
    exact ⟨by first | rfl | (simp [errW_none, errW_some] <;> rfl) | (simp [*, errW_none, errW_some] <;> rfl), by repeat (first | (with_reducible first | exact HB.out | apply below_alloc | apply pw_below_drewN | apply below_drew1 | refine below_set ?_ GE132.out) | exact HB.out)⟩
  · rw [if_neg c2] at H
    have c2b0 : (a0_6.toList == ([] : List UInt8)) = false := beq_eq_false_iff_ne.mpr c2
    have c2b1 : (a0_6.toList != ([] : List UInt8)) = true := bne_iff_ne.mpr c2
    obtain rfl := Option.some.inj H
    go_enter Tryd.func44, Tryd.ntmps44
    go_wp2_with (first | ((with_reducible refine gate_dst (N := 1) rfl ?_); refine box_event ?hg (N := 1) ?hd (cs := #[.int .i64 a0_0, .slice A0_1 l0_1.length c0_1, .int .i64 a0_2, .int .i64 a0_3, .slice A0_4 l0_4.length c0_4, .int .i64 a0_5, .string a0_6, .string a0_7]) (t := 27) ?hr ?_; (case hd => rfl); (case hg => rfl); (case hr => first | (go_simp; done) | (go_simp; rfl)); intro gb132 hg w5 hbox hb; have n0_ := Aside0.mk (below_step (by repeat (first | (with_reducible first | exact HB.out | apply below_alloc | apply pw_below_drewN | apply below_drew1) | exact HB.out)) hb); have n1_ := Aside0.mk (hbox); have n2_ := Aside0.mk ((by rw [hg]; exact (below_size (by repeat (first | (with_reducible first | exact HB.out | apply below_alloc | apply pw_below_drewN | apply below_drew1) | exact HB.out))) : w.heap.size ≤ gb132)); have n3_ := Aside0.mk ((by rw [hg]; exact (below_size (by repeat (first | (with_reducible first | exact HB.out | apply below_alloc | apply pw_below_drewN | apply below_drew1) | exact HB.out))) : w.heap.size ≤ gb132)); clear HB; have HB := n0_; have BK132 := n1_; have GW132 := n2_; have GE132 := n3_; clear n0_ n1_ n2_ n3_; clear hb hbox hg; have hcz6_0 : w5.cell? ⟨gb132, 0, none⟩ = some (.int .i64 a0_0) := (blk_cell BK132.out 0).trans rfl; have hcz6_1 : w5.cell? ⟨gb132, 1, none⟩ = some (.slice A0_1 l0_1.length c0_1) := (blk_cell BK132.out 1).trans rfl; have hcz6_2 : w5.cell? ⟨gb132, 2, none⟩ = some (.int .i64 a0_2) := (blk_cell BK132.out 2).trans rfl; have hcz6_3 : w5.cell? ⟨gb132, 3, none⟩ = some (.int .i64 a0_3) := (blk_cell BK132.out 3).trans rfl; have hcz6_4 : w5.cell? ⟨gb132, 4, none⟩ = some (.slice A0_4 l0_4.length c0_4) := (blk_cell BK132.out 4).trans rfl; have hcz6_5 : w5.cell? ⟨gb132, 5, none⟩ = some (.int .i64 a0_5) := (blk_cell BK132.out 5).trans rfl; have hcz6_6 : w5.cell? ⟨gb132, 6, none⟩ = some (.string a0_6) := (blk_cell BK132.out 6).trans rfl; have hcz6_7 : w5.cell? ⟨gb132, 7, none⟩ = some (.string a0_7) := (blk_cell BK132.out 7).trans rfl; have hfz6_0 := blk_frozen BK132.out 0; have hfz6_1 := blk_frozen BK132.out 1; have hfz6_2 := blk_frozen BK132.out 2; have hfz6_3 := blk_frozen BK132.out 3; have hfz6_4 := blk_frozen BK132.out 4; have hfz6_5 := blk_frozen BK132.out 5; have hfz6_6 := blk_frozen BK132.out 6; have hfz6_7 := blk_frozen BK132.out 7))
    go_ret
    exact ⟨by first | rfl | (simp [errW_none, errW_some] <;> rfl) | (simp [*, errW_none, errW_some] <;> rfl), by repeat (first | (with_reducible first | exact HB.out | apply below_alloc | apply pw_below_drewN | apply below_drew1 | refine below_set ?_ GE132.out) | exact HB.out)⟩
end Go.Proofs.YtgcpfelccfnnbaaDoor.X
namespace Go.Proofs.YtgcpfelccfnnbaaDoor.X
open Go.RowKit Go.Proofs.YtgcpfelccfnnbaaDoorW.PrintWords Go.Proofs.YtgcpfelccfnnbaaDoorW.PrintLast Go.Proofs.YtgcpfelccfnnbaaDoorW.PrintMore
attribute [local go_sem] max2_int min2_int max_two min_two max_three min_three max_four min_four   -- for this text's walks alone
set_option linter.unusedVariables false
set_option linter.unusedSimpArgs false
def node_ValidItems.f (l0 : List (S24)) : Option (Bool) := (node_Valid.f 1 (⟨#[]⟩ : ByteArray) 0 l0).bind fun t133 => (some t133)
set_option maxHeartbeats 8000000 in
set_option maxRecDepth 100000 in
theorem node_ValidItems.calls (A0 : Option Addr) (c0 : Nat) (l0 : List (S24)) (r : Bool) (w : World) (hr0 : Kd.C k24 w A0 l0.length l0) (hc0 : l0.length ≤ c0) (h : node_ValidItems.f l0 = some r) :
    Calls Tryd.prog 45 #[.slice A0 l0.length c0] w fun e w' => e = .returned (.bool r) ∧ Below w.heap.size w w' := by
  have hu24 := Tryd.underlying24
  have HR0 := Aside0.mk hr0
  have HC0 := Aside0.mk hc0
  clear hr0 hc0
  have HB := Aside0.mk (Below.refl w.heap.size w)
  have H : ((node_Valid.f 1 (⟨#[]⟩ : ByteArray) 0 l0).bind fun t133 => (some t133)) = some r := h
  clear h
  replace H := Option.bind_eq_some_iff.mp H
  obtain ⟨t133, A20, H⟩ := H
  replace H : (some t133) = some r := H
  have A2 := Aside0.mk A20
  clear A20
  obtain rfl := Option.some.inj H
  go_enter Tryd.func45, Tryd.ntmps45
  go_wp2_with (first | ((with_reducible refine gate_callee (f := 27) rfl ?_); refine goesL_ (some 5) rfl rfl Tryd.func27 (by kernel_rfl) rfl #[.agg #[.int .i64 1, .string (⟨#[]⟩ : ByteArray), .int .i64 0, .slice A0 l0.length c0]] rfl (by (try simp only [List.map_toArray, List.map_cons, List.map_nil]); first | done | rfl | (simp only [List.length_drop, List.length_take]; rfl)) ?_; (with_reducible refine (node_Valid.calls 1 (⟨#[]⟩ : ByteArray) 0 _ _ l0 t133 _ ?side1 ?side2 A2.out).mono ?_); (case side1 => repeat (first | exact HR0.out | (with_reducible refine Kd.C_alloc ?_ _) | (with_reducible refine Kd.C_drewN ?_ _) | (with_reducible refine Kd.C_drew ?_))); (case side2 => exact HC0.out); rintro e w3 ⟨rfl, hb⟩; refine ⟨_, rfl, ?_⟩; have n0_ := Aside0.mk (below_step (by repeat (first | (with_reducible first | exact HB.out | apply below_alloc | apply pw_below_drewN | apply below_drew1) | exact HB.out)) hb); clear HB; have HB := n0_; clear n0_; (try clear hb); (try clear hb2); (try clear hk); (try clear hi)))
  go_ret
  exact ⟨by first | rfl | (simp [errW_none, errW_some] <;> rfl) | (simp [*, errW_none, errW_some] <;> rfl), by repeat (first | (with_reducible first | exact HB.out | apply below_alloc | apply pw_below_drewN | apply below_drew1) | exact HB.out)⟩
end Go.Proofs.YtgcpfelccfnnbaaDoor.X
namespace Go.Proofs.YtgcpfelccfnnbaaDoor.X
open Go.RowKit Go.Proofs.YtgcpfelccfnnbaaDoorW.PrintWords Go.Proofs.YtgcpfelccfnnbaaDoorW.PrintLast Go.Proofs.YtgcpfelccfnnbaaDoorW.PrintMore
attribute [local go_sem] max2_int min2_int max_two min_two max_three min_three max_four min_four   -- for this text's walks alone
set_option linter.unusedVariables false
set_option linter.unusedSimpArgs false
mutual
def edit_Formed.j0 : Nat → Int → Bool → Int → List Int → Int → Int → List (S24) → Int → ByteArray → ByteArray → Option (Bool)
  | 0, _, _, _, _, _, _, _, _, _, _ => none
  | k + 1, x5, x6, x135000, x135001, x135002, x135003, x135004, x135005, x135006, x135007 => if x6 = true then (if x135003 = 0 then (if x135005 = 0 then ((edit_bare.f x135000 x135001 x135002 x135003 x135004 x135005 x135006 x135007).bind fun t135 => (if t135 = true then (if (x135004.length : Int) > 0 then ((node_ValidItems.f x135004).bind fun t136 => (some t136)) else (some false)) else (some false))) else (some false)) else (some false)) else (if x5 = 3 then (edit_Formed.j1 k x5 (x5 == 3) x135000 x135001 x135002 x135003 x135004 x135005 x135006 x135007) else (edit_Formed.j1 k x5 (x5 == 4) x135000 x135001 x135002 x135003 x135004 x135005 x135006 x135007))
def edit_Formed.j1 : Nat → Int → Bool → Int → List Int → Int → Int → List (S24) → Int → ByteArray → ByteArray → Option (Bool)
  | 0, _, _, _, _, _, _, _, _, _, _ => none
  | k + 1, x5, x32, x135000, x135001, x135002, x135003, x135004, x135005, x135006, x135007 => if x32 = true then ((edit_bare.f x135000 x135001 x135002 x135003 x135004 x135005 x135006 x135007).bind fun t137 => (if t137 = true then (if x135003 < 0 then (some false) else (if (x135004.length : Int) = 1 then ((node_ValidItems.f x135004).bind fun t138 => (if t138 = true then (if 0 < (x135004.length : Int) then (if x135005 ≥ 0 then (if x135005 < (((rd_T24 x135004 0).f3).length : Int) then (if 0 ≤ x135005 then (some ((((rd_T24 ((rd_T24 x135004 0).f3) x135005).f3).length : Int) == 0)) else (none)) else (some false)) else (some false)) else (none)) else (some false))) else (some false))) else (some false))) else (if x5 = 5 then (if x135003 = 0 then (if x135005 = 0 then (if (x135004.length : Int) = 0 then (some (x135006.toList != x135007.toList)) else (some false)) else (some false)) else (some false)) else (some false))
end
def edit_Formed.f (k : Nat) (a0_0 : Int) (l0_1 : List Int) (a0_2 : Int) (a0_3 : Int) (l0_4 : List (S24)) (a0_5 : Int) (a0_6 : ByteArray) (a0_7 : ByteArray) : Option (Bool) := if a0_0 = 1 then (edit_Formed.j0 k a0_0 (a0_0 == 1) a0_0 l0_1 a0_2 a0_3 l0_4 a0_5 a0_6 a0_7) else (edit_Formed.j0 k a0_0 (a0_0 == 2) a0_0 l0_1 a0_2 a0_3 l0_4 a0_5 a0_6 a0_7)
theorem edit_Formed.mono_l : ∀ k, (∀ y0 y1 y2 y3 y4 y5 y6 y7 y8 y9, LeO (edit_Formed.j0 k y0 y1 y2 y3 y4 y5 y6 y7 y8 y9) (edit_Formed.j0 (k + 1) y0 y1 y2 y3 y4 y5 y6 y7 y8 y9)) ∧ (∀ y0 y1 y2 y3 y4 y5 y6 y7 y8 y9, LeO (edit_Formed.j1 k y0 y1 y2 y3 y4 y5 y6 y7 y8 y9) (edit_Formed.j1 (k + 1) y0 y1 y2 y3 y4 y5 y6 y7 y8 y9))
  | 0 => ⟨fun _ _ _ _ _ _ _ _ _ _ r h => by simp [edit_Formed.j0] at h, fun _ _ _ _ _ _ _ _ _ _ r h => by simp [edit_Formed.j1] at h⟩
  | k + 1 => by
    obtain ⟨ih0, ih1⟩ := edit_Formed.mono_l k
    refine ⟨?_, ?_⟩
    · intro y0 y1 y2 y3 y4 y5 y6 y7 y8 y9
      unfold edit_Formed.j0
      repeat' first
      | (with_reducible exact ih0 _ _ _ _ _ _ _ _ _ _)
      | (with_reducible exact ih1 _ _ _ _ _ _ _ _ _ _)
      | (with_reducible exact LeO.refl _)
      | (with_reducible exact LeO.none _)
      | (with_reducible refine LeO.ite ?_ ?_)
      | (with_reducible refine LeO.bind ?_ (fun _ => ?_))
      | exact ih0 _ _ _ _ _ _ _ _ _ _
      | exact ih1 _ _ _ _ _ _ _ _ _ _
      | exact LeO.none _
      | refine LeO.ite ?_ ?_
      | refine LeO.bind ?_ (fun _ => ?_)
    · intro y0 y1 y2 y3 y4 y5 y6 y7 y8 y9
      unfold edit_Formed.j1
      repeat' first
      | (with_reducible exact ih0 _ _ _ _ _ _ _ _ _ _)
      | (with_reducible exact ih1 _ _ _ _ _ _ _ _ _ _)
      | (with_reducible exact LeO.refl _)
      | (with_reducible exact LeO.none _)
      | (with_reducible refine LeO.ite ?_ ?_)
      | (with_reducible refine LeO.bind ?_ (fun _ => ?_))
      | exact ih0 _ _ _ _ _ _ _ _ _ _
      | exact ih1 _ _ _ _ _ _ _ _ _ _
      | exact LeO.none _
      | refine LeO.ite ?_ ?_
      | refine LeO.bind ?_ (fun _ => ?_)
theorem edit_Formed.mono : ∀ a0 a1 a2 a3 a4 a5 a6 a7 k, LeO (edit_Formed.f k a0 a1 a2 a3 a4 a5 a6 a7) (edit_Formed.f (k + 1) a0 a1 a2 a3 a4 a5 a6 a7) := by
  intro a0 a1 a2 a3 a4 a5 a6 a7 k
  obtain ⟨ih0, ih1⟩ := edit_Formed.mono_l k
  unfold edit_Formed.f
  repeat' first
      | (with_reducible exact ih0 _ _ _ _ _ _ _ _ _ _)
      | (with_reducible exact ih1 _ _ _ _ _ _ _ _ _ _)
      | (with_reducible exact LeO.refl _)
      | (with_reducible exact LeO.none _)
      | (with_reducible refine LeO.ite ?_ ?_)
      | (with_reducible refine LeO.bind ?_ (fun _ => ?_))
      | exact ih0 _ _ _ _ _ _ _ _ _ _
      | exact ih1 _ _ _ _ _ _ _ _ _ _
      | exact LeO.none _
      | refine LeO.ite ?_ ?_
      | refine LeO.bind ?_ (fun _ => ?_)
set_option maxHeartbeats 8000000 in
set_option maxRecDepth 100000 in
theorem edit_Formed.calls (k : Nat) (a0_0 : Int) (A0_1 : Option Addr) (c0_1 : Nat) (l0_1 : List Int) (a0_2 : Int) (a0_3 : Int) (A0_4 : Option Addr) (c0_4 : Nat) (l0_4 : List (S24)) (a0_5 : Int) (a0_6 : ByteArray) (a0_7 : ByteArray) (r : Bool) (w : World) (hr0_1 : Kd.C (Kd.int .i64) w A0_1 l0_1.length l0_1) (hc0_1 : l0_1.length ≤ c0_1) (hr0_4 : Kd.C k24 w A0_4 l0_4.length l0_4) (hc0_4 : l0_4.length ≤ c0_4) (h : edit_Formed.f k a0_0 l0_1 a0_2 a0_3 l0_4 a0_5 a0_6 a0_7 = some r) :
    Calls Tryd.prog 28 #[.agg #[.int .i64 a0_0, .slice A0_1 l0_1.length c0_1, .int .i64 a0_2, .int .i64 a0_3, .slice A0_4 l0_4.length c0_4, .int .i64 a0_5, .string a0_6, .string a0_7]] w fun e w' => e = .returned (.bool r) ∧ Below w.heap.size w w' := by
  have hu27 := Tryd.underlying27
  have HR0_1 := Aside0.mk hr0_1
  have HC0_1 := Aside0.mk hc0_1
  clear hr0_1 hc0_1
  have HR0_4 := Aside0.mk hr0_4
  have HC0_4 := Aside0.mk hc0_4
  clear hr0_4 hc0_4
  have HB := Aside0.mk (Below.refl w.heap.size w)
  have H : (if a0_0 = 1 then (edit_Formed.j0 k a0_0 (a0_0 == 1) a0_0 l0_1 a0_2 a0_3 l0_4 a0_5 a0_6 a0_7) else (edit_Formed.j0 k a0_0 (a0_0 == 2) a0_0 l0_1 a0_2 a0_3 l0_4 a0_5 a0_6 a0_7)) = some r := h
  clear h
  have HC2 := Aside0.mk H
  clear H
  go_enter Tryd.func28, Tryd.ntmps28
  go_upto_if 6 with (first | ((with_reducible refine gate_dst (N := 1) rfl ?_); (try (refine gate_guard (by rfl) ?_; dsimp only)); refine box_event ?hg (N := 1) ?hd (cs := #[.int .i64 a0_0, .slice A0_1 l0_1.length c0_1, .int .i64 a0_2, .int .i64 a0_3, .slice A0_4 l0_4.length c0_4, .int .i64 a0_5, .string a0_6, .string a0_7]) (t := 27) ?hr ?_; (case hd => rfl); (case hg => rfl); (case hr => first | (go_simp; done) | (go_simp; rfl)); intro gb134 hg w3 hbox hb; have n0_ := Aside0.mk (below_step (by repeat (first | (with_reducible first | exact HB.out | apply below_alloc | apply pw_below_drewN | apply below_drew1) | exact HB.out)) hb); have n1_ := Aside0.mk (hbox); have n2_ := Aside0.mk ((by rw [hg]; exact (below_size (by repeat (first | (with_reducible first | exact HB.out | apply below_alloc | apply pw_below_drewN | apply below_drew1) | exact HB.out))) : w.heap.size ≤ gb134)); have n3_ := Aside0.mk ((by rw [hg]; exact (below_size (by repeat (first | (with_reducible first | exact HB.out | apply below_alloc | apply pw_below_drewN | apply below_drew1) | exact HB.out))) : w.heap.size ≤ gb134)); clear HB; have HB := n0_; have BK134 := n1_; have GW134 := n2_; have GE134 := n3_; clear n0_ n1_ n2_ n3_; clear hb hbox hg; have hcz4_0 : w3.cell? ⟨gb134, 0, none⟩ = some (.int .i64 a0_0) := (blk_cell BK134.out 0).trans rfl; have hcz4_1 : w3.cell? ⟨gb134, 1, none⟩ = some (.slice A0_1 l0_1.length c0_1) := (blk_cell BK134.out 1).trans rfl; have hcz4_2 : w3.cell? ⟨gb134, 2, none⟩ = some (.int .i64 a0_2) := (blk_cell BK134.out 2).trans rfl; have hcz4_3 : w3.cell? ⟨gb134, 3, none⟩ = some (.int .i64 a0_3) := (blk_cell BK134.out 3).trans rfl; have hcz4_4 : w3.cell? ⟨gb134, 4, none⟩ = some (.slice A0_4 l0_4.length c0_4) := (blk_cell BK134.out 4).trans rfl; have hcz4_5 : w3.cell? ⟨gb134, 5, none⟩ = some (.int .i64 a0_5) := (blk_cell BK134.out 5).trans rfl; have hcz4_6 : w3.cell? ⟨gb134, 6, none⟩ = some (.string a0_6) := (blk_cell BK134.out 6).trans rfl; have hcz4_7 : w3.cell? ⟨gb134, 7, none⟩ = some (.string a0_7) := (blk_cell BK134.out 7).trans rfl; have hfz4_0 := blk_frozen BK134.out 0; have hfz4_1 := blk_frozen BK134.out 1; have hfz4_2 := blk_frozen BK134.out 2; have hfz4_3 := blk_frozen BK134.out 3; have hfz4_4 := blk_frozen BK134.out 4; have hfz4_5 := blk_frozen BK134.out 5; have hfz4_6 := blk_frozen BK134.out 6; have hfz4_7 := blk_frozen BK134.out 7))
  (try simp only [Act.put, List.setIfInBounds_toArray, List.set_cons_zero, List.set_cons_succ])
  go_cut [6] (fun v6 wc => ∃ (kq : Nat) (x6_1 : Bool), v6 = .bool x6_1 ∧ Aside0 (edit_Formed.j0 kq a0_0 x6_1 a0_0 l0_1 a0_2 a0_3 l0_4 a0_5 a0_6 a0_7 = some r) ∧ Aside0 (kq ≤ k) ∧ Aside0 (wc.heap[gb134]? = some (.cells #[.int .i64 a0_0, (.slice A0_1 l0_1.length c0_1), .int .i64 a0_2, .int .i64 a0_3, (.slice A0_4 l0_4.length c0_4), .int .i64 a0_5, .string a0_6, .string a0_7] 27 (0, 0))) ∧ Aside0 (Below w.heap.size w wc))
  case first =>
    have H := HC2.out
    clear HC2
    by_cases c5 : a0_0 = 1
    · rw [if_pos c5] at H
      have c5b0 : (a0_0 == 1) = true := beq_iff_eq.mpr c5
      have c5b1 : (a0_0 != 1) = false := bne_eq_false_iff_eq.mpr c5
      clear c5
      (first | rw [c5b0] | (simp only [i64_w, i32_w]; rw [c5b0]) | skip)
      have H' := Aside0.mk H
      clear H
      go_wp2
      go_meet
      case rel => exact ⟨_, ((a0_0 == 1)), (by first | rfl | (simp; done) | (simp [*]; done)), H', ⟨by first | omega | exact Nat.le_refl _⟩, ⟨by (with_reducible repeat (first | refine blk_drewN ?_ _ | refine blk_drew ?_ | refine blk_alloc ?_ _)); exact BK134.out⟩, ⟨by repeat (first | (with_reducible first | exact HB.out | apply below_alloc | apply pw_below_drewN | apply below_drew1 | refine below_set ?_ GE134.out) | exact HB.out)⟩⟩
    · rw [if_neg c5] at H
      have c5b0 : (a0_0 == 1) = false := beq_eq_false_iff_ne.mpr c5
      have c5b1 : (a0_0 != 1) = true := bne_iff_ne.mpr c5
      (first | rw [c5b0] | (simp only [i64_w, i32_w]; rw [c5b0]) | skip)
      have H' := Aside0.mk H
      clear H
      go_wp2
      go_meet
      case rel => exact ⟨_, ((a0_0 == 2)), (by first | rfl | (simp; done) | (simp [*]; done)), H', ⟨by first | omega | exact Nat.le_refl _⟩, ⟨by (with_reducible repeat (first | refine blk_drewN ?_ _ | refine blk_drew ?_ | refine blk_alloc ?_ _)); exact BK134.out⟩, ⟨by repeat (first | (with_reducible first | exact HB.out | apply below_alloc | apply pw_below_drewN | apply below_drew1 | refine below_set ?_ GE134.out) | exact HB.out)⟩⟩
  case rest =>
    clear HC2
    try clear c2
    try clear p2
    try clear c5
    try clear c5b0
    try clear c5b1
    try clear hcz4_0
    try clear hcz4_1
    try clear hcz4_2
    try clear hcz4_3
    try clear hcz4_4
    try clear hcz4_5
    try clear hcz4_6
    try clear hcz4_7
    try clear hfz4_0
    try clear hfz4_1
    try clear hfz4_2
    try clear hfz4_3
    try clear hfz4_4
    try clear hfz4_5
    try clear hfz4_6
    try clear hfz4_7
    obtain ⟨kq, x6_1, rfl, HA, HJ1, BK134, HB⟩ := hcut
    cases kq with
    | zero => exact absurd HA.out (by simp [edit_Formed.j0])
    | succ kj1 =>
      have H := HA.out
      clear HA
      simp only [edit_Formed.j0] at H
      by_cases c6 : x6_1 = true
      · subst c6
        have H1 : (if a0_3 = 0 then (if a0_5 = 0 then ((edit_bare.f a0_0 l0_1 a0_2 a0_3 l0_4 a0_5 a0_6 a0_7).bind fun t135 => (if t135 = true then (if (l0_4.length : Int) > 0 then ((node_ValidItems.f l0_4).bind fun t136 => (some t136)) else (some false)) else (some false))) else (some false)) else (some false)) = some r := by rw [if_pos rfl] at H; exact H
        clear H
        have H := H1
        clear H1
        by_cases c7 : a0_3 = 0
        · rw [if_pos c7] at H
          have c7b0 : (a0_3 == 0) = true := beq_iff_eq.mpr c7
          have c7b1 : (a0_3 != 0) = false := bne_eq_false_iff_eq.mpr c7
          clear c7
          by_cases c8 : a0_5 = 0
          · rw [if_pos c8] at H
            have c8b0 : (a0_5 == 0) = true := beq_iff_eq.mpr c8
            have c8b1 : (a0_5 != 0) = false := bne_eq_false_iff_eq.mpr c8
            clear c8
            replace H := Option.bind_eq_some_iff.mp H
            obtain ⟨t135, A90, H⟩ := H
            replace H : (if t135 = true then (if (l0_4.length : Int) > 0 then ((node_ValidItems.f l0_4).bind fun t136 => (some t136)) else (some false)) else (some false)) = some r := H
            have A9 := Aside0.mk A90
            clear A90
            by_cases c10 : t135 = true
            · subst c10
              have H1 : (if (l0_4.length : Int) > 0 then ((node_ValidItems.f l0_4).bind fun t136 => (some t136)) else (some false)) = some r := by rw [if_pos rfl] at H; exact H
              clear H
              have H := H1
              clear H1
              by_cases c11 : (l0_4.length : Int) > 0
              · rw [if_pos c11] at H
                have c11b0 : decide (0 < (l0_4.length : Int)) = true := decide_eq_true c11
                have c11b1 : decide (0 < l0_4.length) = true := decide_eq_true (by omega)
                clear c11
                replace H := Option.bind_eq_some_iff.mp H
                obtain ⟨t136, A120, H⟩ := H
                replace H : (some t136) = some r := H
                have A12 := Aside0.mk A120
                clear A120
                obtain rfl := Option.some.inj H
                have hcz13_0 : wc.cell? ⟨gb134, 0, none⟩ = some (.int .i64 a0_0) := (blk_cell BK134.out 0).trans rfl
                have hcz13_1 : wc.cell? ⟨gb134, 1, none⟩ = some (.slice A0_1 l0_1.length c0_1) := (blk_cell BK134.out 1).trans rfl
                have hcz13_2 : wc.cell? ⟨gb134, 2, none⟩ = some (.int .i64 a0_2) := (blk_cell BK134.out 2).trans rfl
                have hcz13_3 : wc.cell? ⟨gb134, 3, none⟩ = some (.int .i64 a0_3) := (blk_cell BK134.out 3).trans rfl
                have hcz13_4 : wc.cell? ⟨gb134, 4, none⟩ = some (.slice A0_4 l0_4.length c0_4) := (blk_cell BK134.out 4).trans rfl
                have hcz13_5 : wc.cell? ⟨gb134, 5, none⟩ = some (.int .i64 a0_5) := (blk_cell BK134.out 5).trans rfl
                have hcz13_6 : wc.cell? ⟨gb134, 6, none⟩ = some (.string a0_6) := (blk_cell BK134.out 6).trans rfl
                have hcz13_7 : wc.cell? ⟨gb134, 7, none⟩ = some (.string a0_7) := (blk_cell BK134.out 7).trans rfl
                have hfz13_0 := blk_frozen BK134.out 0
                have hfz13_1 := blk_frozen BK134.out 1
                have hfz13_2 := blk_frozen BK134.out 2
                have hfz13_3 := blk_frozen BK134.out 3
                have hfz13_4 := blk_frozen BK134.out 4
                have hfz13_5 := blk_frozen BK134.out 5
                have hfz13_6 := blk_frozen BK134.out 6
                have hfz13_7 := blk_frozen BK134.out 7
                go_wp2_with (first | (go_at_call 44; (with_reducible refine (edit_bare.calls a0_0 _ _ l0_1 a0_2 a0_3 _ _ l0_4 a0_5 a0_6 a0_7 true _ ?side1 ?side2 ?side3 ?side4 A9.out).mono ?_); (case side1 => repeat (first | exact (Kd.C_below HR0_1.out HB.out) | (with_reducible refine Kd.C_alloc ?_ _) | (with_reducible refine Kd.C_drewN ?_ _) | (with_reducible refine Kd.C_drew ?_))); (case side2 => exact HC0_1.out); (case side3 => repeat (first | exact (Kd.C_below HR0_4.out HB.out) | (with_reducible refine Kd.C_alloc ?_ _) | (with_reducible refine Kd.C_drewN ?_ _) | (with_reducible refine Kd.C_drew ?_))); (case side4 => exact HC0_4.out); rintro e w14 ⟨rfl, hb⟩; have n0_ := Aside0.mk (blk_below (g := gb134) (o := .cells #[.int .i64 a0_0, .slice A0_1 l0_1.length c0_1, .int .i64 a0_2, .int .i64 a0_3, .slice A0_4 l0_4.length c0_4, .int .i64 a0_5, .string a0_6, .string a0_7] 27 (0, 0)) (by (with_reducible repeat (first | refine blk_drewN ?_ _ | refine blk_drew ?_ | refine blk_alloc ?_ _)); exact BK134.out) hb); have n1_ := Aside0.mk (below_step (by repeat (first | (with_reducible first | exact HB.out | apply below_alloc | apply pw_below_drewN | apply below_drew1 | refine below_set ?_ GE134.out) | exact HB.out)) hb); clear BK134; clear HB; have BK134 := n0_; have HB := n1_; clear n0_ n1_; (try clear hb); (try clear hb2); (try clear hk); (try clear hi); have hcz15_0 : w14.cell? ⟨gb134, 0, none⟩ = some (.int .i64 a0_0) := (blk_cell BK134.out 0).trans rfl; have hcz15_1 : w14.cell? ⟨gb134, 1, none⟩ = some (.slice A0_1 l0_1.length c0_1) := (blk_cell BK134.out 1).trans rfl; have hcz15_2 : w14.cell? ⟨gb134, 2, none⟩ = some (.int .i64 a0_2) := (blk_cell BK134.out 2).trans rfl; have hcz15_3 : w14.cell? ⟨gb134, 3, none⟩ = some (.int .i64 a0_3) := (blk_cell BK134.out 3).trans rfl; have hcz15_4 : w14.cell? ⟨gb134, 4, none⟩ = some (.slice A0_4 l0_4.length c0_4) := (blk_cell BK134.out 4).trans rfl; have hcz15_5 : w14.cell? ⟨gb134, 5, none⟩ = some (.int .i64 a0_5) := (blk_cell BK134.out 5).trans rfl; have hcz15_6 : w14.cell? ⟨gb134, 6, none⟩ = some (.string a0_6) := (blk_cell BK134.out 6).trans rfl; have hcz15_7 : w14.cell? ⟨gb134, 7, none⟩ = some (.string a0_7) := (blk_cell BK134.out 7).trans rfl; have hfz15_0 := blk_frozen BK134.out 0; have hfz15_1 := blk_frozen BK134.out 1; have hfz15_2 := blk_frozen BK134.out 2; have hfz15_3 := blk_frozen BK134.out 3; have hfz15_4 := blk_frozen BK134.out 4; have hfz15_5 := blk_frozen BK134.out 5; have hfz15_6 := blk_frozen BK134.out 6; have hfz15_7 := blk_frozen BK134.out 7) | (go_at_call 45; (with_reducible refine (node_ValidItems.calls _ _ l0_4 t136 _ ?side1 ?side2 A12.out).mono ?_); (case side1 => repeat (first | exact (Kd.C_below HR0_4.out HB.out) | (with_reducible refine Kd.C_alloc ?_ _) | (with_reducible refine Kd.C_drewN ?_ _) | (with_reducible refine Kd.C_drew ?_))); (case side2 => exact HC0_4.out); rintro e w16 ⟨rfl, hb⟩; have n0_ := Aside0.mk (blk_below (g := gb134) (o := .cells #[.int .i64 a0_0, .slice A0_1 l0_1.length c0_1, .int .i64 a0_2, .int .i64 a0_3, .slice A0_4 l0_4.length c0_4, .int .i64 a0_5, .string a0_6, .string a0_7] 27 (0, 0)) (by (with_reducible repeat (first | refine blk_drewN ?_ _ | refine blk_drew ?_ | refine blk_alloc ?_ _)); exact BK134.out) hb); have n1_ := Aside0.mk (below_step (by repeat (first | (with_reducible first | exact HB.out | apply below_alloc | apply pw_below_drewN | apply below_drew1 | refine below_set ?_ GE134.out) | exact HB.out)) hb); clear BK134; clear HB; have BK134 := n0_; have HB := n1_; clear n0_ n1_; (try clear hb); (try clear hb2); (try clear hk); (try clear hi)))
                go_ret
                exact ⟨by first | rfl | (simp [errW_none, errW_some] <;> rfl) | (simp [*, errW_none, errW_some] <;> rfl), by repeat (first | (with_reducible first | exact HB.out | apply below_alloc | apply pw_below_drewN | apply below_drew1 | refine below_set ?_ GE134.out) | exact HB.out)⟩
              · rw [if_neg c11] at H
                have c11b0 : decide (0 < (l0_4.length : Int)) = false := decide_eq_false c11
                have c11b1 : decide (0 < l0_4.length) = false := decide_eq_false (by omega)
                clear c11
                obtain rfl := Option.some.inj H
                have hcz17_0 : wc.cell? ⟨gb134, 0, none⟩ = some (.int .i64 a0_0) := (blk_cell BK134.out 0).trans rfl
                have hcz17_1 : wc.cell? ⟨gb134, 1, none⟩ = some (.slice A0_1 l0_1.length c0_1) := (blk_cell BK134.out 1).trans rfl
                have hcz17_2 : wc.cell? ⟨gb134, 2, none⟩ = some (.int .i64 a0_2) := (blk_cell BK134.out 2).trans rfl
                have hcz17_3 : wc.cell? ⟨gb134, 3, none⟩ = some (.int .i64 a0_3) := (blk_cell BK134.out 3).trans rfl
                have hcz17_4 : wc.cell? ⟨gb134, 4, none⟩ = some (.slice A0_4 l0_4.length c0_4) := (blk_cell BK134.out 4).trans rfl
                have hcz17_5 : wc.cell? ⟨gb134, 5, none⟩ = some (.int .i64 a0_5) := (blk_cell BK134.out 5).trans rfl
                have hcz17_6 : wc.cell? ⟨gb134, 6, none⟩ = some (.string a0_6) := (blk_cell BK134.out 6).trans rfl
                have hcz17_7 : wc.cell? ⟨gb134, 7, none⟩ = some (.string a0_7) := (blk_cell BK134.out 7).trans rfl
                have hfz17_0 := blk_frozen BK134.out 0
                have hfz17_1 := blk_frozen BK134.out 1
                have hfz17_2 := blk_frozen BK134.out 2
                have hfz17_3 := blk_frozen BK134.out 3
                have hfz17_4 := blk_frozen BK134.out 4
                have hfz17_5 := blk_frozen BK134.out 5
                have hfz17_6 := blk_frozen BK134.out 6
                have hfz17_7 := blk_frozen BK134.out 7
                go_wp2_with (first | (go_at_call 44; (with_reducible refine (edit_bare.calls a0_0 _ _ l0_1 a0_2 a0_3 _ _ l0_4 a0_5 a0_6 a0_7 true _ ?side1 ?side2 ?side3 ?side4 A9.out).mono ?_); (case side1 => repeat (first | exact (Kd.C_below HR0_1.out HB.out) | (with_reducible refine Kd.C_alloc ?_ _) | (with_reducible refine Kd.C_drewN ?_ _) | (with_reducible refine Kd.C_drew ?_))); (case side2 => exact HC0_1.out); (case side3 => repeat (first | exact (Kd.C_below HR0_4.out HB.out) | (with_reducible refine Kd.C_alloc ?_ _) | (with_reducible refine Kd.C_drewN ?_ _) | (with_reducible refine Kd.C_drew ?_))); (case side4 => exact HC0_4.out); rintro e w18 ⟨rfl, hb⟩; have n0_ := Aside0.mk (blk_below (g := gb134) (o := .cells #[.int .i64 a0_0, .slice A0_1 l0_1.length c0_1, .int .i64 a0_2, .int .i64 a0_3, .slice A0_4 l0_4.length c0_4, .int .i64 a0_5, .string a0_6, .string a0_7] 27 (0, 0)) (by (with_reducible repeat (first | refine blk_drewN ?_ _ | refine blk_drew ?_ | refine blk_alloc ?_ _)); exact BK134.out) hb); have n1_ := Aside0.mk (below_step (by repeat (first | (with_reducible first | exact HB.out | apply below_alloc | apply pw_below_drewN | apply below_drew1 | refine below_set ?_ GE134.out) | exact HB.out)) hb); clear BK134; clear HB; have BK134 := n0_; have HB := n1_; clear n0_ n1_; (try clear hb); (try clear hb2); (try clear hk); (try clear hi); have hcz19_0 : w18.cell? ⟨gb134, 0, none⟩ = some (.int .i64 a0_0) := (blk_cell BK134.out 0).trans rfl; have hcz19_1 : w18.cell? ⟨gb134, 1, none⟩ = some (.slice A0_1 l0_1.length c0_1) := (blk_cell BK134.out 1).trans rfl; have hcz19_2 : w18.cell? ⟨gb134, 2, none⟩ = some (.int .i64 a0_2) := (blk_cell BK134.out 2).trans rfl; have hcz19_3 : w18.cell? ⟨gb134, 3, none⟩ = some (.int .i64 a0_3) := (blk_cell BK134.out 3).trans rfl; have hcz19_4 : w18.cell? ⟨gb134, 4, none⟩ = some (.slice A0_4 l0_4.length c0_4) := (blk_cell BK134.out 4).trans rfl; have hcz19_5 : w18.cell? ⟨gb134, 5, none⟩ = some (.int .i64 a0_5) := (blk_cell BK134.out 5).trans rfl; have hcz19_6 : w18.cell? ⟨gb134, 6, none⟩ = some (.string a0_6) := (blk_cell BK134.out 6).trans rfl; have hcz19_7 : w18.cell? ⟨gb134, 7, none⟩ = some (.string a0_7) := (blk_cell BK134.out 7).trans rfl; have hfz19_0 := blk_frozen BK134.out 0; have hfz19_1 := blk_frozen BK134.out 1; have hfz19_2 := blk_frozen BK134.out 2; have hfz19_3 := blk_frozen BK134.out 3; have hfz19_4 := blk_frozen BK134.out 4; have hfz19_5 := blk_frozen BK134.out 5; have hfz19_6 := blk_frozen BK134.out 6; have hfz19_7 := blk_frozen BK134.out 7))
                go_ret
                exact ⟨by first | rfl | (simp [errW_none, errW_some] <;> rfl) | (simp [*, errW_none, errW_some] <;> rfl), by repeat (first | (with_reducible first | exact HB.out | apply below_alloc | apply pw_below_drewN | apply below_drew1 | refine below_set ?_ GE134.out) | exact HB.out)⟩
            · replace c10 := Bool.eq_false_iff.mpr c10
              subst c10
              have H1 : (some false) = some r := by rw [if_neg (show ¬ (false = true) by decide)] at H; exact H
              clear H
              have H := H1
              clear H1
              obtain rfl := Option.some.inj H
              have hcz20_0 : wc.cell? ⟨gb134, 0, none⟩ = some (.int .i64 a0_0) := (blk_cell BK134.out 0).trans rfl
              have hcz20_1 : wc.cell? ⟨gb134, 1, none⟩ = some (.slice A0_1 l0_1.length c0_1) := (blk_cell BK134.out 1).trans rfl
              have hcz20_2 : wc.cell? ⟨gb134, 2, none⟩ = some (.int .i64 a0_2) := (blk_cell BK134.out 2).trans rfl
              have hcz20_3 : wc.cell? ⟨gb134, 3, none⟩ = some (.int .i64 a0_3) := (blk_cell BK134.out 3).trans rfl
              have hcz20_4 : wc.cell? ⟨gb134, 4, none⟩ = some (.slice A0_4 l0_4.length c0_4) := (blk_cell BK134.out 4).trans rfl
              have hcz20_5 : wc.cell? ⟨gb134, 5, none⟩ = some (.int .i64 a0_5) := (blk_cell BK134.out 5).trans rfl
              have hcz20_6 : wc.cell? ⟨gb134, 6, none⟩ = some (.string a0_6) := (blk_cell BK134.out 6).trans rfl
              have hcz20_7 : wc.cell? ⟨gb134, 7, none⟩ = some (.string a0_7) := (blk_cell BK134.out 7).trans rfl
              have hfz20_0 := blk_frozen BK134.out 0
              have hfz20_1 := blk_frozen BK134.out 1
              have hfz20_2 := blk_frozen BK134.out 2
              have hfz20_3 := blk_frozen BK134.out 3
              have hfz20_4 := blk_frozen BK134.out 4
              have hfz20_5 := blk_frozen BK134.out 5
              have hfz20_6 := blk_frozen BK134.out 6
              have hfz20_7 := blk_frozen BK134.out 7
              go_wp2_with (first | (go_at_call 44; (with_reducible refine (edit_bare.calls a0_0 _ _ l0_1 a0_2 a0_3 _ _ l0_4 a0_5 a0_6 a0_7 false _ ?side1 ?side2 ?side3 ?side4 A9.out).mono ?_); (case side1 => repeat (first | exact (Kd.C_below HR0_1.out HB.out) | (with_reducible refine Kd.C_alloc ?_ _) | (with_reducible refine Kd.C_drewN ?_ _) | (with_reducible refine Kd.C_drew ?_))); (case side2 => exact HC0_1.out); (case side3 => repeat (first | exact (Kd.C_below HR0_4.out HB.out) | (with_reducible refine Kd.C_alloc ?_ _) | (with_reducible refine Kd.C_drewN ?_ _) | (with_reducible refine Kd.C_drew ?_))); (case side4 => exact HC0_4.out); rintro e w21 ⟨rfl, hb⟩; have n0_ := Aside0.mk (blk_below (g := gb134) (o := .cells #[.int .i64 a0_0, .slice A0_1 l0_1.length c0_1, .int .i64 a0_2, .int .i64 a0_3, .slice A0_4 l0_4.length c0_4, .int .i64 a0_5, .string a0_6, .string a0_7] 27 (0, 0)) (by (with_reducible repeat (first | refine blk_drewN ?_ _ | refine blk_drew ?_ | refine blk_alloc ?_ _)); exact BK134.out) hb); have n1_ := Aside0.mk (below_step (by repeat (first | (with_reducible first | exact HB.out | apply below_alloc | apply pw_below_drewN | apply below_drew1 | refine below_set ?_ GE134.out) | exact HB.out)) hb); clear BK134; clear HB; have BK134 := n0_; have HB := n1_; clear n0_ n1_; (try clear hb); (try clear hb2); (try clear hk); (try clear hi)))
              go_ret
              exact ⟨by first | rfl | (simp [errW_none, errW_some] <;> rfl) | (simp [*, errW_none, errW_some] <;> rfl), by repeat (first | (with_reducible first | exact HB.out | apply below_alloc | apply pw_below_drewN | apply below_drew1 | refine below_set ?_ GE134.out) | exact HB.out)⟩
          · rw [if_neg c8] at H
            have c8b0 : (a0_5 == 0) = false := beq_eq_false_iff_ne.mpr c8
            have c8b1 : (a0_5 != 0) = true := bne_iff_ne.mpr c8
            obtain rfl := Option.some.inj H
            have hcz22_0 : wc.cell? ⟨gb134, 0, none⟩ = some (.int .i64 a0_0) := (blk_cell BK134.out 0).trans rfl
            have hcz22_1 : wc.cell? ⟨gb134, 1, none⟩ = some (.slice A0_1 l0_1.length c0_1) := (blk_cell BK134.out 1).trans rfl
            have hcz22_2 : wc.cell? ⟨gb134, 2, none⟩ = some (.int .i64 a0_2) := (blk_cell BK134.out 2).trans rfl
            have hcz22_3 : wc.cell? ⟨gb134, 3, none⟩ = some (.int .i64 a0_3) := (blk_cell BK134.out 3).trans rfl
            have hcz22_4 : wc.cell? ⟨gb134, 4, none⟩ = some (.slice A0_4 l0_4.length c0_4) := (blk_cell BK134.out 4).trans rfl
            have hcz22_5 : wc.cell? ⟨gb134, 5, none⟩ = some (.int .i64 a0_5) := (blk_cell BK134.out 5).trans rfl
            have hcz22_6 : wc.cell? ⟨gb134, 6, none⟩ = some (.string a0_6) := (blk_cell BK134.out 6).trans rfl
            have hcz22_7 : wc.cell? ⟨gb134, 7, none⟩ = some (.string a0_7) := (blk_cell BK134.out 7).trans rfl
            have hfz22_0 := blk_frozen BK134.out 0
            have hfz22_1 := blk_frozen BK134.out 1
            have hfz22_2 := blk_frozen BK134.out 2
            have hfz22_3 := blk_frozen BK134.out 3
            have hfz22_4 := blk_frozen BK134.out 4
            have hfz22_5 := blk_frozen BK134.out 5
            have hfz22_6 := blk_frozen BK134.out 6
            have hfz22_7 := blk_frozen BK134.out 7
            go_wp2
            go_ret
            exact ⟨by first | rfl | (simp [errW_none, errW_some] <;> rfl) | (simp [*, errW_none, errW_some] <;> rfl), by repeat (first | (with_reducible first | exact HB.out | apply below_alloc | apply pw_below_drewN | apply below_drew1 | refine below_set ?_ GE134.out) | exact HB.out)⟩
        · rw [if_neg c7] at H
          have c7b0 : (a0_3 == 0) = false := beq_eq_false_iff_ne.mpr c7
          have c7b1 : (a0_3 != 0) = true := bne_iff_ne.mpr c7
          obtain rfl := Option.some.inj H
          have hcz23_0 : wc.cell? ⟨gb134, 0, none⟩ = some (.int .i64 a0_0) := (blk_cell BK134.out 0).trans rfl
          have hcz23_1 : wc.cell? ⟨gb134, 1, none⟩ = some (.slice A0_1 l0_1.length c0_1) := (blk_cell BK134.out 1).trans rfl
          have hcz23_2 : wc.cell? ⟨gb134, 2, none⟩ = some (.int .i64 a0_2) := (blk_cell BK134.out 2).trans rfl
          have hcz23_3 : wc.cell? ⟨gb134, 3, none⟩ = some (.int .i64 a0_3) := (blk_cell BK134.out 3).trans rfl
          have hcz23_4 : wc.cell? ⟨gb134, 4, none⟩ = some (.slice A0_4 l0_4.length c0_4) := (blk_cell BK134.out 4).trans rfl
          have hcz23_5 : wc.cell? ⟨gb134, 5, none⟩ = some (.int .i64 a0_5) := (blk_cell BK134.out 5).trans rfl
          have hcz23_6 : wc.cell? ⟨gb134, 6, none⟩ = some (.string a0_6) := (blk_cell BK134.out 6).trans rfl
          have hcz23_7 : wc.cell? ⟨gb134, 7, none⟩ = some (.string a0_7) := (blk_cell BK134.out 7).trans rfl
          have hfz23_0 := blk_frozen BK134.out 0
          have hfz23_1 := blk_frozen BK134.out 1
          have hfz23_2 := blk_frozen BK134.out 2
          have hfz23_3 := blk_frozen BK134.out 3
          have hfz23_4 := blk_frozen BK134.out 4
          have hfz23_5 := blk_frozen BK134.out 5
          have hfz23_6 := blk_frozen BK134.out 6
          have hfz23_7 := blk_frozen BK134.out 7
          go_wp2
          go_ret
          exact ⟨by first | rfl | (simp [errW_none, errW_some] <;> rfl) | (simp [*, errW_none, errW_some] <;> rfl), by repeat (first | (with_reducible first | exact HB.out | apply below_alloc | apply pw_below_drewN | apply below_drew1 | refine below_set ?_ GE134.out) | exact HB.out)⟩
      · replace c6 := Bool.eq_false_iff.mpr c6
        subst c6
        have H1 : (if a0_0 = 3 then (edit_Formed.j1 kj1 a0_0 (a0_0 == 3) a0_0 l0_1 a0_2 a0_3 l0_4 a0_5 a0_6 a0_7) else (edit_Formed.j1 kj1 a0_0 (a0_0 == 4) a0_0 l0_1 a0_2 a0_3 l0_4 a0_5 a0_6 a0_7)) = some r := by rw [if_neg (show ¬ (false = true) by decide)] at H; exact H
        clear H
        have H := H1
        clear H1
        have HC24 := Aside0.mk H
        clear H
        go_upto_if 32 with (fail)
        go_cut [32] (fun v32 wc => ∃ (kq : Nat) (x32_23 : Bool), v32 = .bool x32_23 ∧ Aside0 (edit_Formed.j1 kq a0_0 x32_23 a0_0 l0_1 a0_2 a0_3 l0_4 a0_5 a0_6 a0_7 = some r) ∧ Aside0 (kq ≤ kj1) ∧ Aside0 (wc.heap[gb134]? = some (.cells #[.int .i64 a0_0, (.slice A0_1 l0_1.length c0_1), .int .i64 a0_2, .int .i64 a0_3, (.slice A0_4 l0_4.length c0_4), .int .i64 a0_5, .string a0_6, .string a0_7] 27 (0, 0))) ∧ Aside0 (Below w.heap.size w wc))
        case first =>
          have H := HC24.out
          clear HC24
          by_cases c25 : a0_0 = 3
          · rw [if_pos c25] at H
            have c25b0 : (a0_0 == 3) = true := beq_iff_eq.mpr c25
            have c25b1 : (a0_0 != 3) = false := bne_eq_false_iff_eq.mpr c25
            clear c25
            (first | rw [c25b0] | (simp only [i64_w, i32_w]; rw [c25b0]) | skip)
            have H' := Aside0.mk H
            clear H
            go_wp2
            go_meet
            case rel => exact ⟨_, ((a0_0 == 3)), (by first | rfl | (simp; done) | (simp [*]; done)), H', ⟨by have := HJ1.out; first | omega | exact Nat.le_refl _⟩, ⟨by (with_reducible repeat (first | refine blk_drewN ?_ _ | refine blk_drew ?_ | refine blk_alloc ?_ _)); exact BK134.out⟩, ⟨by repeat (first | (with_reducible first | exact HB.out | apply below_alloc | apply pw_below_drewN | apply below_drew1 | refine below_set ?_ GE134.out) | exact HB.out)⟩⟩
          · rw [if_neg c25] at H
            have c25b0 : (a0_0 == 3) = false := beq_eq_false_iff_ne.mpr c25
            have c25b1 : (a0_0 != 3) = true := bne_iff_ne.mpr c25
            (first | rw [c25b0] | (simp only [i64_w, i32_w]; rw [c25b0]) | skip)
            have H' := Aside0.mk H
            clear H
            go_wp2
            go_meet
            case rel => exact ⟨_, ((a0_0 == 4)), (by first | rfl | (simp; done) | (simp [*]; done)), H', ⟨by have := HJ1.out; first | omega | exact Nat.le_refl _⟩, ⟨by (with_reducible repeat (first | refine blk_drewN ?_ _ | refine blk_drew ?_ | refine blk_alloc ?_ _)); exact BK134.out⟩, ⟨by repeat (first | (with_reducible first | exact HB.out | apply below_alloc | apply pw_below_drewN | apply below_drew1 | refine below_set ?_ GE134.out) | exact HB.out)⟩⟩
        case rest =>
          clear HC24
          try clear c1
          try clear c2
          try clear p2
          try clear c5
          try clear c5b0
          try clear c5b1
          try clear c6
          try clear c7
          try clear c7b0
          try clear c7b1
          try clear c8
          try clear c8b0
          try clear c8b1
          try clear c10
          try clear c11
          try clear c11b0
          try clear c11b1
          try clear c25
          try clear c25b0
          try clear c25b1
          try clear hcz13_0
          try clear hcz13_1
          try clear hcz13_2
          try clear hcz13_3
          try clear hcz13_4
          try clear hcz13_5
          try clear hcz13_6
          try clear hcz13_7
          try clear hcz15_0
          try clear hcz15_1
          try clear hcz15_2
          try clear hcz15_3
          try clear hcz15_4
          try clear hcz15_5
          try clear hcz15_6
          try clear hcz15_7
          try clear hcz17_0
          try clear hcz17_1
          try clear hcz17_2
          try clear hcz17_3
          try clear hcz17_4
          try clear hcz17_5
          try clear hcz17_6
          try clear hcz17_7
          try clear hcz19_0
          try clear hcz19_1
          try clear hcz19_2
          try clear hcz19_3
          try clear hcz19_4
          try clear hcz19_5
          try clear hcz19_6
          try clear hcz19_7
          try clear hcz20_0
          try clear hcz20_1
          try clear hcz20_2
          try clear hcz20_3
          try clear hcz20_4
          try clear hcz20_5
          try clear hcz20_6
          try clear hcz20_7
          try clear hcz22_0
          try clear hcz22_1
          try clear hcz22_2
          try clear hcz22_3
          try clear hcz22_4
          try clear hcz22_5
          try clear hcz22_6
          try clear hcz22_7
          try clear hcz23_0
          try clear hcz23_1
          try clear hcz23_2
          try clear hcz23_3
          try clear hcz23_4
          try clear hcz23_5
          try clear hcz23_6
          try clear hcz23_7
          try clear hcz4_0
          try clear hcz4_1
          try clear hcz4_2
          try clear hcz4_3
          try clear hcz4_4
          try clear hcz4_5
          try clear hcz4_6
          try clear hcz4_7
          try clear hfz13_0
          try clear hfz13_1
          try clear hfz13_2
          try clear hfz13_3
          try clear hfz13_4
          try clear hfz13_5
          try clear hfz13_6
          try clear hfz13_7
          try clear hfz15_0
          try clear hfz15_1
          try clear hfz15_2
          try clear hfz15_3
          try clear hfz15_4
          try clear hfz15_5
          try clear hfz15_6
          try clear hfz15_7
          try clear hfz17_0
          try clear hfz17_1
          try clear hfz17_2
          try clear hfz17_3
          try clear hfz17_4
          try clear hfz17_5
          try clear hfz17_6
          try clear hfz17_7
          try clear hfz19_0
          try clear hfz19_1
          try clear hfz19_2
          try clear hfz19_3
          try clear hfz19_4
          try clear hfz19_5
          try clear hfz19_6
          try clear hfz19_7
          try clear hfz20_0
          try clear hfz20_1
          try clear hfz20_2
          try clear hfz20_3
          try clear hfz20_4
          try clear hfz20_5
          try clear hfz20_6
          try clear hfz20_7
          try clear hfz22_0
          try clear hfz22_1
          try clear hfz22_2
          try clear hfz22_3
          try clear hfz22_4
          try clear hfz22_5
          try clear hfz22_6
          try clear hfz22_7
          try clear hfz23_0
          try clear hfz23_1
          try clear hfz23_2
          try clear hfz23_3
          try clear hfz23_4
          try clear hfz23_5
          try clear hfz23_6
          try clear hfz23_7
          try clear hfz4_0
          try clear hfz4_1
          try clear hfz4_2
          try clear hfz4_3
          try clear hfz4_4
          try clear hfz4_5
          try clear hfz4_6
          try clear hfz4_7
          try clear p2
          obtain ⟨kq, x32_23, rfl, HA, HJ23, BK134, HB⟩ := hcut
          cases kq with
          | zero => exact absurd HA.out (by simp [edit_Formed.j1])
          | succ kj23 =>
            have H := HA.out
            clear HA
            simp only [edit_Formed.j1] at H
            by_cases c26 : x32_23 = true
            · subst c26
              have H1 : ((edit_bare.f a0_0 l0_1 a0_2 a0_3 l0_4 a0_5 a0_6 a0_7).bind fun t137 => (if t137 = true then (if a0_3 < 0 then (some false) else (if (l0_4.length : Int) = 1 then ((node_ValidItems.f l0_4).bind fun t138 => (if t138 = true then (if 0 < (l0_4.length : Int) then (if a0_5 ≥ 0 then (if a0_5 < (((rd_T24 l0_4 0).f3).length : Int) then (if 0 ≤ a0_5 then (some ((((rd_T24 ((rd_T24 l0_4 0).f3) a0_5).f3).length : Int) == 0)) else (none)) else (some false)) else (some false)) else (none)) else (some false))) else (some false))) else (some false))) = some r := by rw [if_pos rfl] at H; exact H
              clear H
              have H := H1
              clear H1
              replace H := Option.bind_eq_some_iff.mp H
              obtain ⟨t137, A270, H⟩ := H
              replace H : (if t137 = true then (if a0_3 < 0 then (some false) else (if (l0_4.length : Int) = 1 then ((node_ValidItems.f l0_4).bind fun t138 => (if t138 = true then (if 0 < (l0_4.length : Int) then (if a0_5 ≥ 0 then (if a0_5 < (((rd_T24 l0_4 0).f3).length : Int) then (if 0 ≤ a0_5 then (some ((((rd_T24 ((rd_T24 l0_4 0).f3) a0_5).f3).length : Int) == 0)) else (none)) else (some false)) else (some false)) else (none)) else (some false))) else (some false))) else (some false)) = some r := H
              have A27 := Aside0.mk A270
              clear A270
              by_cases c28 : t137 = true
              · subst c28
                have H1 : (if a0_3 < 0 then (some false) else (if (l0_4.length : Int) = 1 then ((node_ValidItems.f l0_4).bind fun t138 => (if t138 = true then (if 0 < (l0_4.length : Int) then (if a0_5 ≥ 0 then (if a0_5 < (((rd_T24 l0_4 0).f3).length : Int) then (if 0 ≤ a0_5 then (some ((((rd_T24 ((rd_T24 l0_4 0).f3) a0_5).f3).length : Int) == 0)) else (none)) else (some false)) else (some false)) else (none)) else (some false))) else (some false))) = some r := by rw [if_pos rfl] at H; exact H
                clear H
                have H := H1
                clear H1
                by_cases c29 : a0_3 < 0
                · rw [if_pos c29] at H
                  have c29b0 : decide (a0_3 < 0) = true := decide_eq_true c29
                  clear c29
                  obtain rfl := Option.some.inj H
                  have hcz30_0 : wc.cell? ⟨gb134, 0, none⟩ = some (.int .i64 a0_0) := (blk_cell BK134.out 0).trans rfl
                  have hcz30_1 : wc.cell? ⟨gb134, 1, none⟩ = some (.slice A0_1 l0_1.length c0_1) := (blk_cell BK134.out 1).trans rfl
                  have hcz30_2 : wc.cell? ⟨gb134, 2, none⟩ = some (.int .i64 a0_2) := (blk_cell BK134.out 2).trans rfl
                  have hcz30_3 : wc.cell? ⟨gb134, 3, none⟩ = some (.int .i64 a0_3) := (blk_cell BK134.out 3).trans rfl
                  have hcz30_4 : wc.cell? ⟨gb134, 4, none⟩ = some (.slice A0_4 l0_4.length c0_4) := (blk_cell BK134.out 4).trans rfl
                  have hcz30_5 : wc.cell? ⟨gb134, 5, none⟩ = some (.int .i64 a0_5) := (blk_cell BK134.out 5).trans rfl
                  have hcz30_6 : wc.cell? ⟨gb134, 6, none⟩ = some (.string a0_6) := (blk_cell BK134.out 6).trans rfl
                  have hcz30_7 : wc.cell? ⟨gb134, 7, none⟩ = some (.string a0_7) := (blk_cell BK134.out 7).trans rfl
                  have hfz30_0 := blk_frozen BK134.out 0
                  have hfz30_1 := blk_frozen BK134.out 1
                  have hfz30_2 := blk_frozen BK134.out 2
                  have hfz30_3 := blk_frozen BK134.out 3
                  have hfz30_4 := blk_frozen BK134.out 4
                  have hfz30_5 := blk_frozen BK134.out 5
                  have hfz30_6 := blk_frozen BK134.out 6
                  have hfz30_7 := blk_frozen BK134.out 7
                  go_wp2_with (first | ((with_reducible refine gate_callee (f := 44) rfl ?_); refine goesL_ (some 36) rfl rfl Tryd.func44 (by kernel_rfl) rfl #[.agg #[.int .i64 a0_0, .slice A0_1 l0_1.length c0_1, .int .i64 a0_2, .int .i64 a0_3, .slice A0_4 l0_4.length c0_4, .int .i64 a0_5, .string a0_6, .string a0_7]] rfl (by (try simp only [List.map_toArray, List.map_cons, List.map_nil]); first | done | rfl | (simp only [List.length_drop, List.length_take]; rfl)) ?_; (with_reducible refine (edit_bare.calls a0_0 _ _ l0_1 a0_2 a0_3 _ _ l0_4 a0_5 a0_6 a0_7 true _ ?side1 ?side2 ?side3 ?side4 A27.out).mono ?_); (case side1 => repeat (first | exact (Kd.C_below HR0_1.out HB.out) | (with_reducible refine Kd.C_alloc ?_ _) | (with_reducible refine Kd.C_drewN ?_ _) | (with_reducible refine Kd.C_drew ?_))); (case side2 => exact HC0_1.out); (case side3 => repeat (first | exact (Kd.C_below HR0_4.out HB.out) | (with_reducible refine Kd.C_alloc ?_ _) | (with_reducible refine Kd.C_drewN ?_ _) | (with_reducible refine Kd.C_drew ?_))); (case side4 => exact HC0_4.out); rintro e w31 ⟨rfl, hb⟩; refine ⟨_, rfl, ?_⟩; have n0_ := Aside0.mk (blk_below (g := gb134) (o := .cells #[.int .i64 a0_0, .slice A0_1 l0_1.length c0_1, .int .i64 a0_2, .int .i64 a0_3, .slice A0_4 l0_4.length c0_4, .int .i64 a0_5, .string a0_6, .string a0_7] 27 (0, 0)) (by (with_reducible repeat (first | refine blk_drewN ?_ _ | refine blk_drew ?_ | refine blk_alloc ?_ _)); exact BK134.out) hb); have n1_ := Aside0.mk (below_step (by repeat (first | (with_reducible first | exact HB.out | apply below_alloc | apply pw_below_drewN | apply below_drew1 | refine below_set ?_ GE134.out) | exact HB.out)) hb); clear BK134; clear HB; have BK134 := n0_; have HB := n1_; clear n0_ n1_; (try clear hb); (try clear hb2); (try clear hk); (try clear hi); have hcz32_0 : w31.cell? ⟨gb134, 0, none⟩ = some (.int .i64 a0_0) := (blk_cell BK134.out 0).trans rfl; have hcz32_1 : w31.cell? ⟨gb134, 1, none⟩ = some (.slice A0_1 l0_1.length c0_1) := (blk_cell BK134.out 1).trans rfl; have hcz32_2 : w31.cell? ⟨gb134, 2, none⟩ = some (.int .i64 a0_2) := (blk_cell BK134.out 2).trans rfl; have hcz32_3 : w31.cell? ⟨gb134, 3, none⟩ = some (.int .i64 a0_3) := (blk_cell BK134.out 3).trans rfl; have hcz32_4 : w31.cell? ⟨gb134, 4, none⟩ = some (.slice A0_4 l0_4.length c0_4) := (blk_cell BK134.out 4).trans rfl; have hcz32_5 : w31.cell? ⟨gb134, 5, none⟩ = some (.int .i64 a0_5) := (blk_cell BK134.out 5).trans rfl; have hcz32_6 : w31.cell? ⟨gb134, 6, none⟩ = some (.string a0_6) := (blk_cell BK134.out 6).trans rfl; have hcz32_7 : w31.cell? ⟨gb134, 7, none⟩ = some (.string a0_7) := (blk_cell BK134.out 7).trans rfl; have hfz32_0 := blk_frozen BK134.out 0; have hfz32_1 := blk_frozen BK134.out 1; have hfz32_2 := blk_frozen BK134.out 2; have hfz32_3 := blk_frozen BK134.out 3; have hfz32_4 := blk_frozen BK134.out 4; have hfz32_5 := blk_frozen BK134.out 5; have hfz32_6 := blk_frozen BK134.out 6; have hfz32_7 := blk_frozen BK134.out 7))
                  go_ret
                  exact ⟨by first | rfl | (simp [errW_none, errW_some] <;> rfl) | (simp [*, errW_none, errW_some] <;> rfl), by repeat (first | (with_reducible first | exact HB.out | apply below_alloc | apply pw_below_drewN | apply below_drew1 | refine below_set ?_ GE134.out) | exact HB.out)⟩
                · rw [if_neg c29] at H
                  have c29b0 : decide (a0_3 < 0) = false := decide_eq_false c29
                  clear c29
                  by_cases c33 : (l0_4.length : Int) = 1
                  · rw [if_pos c33] at H
                    have c33b0 : ((l0_4.length : Int) == 1) = true := beq_iff_eq.mpr c33
                    have c33b1 : ((l0_4.length : Int) != 1) = false := bne_eq_false_iff_eq.mpr c33
                    clear c33
                    replace H := Option.bind_eq_some_iff.mp H
                    obtain ⟨t138, A340, H⟩ := H
                    replace H : (if t138 = true then (if 0 < (l0_4.length : Int) then (if a0_5 ≥ 0 then (if a0_5 < (((rd_T24 l0_4 0).f3).length : Int) then (if 0 ≤ a0_5 then (some ((((rd_T24 ((rd_T24 l0_4 0).f3) a0_5).f3).length : Int) == 0)) else (none)) else (some false)) else (some false)) else (none)) else (some false)) = some r := H
                    have A34 := Aside0.mk A340
                    clear A340
                    by_cases c35 : t138 = true
                    · subst c35
                      have H1 : (if 0 < (l0_4.length : Int) then (if a0_5 ≥ 0 then (if a0_5 < (((rd_T24 l0_4 0).f3).length : Int) then (if 0 ≤ a0_5 then (some ((((rd_T24 ((rd_T24 l0_4 0).f3) a0_5).f3).length : Int) == 0)) else (none)) else (some false)) else (some false)) else (none)) = some r := by rw [if_pos rfl] at H; exact H
                      clear H
                      have H := H1
                      clear H1
                      by_cases c36 : 0 < (l0_4.length : Int)
                      · rw [if_pos c36] at H
                        have c36b0 : decide (0 < (l0_4.length : Int)) = true := decide_eq_true c36
                        have c36b1 : decide (0 < l0_4.length) = true := decide_eq_true (by omega)
                        clear c36
                        by_cases c37 : a0_5 ≥ 0
                        · rw [if_pos c37] at H
                          have c37b0 : decide (0 ≤ a0_5) = true := decide_eq_true c37
                          clear c37
                          by_cases c38 : a0_5 < (((rd_T24 l0_4 0).f3).length : Int)
                          · rw [if_pos c38] at H
                            have c38b0 : decide (a0_5 < (((rd_T24 l0_4 0).f3).length : Int)) = true := decide_eq_true c38
                            clear c38
                            by_cases c39 : 0 ≤ a0_5
                            · rw [if_pos c39] at H
                              have c39b0 : decide (0 ≤ a0_5) = true := decide_eq_true c39
                              clear c39
                              obtain rfl := Option.some.inj H
                              have hcz40_0 : wc.cell? ⟨gb134, 0, none⟩ = some (.int .i64 a0_0) := (blk_cell BK134.out 0).trans rfl
                              have hcz40_1 : wc.cell? ⟨gb134, 1, none⟩ = some (.slice A0_1 l0_1.length c0_1) := (blk_cell BK134.out 1).trans rfl
                              have hcz40_2 : wc.cell? ⟨gb134, 2, none⟩ = some (.int .i64 a0_2) := (blk_cell BK134.out 2).trans rfl
                              have hcz40_3 : wc.cell? ⟨gb134, 3, none⟩ = some (.int .i64 a0_3) := (blk_cell BK134.out 3).trans rfl
                              have hcz40_4 : wc.cell? ⟨gb134, 4, none⟩ = some (.slice A0_4 l0_4.length c0_4) := (blk_cell BK134.out 4).trans rfl
                              have hcz40_5 : wc.cell? ⟨gb134, 5, none⟩ = some (.int .i64 a0_5) := (blk_cell BK134.out 5).trans rfl
                              have hcz40_6 : wc.cell? ⟨gb134, 6, none⟩ = some (.string a0_6) := (blk_cell BK134.out 6).trans rfl
                              have hcz40_7 : wc.cell? ⟨gb134, 7, none⟩ = some (.string a0_7) := (blk_cell BK134.out 7).trans rfl
                              have hfz40_0 := blk_frozen BK134.out 0
                              have hfz40_1 := blk_frozen BK134.out 1
                              have hfz40_2 := blk_frozen BK134.out 2
                              have hfz40_3 := blk_frozen BK134.out 3
                              have hfz40_4 := blk_frozen BK134.out 4
                              have hfz40_5 := blk_frozen BK134.out 5
                              have hfz40_6 := blk_frozen BK134.out 6
                              have hfz40_7 := blk_frozen BK134.out 7
                              go_wp2_with (first | ((with_reducible refine gate_callee (f := 44) rfl ?_); refine goesL_ (some 36) rfl rfl Tryd.func44 (by kernel_rfl) rfl #[.agg #[.int .i64 a0_0, .slice A0_1 l0_1.length c0_1, .int .i64 a0_2, .int .i64 a0_3, .slice A0_4 l0_4.length c0_4, .int .i64 a0_5, .string a0_6, .string a0_7]] rfl (by (try simp only [List.map_toArray, List.map_cons, List.map_nil]); first | done | rfl | (simp only [List.length_drop, List.length_take]; rfl)) ?_; (with_reducible refine (edit_bare.calls a0_0 _ _ l0_1 a0_2 a0_3 _ _ l0_4 a0_5 a0_6 a0_7 true _ ?side1 ?side2 ?side3 ?side4 A27.out).mono ?_); (case side1 => repeat (first | exact (Kd.C_below HR0_1.out HB.out) | (with_reducible refine Kd.C_alloc ?_ _) | (with_reducible refine Kd.C_drewN ?_ _) | (with_reducible refine Kd.C_drew ?_))); (case side2 => exact HC0_1.out); (case side3 => repeat (first | exact (Kd.C_below HR0_4.out HB.out) | (with_reducible refine Kd.C_alloc ?_ _) | (with_reducible refine Kd.C_drewN ?_ _) | (with_reducible refine Kd.C_drew ?_))); (case side4 => exact HC0_4.out); rintro e w41 ⟨rfl, hb⟩; refine ⟨_, rfl, ?_⟩; have n0_ := Aside0.mk (blk_below (g := gb134) (o := .cells #[.int .i64 a0_0, .slice A0_1 l0_1.length c0_1, .int .i64 a0_2, .int .i64 a0_3, .slice A0_4 l0_4.length c0_4, .int .i64 a0_5, .string a0_6, .string a0_7] 27 (0, 0)) (by (with_reducible repeat (first | refine blk_drewN ?_ _ | refine blk_drew ?_ | refine blk_alloc ?_ _)); exact BK134.out) hb); have n1_ := Aside0.mk (below_step (by repeat (first | (with_reducible first | exact HB.out | apply below_alloc | apply pw_below_drewN | apply below_drew1 | refine below_set ?_ GE134.out) | exact HB.out)) hb); clear BK134; clear HB; have BK134 := n0_; have HB := n1_; clear n0_ n1_; (try clear hb); (try clear hb2); (try clear hk); (try clear hi); have hcz42_0 : w41.cell? ⟨gb134, 0, none⟩ = some (.int .i64 a0_0) := (blk_cell BK134.out 0).trans rfl; have hcz42_1 : w41.cell? ⟨gb134, 1, none⟩ = some (.slice A0_1 l0_1.length c0_1) := (blk_cell BK134.out 1).trans rfl; have hcz42_2 : w41.cell? ⟨gb134, 2, none⟩ = some (.int .i64 a0_2) := (blk_cell BK134.out 2).trans rfl; have hcz42_3 : w41.cell? ⟨gb134, 3, none⟩ = some (.int .i64 a0_3) := (blk_cell BK134.out 3).trans rfl; have hcz42_4 : w41.cell? ⟨gb134, 4, none⟩ = some (.slice A0_4 l0_4.length c0_4) := (blk_cell BK134.out 4).trans rfl; have hcz42_5 : w41.cell? ⟨gb134, 5, none⟩ = some (.int .i64 a0_5) := (blk_cell BK134.out 5).trans rfl; have hcz42_6 : w41.cell? ⟨gb134, 6, none⟩ = some (.string a0_6) := (blk_cell BK134.out 6).trans rfl; have hcz42_7 : w41.cell? ⟨gb134, 7, none⟩ = some (.string a0_7) := (blk_cell BK134.out 7).trans rfl; have hfz42_0 := blk_frozen BK134.out 0; have hfz42_1 := blk_frozen BK134.out 1; have hfz42_2 := blk_frozen BK134.out 2; have hfz42_3 := blk_frozen BK134.out 3; have hfz42_4 := blk_frozen BK134.out 4; have hfz42_5 := blk_frozen BK134.out 5; have hfz42_6 := blk_frozen BK134.out 6; have hfz42_7 := blk_frozen BK134.out 7) | (go_at_call 45; (with_reducible refine (node_ValidItems.calls _ _ l0_4 true _ ?side1 ?side2 A34.out).mono ?_); (case side1 => repeat (first | exact (Kd.C_below HR0_4.out HB.out) | (with_reducible refine Kd.C_alloc ?_ _) | (with_reducible refine Kd.C_drewN ?_ _) | (with_reducible refine Kd.C_drew ?_))); (case side2 => exact HC0_4.out); rintro e w43 ⟨rfl, hb⟩; have n0_ := Aside0.mk (blk_below (g := gb134) (o := .cells #[.int .i64 a0_0, .slice A0_1 l0_1.length c0_1, .int .i64 a0_2, .int .i64 a0_3, .slice A0_4 l0_4.length c0_4, .int .i64 a0_5, .string a0_6, .string a0_7] 27 (0, 0)) (by (with_reducible repeat (first | refine blk_drewN ?_ _ | refine blk_drew ?_ | refine blk_alloc ?_ _)); exact BK134.out) hb); have n1_ := Aside0.mk (below_step (by repeat (first | (with_reducible first | exact HB.out | apply below_alloc | apply pw_below_drewN | apply below_drew1 | refine below_set ?_ GE134.out) | exact HB.out)) hb); clear BK134; clear HB; have BK134 := n0_; have HB := n1_; clear n0_ n1_; (try clear hb); (try clear hb2); (try clear hk); (try clear hi); have hcz44_0 : w43.cell? ⟨gb134, 0, none⟩ = some (.int .i64 a0_0) := (blk_cell BK134.out 0).trans rfl; have hcz44_1 : w43.cell? ⟨gb134, 1, none⟩ = some (.slice A0_1 l0_1.length c0_1) := (blk_cell BK134.out 1).trans rfl; have hcz44_2 : w43.cell? ⟨gb134, 2, none⟩ = some (.int .i64 a0_2) := (blk_cell BK134.out 2).trans rfl; have hcz44_3 : w43.cell? ⟨gb134, 3, none⟩ = some (.int .i64 a0_3) := (blk_cell BK134.out 3).trans rfl; have hcz44_4 : w43.cell? ⟨gb134, 4, none⟩ = some (.slice A0_4 l0_4.length c0_4) := (blk_cell BK134.out 4).trans rfl; have hcz44_5 : w43.cell? ⟨gb134, 5, none⟩ = some (.int .i64 a0_5) := (blk_cell BK134.out 5).trans rfl; have hcz44_6 : w43.cell? ⟨gb134, 6, none⟩ = some (.string a0_6) := (blk_cell BK134.out 6).trans rfl; have hcz44_7 : w43.cell? ⟨gb134, 7, none⟩ = some (.string a0_7) := (blk_cell BK134.out 7).trans rfl; have hfz44_0 := blk_frozen BK134.out 0; have hfz44_1 := blk_frozen BK134.out 1; have hfz44_2 := blk_frozen BK134.out 2; have hfz44_3 := blk_frozen BK134.out 3; have hfz44_4 := blk_frozen BK134.out 4; have hfz44_5 := blk_frozen BK134.out 5; have hfz44_6 := blk_frozen BK134.out 6; have hfz44_7 := blk_frozen BK134.out 7; have p139 : 0 ≤ (0 : Int) := (by omega); have q139 : 0 < (l0_4.length : Int) := of_decide_eq_true (by first | (with_reducible assumption) | assumption); obtain ⟨ad139, A139_3, c139_3, e139, hx139_0, hx139_1, hx139_2, hx139_3, hl139_3, hi139_3⟩ := at_T24 HR0_4.out 0 p139 q139; cases e139; have qi139 : (0 < l0_4.length) = True := eq_true (by omega); (try rw [show ((0 : Int)).toNat = 0 from rfl] at hx139_0); (try rw [show 0 * 4 = 0 from rfl] at hx139_0); (try rw [Addr.add_zero'] at hx139_0); (try rw [show ((0 : Int)).toNat = 0 from rfl] at hx139_1); (try rw [show 0 * 4 = 0 from rfl] at hx139_1); (try rw [Addr.add_zero'] at hx139_1); (try rw [show ((0 : Int)).toNat = 0 from rfl] at hx139_2); (try rw [show 0 * 4 = 0 from rfl] at hx139_2); (try rw [Addr.add_zero'] at hx139_2); (try rw [show ((0 : Int)).toNat = 0 from rfl] at hx139_3); (try rw [show 0 * 4 = 0 from rfl] at hx139_3); (try rw [Addr.add_zero'] at hx139_3); replace hx139_0 := (HB.out.cell (World.block_lt_of_cell? w _ hx139_0)).trans hx139_0; replace hx139_1 := (HB.out.cell (World.block_lt_of_cell? w _ hx139_1)).trans hx139_1; replace hx139_2 := (HB.out.cell (World.block_lt_of_cell? w _ hx139_2)).trans hx139_2; replace hx139_3 := (HB.out.cell (World.block_lt_of_cell? w _ hx139_3)).trans hx139_3; have HR139_3 := Aside0.mk hi139_3; have HC139_3 := Aside0.mk hl139_3; clear hi139_3 hl139_3; replace p139 := eq_true p139; replace q139 := eq_true q139; have p140 : 0 ≤ (a0_5 : Int) := of_decide_eq_true (by first | (with_reducible assumption) | assumption); have q140 : a0_5 < (((rd_T24 l0_4 0).f3).length : Int) := of_decide_eq_true (by first | (with_reducible assumption) | assumption); obtain ⟨ad140, A140_3, c140_3, e140, hx140_0, hx140_1, hx140_2, hx140_3, hl140_3, hi140_3⟩ := at_T24 HR139_3.out a0_5 p140 q140; cases e140; replace hx140_0 := (HB.out.cell (World.block_lt_of_cell? w _ hx140_0)).trans hx140_0; replace hx140_1 := (HB.out.cell (World.block_lt_of_cell? w _ hx140_1)).trans hx140_1; replace hx140_2 := (HB.out.cell (World.block_lt_of_cell? w _ hx140_2)).trans hx140_2; replace hx140_3 := (HB.out.cell (World.block_lt_of_cell? w _ hx140_3)).trans hx140_3; have HR140_3 := Aside0.mk hi140_3; have HC140_3 := Aside0.mk hl140_3; clear hi140_3 hl140_3; replace p140 := eq_true p140; replace q140 := eq_true q140))
                              go_ret
                              exact ⟨by first | rfl | (simp [errW_none, errW_some] <;> rfl) | (simp [*, errW_none, errW_some] <;> rfl), by repeat (first | (with_reducible first | exact HB.out | apply below_alloc | apply pw_below_drewN | apply below_drew1 | refine below_set ?_ GE134.out) | exact HB.out)⟩
                            · rw [if_neg c39] at H
                              exact absurd H (by simp)
                          · rw [if_neg c38] at H
                            have c38b0 : decide (a0_5 < (((rd_T24 l0_4 0).f3).length : Int)) = false := decide_eq_false c38
                            clear c38
                            obtain rfl := Option.some.inj H
                            have hcz45_0 : wc.cell? ⟨gb134, 0, none⟩ = some (.int .i64 a0_0) := (blk_cell BK134.out 0).trans rfl
                            have hcz45_1 : wc.cell? ⟨gb134, 1, none⟩ = some (.slice A0_1 l0_1.length c0_1) := (blk_cell BK134.out 1).trans rfl
                            have hcz45_2 : wc.cell? ⟨gb134, 2, none⟩ = some (.int .i64 a0_2) := (blk_cell BK134.out 2).trans rfl
                            have hcz45_3 : wc.cell? ⟨gb134, 3, none⟩ = some (.int .i64 a0_3) := (blk_cell BK134.out 3).trans rfl
                            have hcz45_4 : wc.cell? ⟨gb134, 4, none⟩ = some (.slice A0_4 l0_4.length c0_4) := (blk_cell BK134.out 4).trans rfl
                            have hcz45_5 : wc.cell? ⟨gb134, 5, none⟩ = some (.int .i64 a0_5) := (blk_cell BK134.out 5).trans rfl
                            have hcz45_6 : wc.cell? ⟨gb134, 6, none⟩ = some (.string a0_6) := (blk_cell BK134.out 6).trans rfl
                            have hcz45_7 : wc.cell? ⟨gb134, 7, none⟩ = some (.string a0_7) := (blk_cell BK134.out 7).trans rfl
                            have hfz45_0 := blk_frozen BK134.out 0
                            have hfz45_1 := blk_frozen BK134.out 1
                            have hfz45_2 := blk_frozen BK134.out 2
                            have hfz45_3 := blk_frozen BK134.out 3
                            have hfz45_4 := blk_frozen BK134.out 4
                            have hfz45_5 := blk_frozen BK134.out 5
                            have hfz45_6 := blk_frozen BK134.out 6
                            have hfz45_7 := blk_frozen BK134.out 7
                            go_wp2_with (first | ((with_reducible refine gate_callee (f := 44) rfl ?_); refine goesL_ (some 36) rfl rfl Tryd.func44 (by kernel_rfl) rfl #[.agg #[.int .i64 a0_0, .slice A0_1 l0_1.length c0_1, .int .i64 a0_2, .int .i64 a0_3, .slice A0_4 l0_4.length c0_4, .int .i64 a0_5, .string a0_6, .string a0_7]] rfl (by (try simp only [List.map_toArray, List.map_cons, List.map_nil]); first | done | rfl | (simp only [List.length_drop, List.length_take]; rfl)) ?_; (with_reducible refine (edit_bare.calls a0_0 _ _ l0_1 a0_2 a0_3 _ _ l0_4 a0_5 a0_6 a0_7 true _ ?side1 ?side2 ?side3 ?side4 A27.out).mono ?_); (case side1 => repeat (first | exact (Kd.C_below HR0_1.out HB.out) | (with_reducible refine Kd.C_alloc ?_ _) | (with_reducible refine Kd.C_drewN ?_ _) | (with_reducible refine Kd.C_drew ?_))); (case side2 => exact HC0_1.out); (case side3 => repeat (first | exact (Kd.C_below HR0_4.out HB.out) | (with_reducible refine Kd.C_alloc ?_ _) | (with_reducible refine Kd.C_drewN ?_ _) | (with_reducible refine Kd.C_drew ?_))); (case side4 => exact HC0_4.out); rintro e w46 ⟨rfl, hb⟩; refine ⟨_, rfl, ?_⟩; have n0_ := Aside0.mk (blk_below (g := gb134) (o := .cells #[.int .i64 a0_0, .slice A0_1 l0_1.length c0_1, .int .i64 a0_2, .int .i64 a0_3, .slice A0_4 l0_4.length c0_4, .int .i64 a0_5, .string a0_6, .string a0_7] 27 (0, 0)) (by (with_reducible repeat (first | refine blk_drewN ?_ _ | refine blk_drew ?_ | refine blk_alloc ?_ _)); exact BK134.out) hb); have n1_ := Aside0.mk (below_step (by repeat (first | (with_reducible first | exact HB.out | apply below_alloc | apply pw_below_drewN | apply below_drew1 | refine below_set ?_ GE134.out) | exact HB.out)) hb); clear BK134; clear HB; have BK134 := n0_; have HB := n1_; clear n0_ n1_; (try clear hb); (try clear hb2); (try clear hk); (try clear hi); have hcz47_0 : w46.cell? ⟨gb134, 0, none⟩ = some (.int .i64 a0_0) := (blk_cell BK134.out 0).trans rfl; have hcz47_1 : w46.cell? ⟨gb134, 1, none⟩ = some (.slice A0_1 l0_1.length c0_1) := (blk_cell BK134.out 1).trans rfl; have hcz47_2 : w46.cell? ⟨gb134, 2, none⟩ = some (.int .i64 a0_2) := (blk_cell BK134.out 2).trans rfl; have hcz47_3 : w46.cell? ⟨gb134, 3, none⟩ = some (.int .i64 a0_3) := (blk_cell BK134.out 3).trans rfl; have hcz47_4 : w46.cell? ⟨gb134, 4, none⟩ = some (.slice A0_4 l0_4.length c0_4) := (blk_cell BK134.out 4).trans rfl; have hcz47_5 : w46.cell? ⟨gb134, 5, none⟩ = some (.int .i64 a0_5) := (blk_cell BK134.out 5).trans rfl; have hcz47_6 : w46.cell? ⟨gb134, 6, none⟩ = some (.string a0_6) := (blk_cell BK134.out 6).trans rfl; have hcz47_7 : w46.cell? ⟨gb134, 7, none⟩ = some (.string a0_7) := (blk_cell BK134.out 7).trans rfl; have hfz47_0 := blk_frozen BK134.out 0; have hfz47_1 := blk_frozen BK134.out 1; have hfz47_2 := blk_frozen BK134.out 2; have hfz47_3 := blk_frozen BK134.out 3; have hfz47_4 := blk_frozen BK134.out 4; have hfz47_5 := blk_frozen BK134.out 5; have hfz47_6 := blk_frozen BK134.out 6; have hfz47_7 := blk_frozen BK134.out 7) | (go_at_call 45; (with_reducible refine (node_ValidItems.calls _ _ l0_4 true _ ?side1 ?side2 A34.out).mono ?_); (case side1 => repeat (first | exact (Kd.C_below HR0_4.out HB.out) | (with_reducible refine Kd.C_alloc ?_ _) | (with_reducible refine Kd.C_drewN ?_ _) | (with_reducible refine Kd.C_drew ?_))); (case side2 => exact HC0_4.out); rintro e w48 ⟨rfl, hb⟩; have n0_ := Aside0.mk (blk_below (g := gb134) (o := .cells #[.int .i64 a0_0, .slice A0_1 l0_1.length c0_1, .int .i64 a0_2, .int .i64 a0_3, .slice A0_4 l0_4.length c0_4, .int .i64 a0_5, .string a0_6, .string a0_7] 27 (0, 0)) (by (with_reducible repeat (first | refine blk_drewN ?_ _ | refine blk_drew ?_ | refine blk_alloc ?_ _)); exact BK134.out) hb); have n1_ := Aside0.mk (below_step (by repeat (first | (with_reducible first | exact HB.out | apply below_alloc | apply pw_below_drewN | apply below_drew1 | refine below_set ?_ GE134.out) | exact HB.out)) hb); clear BK134; clear HB; have BK134 := n0_; have HB := n1_; clear n0_ n1_; (try clear hb); (try clear hb2); (try clear hk); (try clear hi); have hcz49_0 : w48.cell? ⟨gb134, 0, none⟩ = some (.int .i64 a0_0) := (blk_cell BK134.out 0).trans rfl; have hcz49_1 : w48.cell? ⟨gb134, 1, none⟩ = some (.slice A0_1 l0_1.length c0_1) := (blk_cell BK134.out 1).trans rfl; have hcz49_2 : w48.cell? ⟨gb134, 2, none⟩ = some (.int .i64 a0_2) := (blk_cell BK134.out 2).trans rfl; have hcz49_3 : w48.cell? ⟨gb134, 3, none⟩ = some (.int .i64 a0_3) := (blk_cell BK134.out 3).trans rfl; have hcz49_4 : w48.cell? ⟨gb134, 4, none⟩ = some (.slice A0_4 l0_4.length c0_4) := (blk_cell BK134.out 4).trans rfl; have hcz49_5 : w48.cell? ⟨gb134, 5, none⟩ = some (.int .i64 a0_5) := (blk_cell BK134.out 5).trans rfl; have hcz49_6 : w48.cell? ⟨gb134, 6, none⟩ = some (.string a0_6) := (blk_cell BK134.out 6).trans rfl; have hcz49_7 : w48.cell? ⟨gb134, 7, none⟩ = some (.string a0_7) := (blk_cell BK134.out 7).trans rfl; have hfz49_0 := blk_frozen BK134.out 0; have hfz49_1 := blk_frozen BK134.out 1; have hfz49_2 := blk_frozen BK134.out 2; have hfz49_3 := blk_frozen BK134.out 3; have hfz49_4 := blk_frozen BK134.out 4; have hfz49_5 := blk_frozen BK134.out 5; have hfz49_6 := blk_frozen BK134.out 6; have hfz49_7 := blk_frozen BK134.out 7; have p139 : 0 ≤ (0 : Int) := (by omega); have q139 : 0 < (l0_4.length : Int) := of_decide_eq_true (by first | (with_reducible assumption) | assumption); obtain ⟨ad139, A139_3, c139_3, e139, hx139_0, hx139_1, hx139_2, hx139_3, hl139_3, hi139_3⟩ := at_T24 HR0_4.out 0 p139 q139; cases e139; have qi139 : (0 < l0_4.length) = True := eq_true (by omega); (try rw [show ((0 : Int)).toNat = 0 from rfl] at hx139_0); (try rw [show 0 * 4 = 0 from rfl] at hx139_0); (try rw [Addr.add_zero'] at hx139_0); (try rw [show ((0 : Int)).toNat = 0 from rfl] at hx139_1); (try rw [show 0 * 4 = 0 from rfl] at hx139_1); (try rw [Addr.add_zero'] at hx139_1); (try rw [show ((0 : Int)).toNat = 0 from rfl] at hx139_2); (try rw [show 0 * 4 = 0 from rfl] at hx139_2); (try rw [Addr.add_zero'] at hx139_2); (try rw [show ((0 : Int)).toNat = 0 from rfl] at hx139_3); (try rw [show 0 * 4 = 0 from rfl] at hx139_3); (try rw [Addr.add_zero'] at hx139_3); replace hx139_0 := (HB.out.cell (World.block_lt_of_cell? w _ hx139_0)).trans hx139_0; replace hx139_1 := (HB.out.cell (World.block_lt_of_cell? w _ hx139_1)).trans hx139_1; replace hx139_2 := (HB.out.cell (World.block_lt_of_cell? w _ hx139_2)).trans hx139_2; replace hx139_3 := (HB.out.cell (World.block_lt_of_cell? w _ hx139_3)).trans hx139_3; have HR139_3 := Aside0.mk hi139_3; have HC139_3 := Aside0.mk hl139_3; clear hi139_3 hl139_3; replace p139 := eq_true p139; replace q139 := eq_true q139))
                            go_ret
                            exact ⟨by first | rfl | (simp [errW_none, errW_some] <;> rfl) | (simp [*, errW_none, errW_some] <;> rfl), by repeat (first | (with_reducible first | exact HB.out | apply below_alloc | apply pw_below_drewN | apply below_drew1 | refine below_set ?_ GE134.out) | exact HB.out)⟩
                        · rw [if_neg c37] at H
                          have c37b0 : decide (0 ≤ a0_5) = false := decide_eq_false c37
                          clear c37
                          obtain rfl := Option.some.inj H
                          have hcz50_0 : wc.cell? ⟨gb134, 0, none⟩ = some (.int .i64 a0_0) := (blk_cell BK134.out 0).trans rfl
                          have hcz50_1 : wc.cell? ⟨gb134, 1, none⟩ = some (.slice A0_1 l0_1.length c0_1) := (blk_cell BK134.out 1).trans rfl
                          have hcz50_2 : wc.cell? ⟨gb134, 2, none⟩ = some (.int .i64 a0_2) := (blk_cell BK134.out 2).trans rfl
                          have hcz50_3 : wc.cell? ⟨gb134, 3, none⟩ = some (.int .i64 a0_3) := (blk_cell BK134.out 3).trans rfl
                          have hcz50_4 : wc.cell? ⟨gb134, 4, none⟩ = some (.slice A0_4 l0_4.length c0_4) := (blk_cell BK134.out 4).trans rfl
                          have hcz50_5 : wc.cell? ⟨gb134, 5, none⟩ = some (.int .i64 a0_5) := (blk_cell BK134.out 5).trans rfl
                          have hcz50_6 : wc.cell? ⟨gb134, 6, none⟩ = some (.string a0_6) := (blk_cell BK134.out 6).trans rfl
                          have hcz50_7 : wc.cell? ⟨gb134, 7, none⟩ = some (.string a0_7) := (blk_cell BK134.out 7).trans rfl
                          have hfz50_0 := blk_frozen BK134.out 0
                          have hfz50_1 := blk_frozen BK134.out 1
                          have hfz50_2 := blk_frozen BK134.out 2
                          have hfz50_3 := blk_frozen BK134.out 3
                          have hfz50_4 := blk_frozen BK134.out 4
                          have hfz50_5 := blk_frozen BK134.out 5
                          have hfz50_6 := blk_frozen BK134.out 6
                          have hfz50_7 := blk_frozen BK134.out 7
                          go_wp2_with (first | ((with_reducible refine gate_callee (f := 44) rfl ?_); refine goesL_ (some 36) rfl rfl Tryd.func44 (by kernel_rfl) rfl #[.agg #[.int .i64 a0_0, .slice A0_1 l0_1.length c0_1, .int .i64 a0_2, .int .i64 a0_3, .slice A0_4 l0_4.length c0_4, .int .i64 a0_5, .string a0_6, .string a0_7]] rfl (by (try simp only [List.map_toArray, List.map_cons, List.map_nil]); first | done | rfl | (simp only [List.length_drop, List.length_take]; rfl)) ?_; (with_reducible refine (edit_bare.calls a0_0 _ _ l0_1 a0_2 a0_3 _ _ l0_4 a0_5 a0_6 a0_7 true _ ?side1 ?side2 ?side3 ?side4 A27.out).mono ?_); (case side1 => repeat (first | exact (Kd.C_below HR0_1.out HB.out) | (with_reducible refine Kd.C_alloc ?_ _) | (with_reducible refine Kd.C_drewN ?_ _) | (with_reducible refine Kd.C_drew ?_))); (case side2 => exact HC0_1.out); (case side3 => repeat (first | exact (Kd.C_below HR0_4.out HB.out) | (with_reducible refine Kd.C_alloc ?_ _) | (with_reducible refine Kd.C_drewN ?_ _) | (with_reducible refine Kd.C_drew ?_))); (case side4 => exact HC0_4.out); rintro e w51 ⟨rfl, hb⟩; refine ⟨_, rfl, ?_⟩; have n0_ := Aside0.mk (blk_below (g := gb134) (o := .cells #[.int .i64 a0_0, .slice A0_1 l0_1.length c0_1, .int .i64 a0_2, .int .i64 a0_3, .slice A0_4 l0_4.length c0_4, .int .i64 a0_5, .string a0_6, .string a0_7] 27 (0, 0)) (by (with_reducible repeat (first | refine blk_drewN ?_ _ | refine blk_drew ?_ | refine blk_alloc ?_ _)); exact BK134.out) hb); have n1_ := Aside0.mk (below_step (by repeat (first | (with_reducible first | exact HB.out | apply below_alloc | apply pw_below_drewN | apply below_drew1 | refine below_set ?_ GE134.out) | exact HB.out)) hb); clear BK134; clear HB; have BK134 := n0_; have HB := n1_; clear n0_ n1_; (try clear hb); (try clear hb2); (try clear hk); (try clear hi); have hcz52_0 : w51.cell? ⟨gb134, 0, none⟩ = some (.int .i64 a0_0) := (blk_cell BK134.out 0).trans rfl; have hcz52_1 : w51.cell? ⟨gb134, 1, none⟩ = some (.slice A0_1 l0_1.length c0_1) := (blk_cell BK134.out 1).trans rfl; have hcz52_2 : w51.cell? ⟨gb134, 2, none⟩ = some (.int .i64 a0_2) := (blk_cell BK134.out 2).trans rfl; have hcz52_3 : w51.cell? ⟨gb134, 3, none⟩ = some (.int .i64 a0_3) := (blk_cell BK134.out 3).trans rfl; have hcz52_4 : w51.cell? ⟨gb134, 4, none⟩ = some (.slice A0_4 l0_4.length c0_4) := (blk_cell BK134.out 4).trans rfl; have hcz52_5 : w51.cell? ⟨gb134, 5, none⟩ = some (.int .i64 a0_5) := (blk_cell BK134.out 5).trans rfl; have hcz52_6 : w51.cell? ⟨gb134, 6, none⟩ = some (.string a0_6) := (blk_cell BK134.out 6).trans rfl; have hcz52_7 : w51.cell? ⟨gb134, 7, none⟩ = some (.string a0_7) := (blk_cell BK134.out 7).trans rfl; have hfz52_0 := blk_frozen BK134.out 0; have hfz52_1 := blk_frozen BK134.out 1; have hfz52_2 := blk_frozen BK134.out 2; have hfz52_3 := blk_frozen BK134.out 3; have hfz52_4 := blk_frozen BK134.out 4; have hfz52_5 := blk_frozen BK134.out 5; have hfz52_6 := blk_frozen BK134.out 6; have hfz52_7 := blk_frozen BK134.out 7) | (go_at_call 45; (with_reducible refine (node_ValidItems.calls _ _ l0_4 true _ ?side1 ?side2 A34.out).mono ?_); (case side1 => repeat (first | exact (Kd.C_below HR0_4.out HB.out) | (with_reducible refine Kd.C_alloc ?_ _) | (with_reducible refine Kd.C_drewN ?_ _) | (with_reducible refine Kd.C_drew ?_))); (case side2 => exact HC0_4.out); rintro e w53 ⟨rfl, hb⟩; have n0_ := Aside0.mk (blk_below (g := gb134) (o := .cells #[.int .i64 a0_0, .slice A0_1 l0_1.length c0_1, .int .i64 a0_2, .int .i64 a0_3, .slice A0_4 l0_4.length c0_4, .int .i64 a0_5, .string a0_6, .string a0_7] 27 (0, 0)) (by (with_reducible repeat (first | refine blk_drewN ?_ _ | refine blk_drew ?_ | refine blk_alloc ?_ _)); exact BK134.out) hb); have n1_ := Aside0.mk (below_step (by repeat (first | (with_reducible first | exact HB.out | apply below_alloc | apply pw_below_drewN | apply below_drew1 | refine below_set ?_ GE134.out) | exact HB.out)) hb); clear BK134; clear HB; have BK134 := n0_; have HB := n1_; clear n0_ n1_; (try clear hb); (try clear hb2); (try clear hk); (try clear hi); have hcz54_0 : w53.cell? ⟨gb134, 0, none⟩ = some (.int .i64 a0_0) := (blk_cell BK134.out 0).trans rfl; have hcz54_1 : w53.cell? ⟨gb134, 1, none⟩ = some (.slice A0_1 l0_1.length c0_1) := (blk_cell BK134.out 1).trans rfl; have hcz54_2 : w53.cell? ⟨gb134, 2, none⟩ = some (.int .i64 a0_2) := (blk_cell BK134.out 2).trans rfl; have hcz54_3 : w53.cell? ⟨gb134, 3, none⟩ = some (.int .i64 a0_3) := (blk_cell BK134.out 3).trans rfl; have hcz54_4 : w53.cell? ⟨gb134, 4, none⟩ = some (.slice A0_4 l0_4.length c0_4) := (blk_cell BK134.out 4).trans rfl; have hcz54_5 : w53.cell? ⟨gb134, 5, none⟩ = some (.int .i64 a0_5) := (blk_cell BK134.out 5).trans rfl; have hcz54_6 : w53.cell? ⟨gb134, 6, none⟩ = some (.string a0_6) := (blk_cell BK134.out 6).trans rfl; have hcz54_7 : w53.cell? ⟨gb134, 7, none⟩ = some (.string a0_7) := (blk_cell BK134.out 7).trans rfl; have hfz54_0 := blk_frozen BK134.out 0; have hfz54_1 := blk_frozen BK134.out 1; have hfz54_2 := blk_frozen BK134.out 2; have hfz54_3 := blk_frozen BK134.out 3; have hfz54_4 := blk_frozen BK134.out 4; have hfz54_5 := blk_frozen BK134.out 5; have hfz54_6 := blk_frozen BK134.out 6; have hfz54_7 := blk_frozen BK134.out 7; have p139 : 0 ≤ (0 : Int) := (by omega); have q139 : 0 < (l0_4.length : Int) := of_decide_eq_true (by first | (with_reducible assumption) | assumption); obtain ⟨ad139, A139_3, c139_3, e139, hx139_0, hx139_1, hx139_2, hx139_3, hl139_3, hi139_3⟩ := at_T24 HR0_4.out 0 p139 q139; cases e139; have qi139 : (0 < l0_4.length) = True := eq_true (by omega); (try rw [show ((0 : Int)).toNat = 0 from rfl] at hx139_0); (try rw [show 0 * 4 = 0 from rfl] at hx139_0); (try rw [Addr.add_zero'] at hx139_0); (try rw [show ((0 : Int)).toNat = 0 from rfl] at hx139_1); (try rw [show 0 * 4 = 0 from rfl] at hx139_1); (try rw [Addr.add_zero'] at hx139_1); (try rw [show ((0 : Int)).toNat = 0 from rfl] at hx139_2); (try rw [show 0 * 4 = 0 from rfl] at hx139_2); (try rw [Addr.add_zero'] at hx139_2); (try rw [show ((0 : Int)).toNat = 0 from rfl] at hx139_3); (try rw [show 0 * 4 = 0 from rfl] at hx139_3); (try rw [Addr.add_zero'] at hx139_3); replace hx139_0 := (HB.out.cell (World.block_lt_of_cell? w _ hx139_0)).trans hx139_0; replace hx139_1 := (HB.out.cell (World.block_lt_of_cell? w _ hx139_1)).trans hx139_1; replace hx139_2 := (HB.out.cell (World.block_lt_of_cell? w _ hx139_2)).trans hx139_2; replace hx139_3 := (HB.out.cell (World.block_lt_of_cell? w _ hx139_3)).trans hx139_3; have HR139_3 := Aside0.mk hi139_3; have HC139_3 := Aside0.mk hl139_3; clear hi139_3 hl139_3; replace p139 := eq_true p139; replace q139 := eq_true q139))
                          go_ret
                          exact ⟨by first | rfl | (simp [errW_none, errW_some] <;> rfl) | (simp [*, errW_none, errW_some] <;> rfl), by repeat (first | (with_reducible first | exact HB.out | apply below_alloc | apply pw_below_drewN | apply below_drew1 | refine below_set ?_ GE134.out) | exact HB.out)⟩
                      · rw [if_neg c36] at H
                        exact absurd H (by simp)
                    · replace c35 := Bool.eq_false_iff.mpr c35
                      subst c35
                      have H1 : (some false) = some r := by rw [if_neg (show ¬ (false = true) by decide)] at H; exact H
                      clear H
                      have H := H1
                      clear H1
                      obtain rfl := Option.some.inj H
                      have hcz55_0 : wc.cell? ⟨gb134, 0, none⟩ = some (.int .i64 a0_0) := (blk_cell BK134.out 0).trans rfl
                      have hcz55_1 : wc.cell? ⟨gb134, 1, none⟩ = some (.slice A0_1 l0_1.length c0_1) := (blk_cell BK134.out 1).trans rfl
                      have hcz55_2 : wc.cell? ⟨gb134, 2, none⟩ = some (.int .i64 a0_2) := (blk_cell BK134.out 2).trans rfl
                      have hcz55_3 : wc.cell? ⟨gb134, 3, none⟩ = some (.int .i64 a0_3) := (blk_cell BK134.out 3).trans rfl
                      have hcz55_4 : wc.cell? ⟨gb134, 4, none⟩ = some (.slice A0_4 l0_4.length c0_4) := (blk_cell BK134.out 4).trans rfl
                      have hcz55_5 : wc.cell? ⟨gb134, 5, none⟩ = some (.int .i64 a0_5) := (blk_cell BK134.out 5).trans rfl
                      have hcz55_6 : wc.cell? ⟨gb134, 6, none⟩ = some (.string a0_6) := (blk_cell BK134.out 6).trans rfl
                      have hcz55_7 : wc.cell? ⟨gb134, 7, none⟩ = some (.string a0_7) := (blk_cell BK134.out 7).trans rfl
                      have hfz55_0 := blk_frozen BK134.out 0
                      have hfz55_1 := blk_frozen BK134.out 1
                      have hfz55_2 := blk_frozen BK134.out 2
                      have hfz55_3 := blk_frozen BK134.out 3
                      have hfz55_4 := blk_frozen BK134.out 4
                      have hfz55_5 := blk_frozen BK134.out 5
                      have hfz55_6 := blk_frozen BK134.out 6
                      have hfz55_7 := blk_frozen BK134.out 7
                      go_wp2_with (first | ((with_reducible refine gate_callee (f := 44) rfl ?_); refine goesL_ (some 36) rfl rfl Tryd.func44 (by kernel_rfl) rfl #[.agg #[.int .i64 a0_0, .slice A0_1 l0_1.length c0_1, .int .i64 a0_2, .int .i64 a0_3, .slice A0_4 l0_4.length c0_4, .int .i64 a0_5, .string a0_6, .string a0_7]] rfl (by (try simp only [List.map_toArray, List.map_cons, List.map_nil]); first | done | rfl | (simp only [List.length_drop, List.length_take]; rfl)) ?_; (with_reducible refine (edit_bare.calls a0_0 _ _ l0_1 a0_2 a0_3 _ _ l0_4 a0_5 a0_6 a0_7 true _ ?side1 ?side2 ?side3 ?side4 A27.out).mono ?_); (case side1 => repeat (first | exact (Kd.C_below HR0_1.out HB.out) | (with_reducible refine Kd.C_alloc ?_ _) | (with_reducible refine Kd.C_drewN ?_ _) | (with_reducible refine Kd.C_drew ?_))); (case side2 => exact HC0_1.out); (case side3 => repeat (first | exact (Kd.C_below HR0_4.out HB.out) | (with_reducible refine Kd.C_alloc ?_ _) | (with_reducible refine Kd.C_drewN ?_ _) | (with_reducible refine Kd.C_drew ?_))); (case side4 => exact HC0_4.out); rintro e w56 ⟨rfl, hb⟩; refine ⟨_, rfl, ?_⟩; have n0_ := Aside0.mk (blk_below (g := gb134) (o := .cells #[.int .i64 a0_0, .slice A0_1 l0_1.length c0_1, .int .i64 a0_2, .int .i64 a0_3, .slice A0_4 l0_4.length c0_4, .int .i64 a0_5, .string a0_6, .string a0_7] 27 (0, 0)) (by (with_reducible repeat (first | refine blk_drewN ?_ _ | refine blk_drew ?_ | refine blk_alloc ?_ _)); exact BK134.out) hb); have n1_ := Aside0.mk (below_step (by repeat (first | (with_reducible first | exact HB.out | apply below_alloc | apply pw_below_drewN | apply below_drew1 | refine below_set ?_ GE134.out) | exact HB.out)) hb); clear BK134; clear HB; have BK134 := n0_; have HB := n1_; clear n0_ n1_; (try clear hb); (try clear hb2); (try clear hk); (try clear hi); have hcz57_0 : w56.cell? ⟨gb134, 0, none⟩ = some (.int .i64 a0_0) := (blk_cell BK134.out 0).trans rfl; have hcz57_1 : w56.cell? ⟨gb134, 1, none⟩ = some (.slice A0_1 l0_1.length c0_1) := (blk_cell BK134.out 1).trans rfl; have hcz57_2 : w56.cell? ⟨gb134, 2, none⟩ = some (.int .i64 a0_2) := (blk_cell BK134.out 2).trans rfl; have hcz57_3 : w56.cell? ⟨gb134, 3, none⟩ = some (.int .i64 a0_3) := (blk_cell BK134.out 3).trans rfl; have hcz57_4 : w56.cell? ⟨gb134, 4, none⟩ = some (.slice A0_4 l0_4.length c0_4) := (blk_cell BK134.out 4).trans rfl; have hcz57_5 : w56.cell? ⟨gb134, 5, none⟩ = some (.int .i64 a0_5) := (blk_cell BK134.out 5).trans rfl; have hcz57_6 : w56.cell? ⟨gb134, 6, none⟩ = some (.string a0_6) := (blk_cell BK134.out 6).trans rfl; have hcz57_7 : w56.cell? ⟨gb134, 7, none⟩ = some (.string a0_7) := (blk_cell BK134.out 7).trans rfl; have hfz57_0 := blk_frozen BK134.out 0; have hfz57_1 := blk_frozen BK134.out 1; have hfz57_2 := blk_frozen BK134.out 2; have hfz57_3 := blk_frozen BK134.out 3; have hfz57_4 := blk_frozen BK134.out 4; have hfz57_5 := blk_frozen BK134.out 5; have hfz57_6 := blk_frozen BK134.out 6; have hfz57_7 := blk_frozen BK134.out 7) | (go_at_call 45; (with_reducible refine (node_ValidItems.calls _ _ l0_4 false _ ?side1 ?side2 A34.out).mono ?_); (case side1 => repeat (first | exact (Kd.C_below HR0_4.out HB.out) | (with_reducible refine Kd.C_alloc ?_ _) | (with_reducible refine Kd.C_drewN ?_ _) | (with_reducible refine Kd.C_drew ?_))); (case side2 => exact HC0_4.out); rintro e w58 ⟨rfl, hb⟩; have n0_ := Aside0.mk (blk_below (g := gb134) (o := .cells #[.int .i64 a0_0, .slice A0_1 l0_1.length c0_1, .int .i64 a0_2, .int .i64 a0_3, .slice A0_4 l0_4.length c0_4, .int .i64 a0_5, .string a0_6, .string a0_7] 27 (0, 0)) (by (with_reducible repeat (first | refine blk_drewN ?_ _ | refine blk_drew ?_ | refine blk_alloc ?_ _)); exact BK134.out) hb); have n1_ := Aside0.mk (below_step (by repeat (first | (with_reducible first | exact HB.out | apply below_alloc | apply pw_below_drewN | apply below_drew1 | refine below_set ?_ GE134.out) | exact HB.out)) hb); clear BK134; clear HB; have BK134 := n0_; have HB := n1_; clear n0_ n1_; (try clear hb); (try clear hb2); (try clear hk); (try clear hi)))
                      go_ret
                      exact ⟨by first | rfl | (simp [errW_none, errW_some] <;> rfl) | (simp [*, errW_none, errW_some] <;> rfl), by repeat (first | (with_reducible first | exact HB.out | apply below_alloc | apply pw_below_drewN | apply below_drew1 | refine below_set ?_ GE134.out) | exact HB.out)⟩
                  · rw [if_neg c33] at H
                    have c33b0 : ((l0_4.length : Int) == 1) = false := beq_eq_false_iff_ne.mpr c33
                    have c33b1 : ((l0_4.length : Int) != 1) = true := bne_iff_ne.mpr c33
                    obtain rfl := Option.some.inj H
                    have hcz59_0 : wc.cell? ⟨gb134, 0, none⟩ = some (.int .i64 a0_0) := (blk_cell BK134.out 0).trans rfl
                    have hcz59_1 : wc.cell? ⟨gb134, 1, none⟩ = some (.slice A0_1 l0_1.length c0_1) := (blk_cell BK134.out 1).trans rfl
                    have hcz59_2 : wc.cell? ⟨gb134, 2, none⟩ = some (.int .i64 a0_2) := (blk_cell BK134.out 2).trans rfl
                    have hcz59_3 : wc.cell? ⟨gb134, 3, none⟩ = some (.int .i64 a0_3) := (blk_cell BK134.out 3).trans rfl
                    have hcz59_4 : wc.cell? ⟨gb134, 4, none⟩ = some (.slice A0_4 l0_4.length c0_4) := (blk_cell BK134.out 4).trans rfl
                    have hcz59_5 : wc.cell? ⟨gb134, 5, none⟩ = some (.int .i64 a0_5) := (blk_cell BK134.out 5).trans rfl
                    have hcz59_6 : wc.cell? ⟨gb134, 6, none⟩ = some (.string a0_6) := (blk_cell BK134.out 6).trans rfl
                    have hcz59_7 : wc.cell? ⟨gb134, 7, none⟩ = some (.string a0_7) := (blk_cell BK134.out 7).trans rfl
                    have hfz59_0 := blk_frozen BK134.out 0
                    have hfz59_1 := blk_frozen BK134.out 1
                    have hfz59_2 := blk_frozen BK134.out 2
                    have hfz59_3 := blk_frozen BK134.out 3
                    have hfz59_4 := blk_frozen BK134.out 4
                    have hfz59_5 := blk_frozen BK134.out 5
                    have hfz59_6 := blk_frozen BK134.out 6
                    have hfz59_7 := blk_frozen BK134.out 7
                    go_wp2_with (first | ((with_reducible refine gate_callee (f := 44) rfl ?_); refine goesL_ (some 36) rfl rfl Tryd.func44 (by kernel_rfl) rfl #[.agg #[.int .i64 a0_0, .slice A0_1 l0_1.length c0_1, .int .i64 a0_2, .int .i64 a0_3, .slice A0_4 l0_4.length c0_4, .int .i64 a0_5, .string a0_6, .string a0_7]] rfl (by (try simp only [List.map_toArray, List.map_cons, List.map_nil]); first | done | rfl | (simp only [List.length_drop, List.length_take]; rfl)) ?_; (with_reducible refine (edit_bare.calls a0_0 _ _ l0_1 a0_2 a0_3 _ _ l0_4 a0_5 a0_6 a0_7 true _ ?side1 ?side2 ?side3 ?side4 A27.out).mono ?_); (case side1 => repeat (first | exact (Kd.C_below HR0_1.out HB.out) | (with_reducible refine Kd.C_alloc ?_ _) | (with_reducible refine Kd.C_drewN ?_ _) | (with_reducible refine Kd.C_drew ?_))); (case side2 => exact HC0_1.out); (case side3 => repeat (first | exact (Kd.C_below HR0_4.out HB.out) | (with_reducible refine Kd.C_alloc ?_ _) | (with_reducible refine Kd.C_drewN ?_ _) | (with_reducible refine Kd.C_drew ?_))); (case side4 => exact HC0_4.out); rintro e w60 ⟨rfl, hb⟩; refine ⟨_, rfl, ?_⟩; have n0_ := Aside0.mk (blk_below (g := gb134) (o := .cells #[.int .i64 a0_0, .slice A0_1 l0_1.length c0_1, .int .i64 a0_2, .int .i64 a0_3, .slice A0_4 l0_4.length c0_4, .int .i64 a0_5, .string a0_6, .string a0_7] 27 (0, 0)) (by (with_reducible repeat (first | refine blk_drewN ?_ _ | refine blk_drew ?_ | refine blk_alloc ?_ _)); exact BK134.out) hb); have n1_ := Aside0.mk (below_step (by repeat (first | (with_reducible first | exact HB.out | apply below_alloc | apply pw_below_drewN | apply below_drew1 | refine below_set ?_ GE134.out) | exact HB.out)) hb); clear BK134; clear HB; have BK134 := n0_; have HB := n1_; clear n0_ n1_; (try clear hb); (try clear hb2); (try clear hk); (try clear hi); have hcz61_0 : w60.cell? ⟨gb134, 0, none⟩ = some (.int .i64 a0_0) := (blk_cell BK134.out 0).trans rfl; have hcz61_1 : w60.cell? ⟨gb134, 1, none⟩ = some (.slice A0_1 l0_1.length c0_1) := (blk_cell BK134.out 1).trans rfl; have hcz61_2 : w60.cell? ⟨gb134, 2, none⟩ = some (.int .i64 a0_2) := (blk_cell BK134.out 2).trans rfl; have hcz61_3 : w60.cell? ⟨gb134, 3, none⟩ = some (.int .i64 a0_3) := (blk_cell BK134.out 3).trans rfl; have hcz61_4 : w60.cell? ⟨gb134, 4, none⟩ = some (.slice A0_4 l0_4.length c0_4) := (blk_cell BK134.out 4).trans rfl; have hcz61_5 : w60.cell? ⟨gb134, 5, none⟩ = some (.int .i64 a0_5) := (blk_cell BK134.out 5).trans rfl; have hcz61_6 : w60.cell? ⟨gb134, 6, none⟩ = some (.string a0_6) := (blk_cell BK134.out 6).trans rfl; have hcz61_7 : w60.cell? ⟨gb134, 7, none⟩ = some (.string a0_7) := (blk_cell BK134.out 7).trans rfl; have hfz61_0 := blk_frozen BK134.out 0; have hfz61_1 := blk_frozen BK134.out 1; have hfz61_2 := blk_frozen BK134.out 2; have hfz61_3 := blk_frozen BK134.out 3; have hfz61_4 := blk_frozen BK134.out 4; have hfz61_5 := blk_frozen BK134.out 5; have hfz61_6 := blk_frozen BK134.out 6; have hfz61_7 := blk_frozen BK134.out 7))
                    go_ret
                    exact ⟨by first | rfl | (simp [errW_none, errW_some] <;> rfl) | (simp [*, errW_none, errW_some] <;> rfl), by repeat (first | (with_reducible first | exact HB.out | apply below_alloc | apply pw_below_drewN | apply below_drew1 | refine below_set ?_ GE134.out) | exact HB.out)⟩
              · replace c28 := Bool.eq_false_iff.mpr c28
                subst c28
                have H1 : (some false) = some r := by rw [if_neg (show ¬ (false = true) by decide)] at H; exact H
                clear H
                have H := H1
                clear H1
                obtain rfl := Option.some.inj H
                have hcz62_0 : wc.cell? ⟨gb134, 0, none⟩ = some (.int .i64 a0_0) := (blk_cell BK134.out 0).trans rfl
                have hcz62_1 : wc.cell? ⟨gb134, 1, none⟩ = some (.slice A0_1 l0_1.length c0_1) := (blk_cell BK134.out 1).trans rfl
                have hcz62_2 : wc.cell? ⟨gb134, 2, none⟩ = some (.int .i64 a0_2) := (blk_cell BK134.out 2).trans rfl
                have hcz62_3 : wc.cell? ⟨gb134, 3, none⟩ = some (.int .i64 a0_3) := (blk_cell BK134.out 3).trans rfl
                have hcz62_4 : wc.cell? ⟨gb134, 4, none⟩ = some (.slice A0_4 l0_4.length c0_4) := (blk_cell BK134.out 4).trans rfl
                have hcz62_5 : wc.cell? ⟨gb134, 5, none⟩ = some (.int .i64 a0_5) := (blk_cell BK134.out 5).trans rfl
                have hcz62_6 : wc.cell? ⟨gb134, 6, none⟩ = some (.string a0_6) := (blk_cell BK134.out 6).trans rfl
                have hcz62_7 : wc.cell? ⟨gb134, 7, none⟩ = some (.string a0_7) := (blk_cell BK134.out 7).trans rfl
                have hfz62_0 := blk_frozen BK134.out 0
                have hfz62_1 := blk_frozen BK134.out 1
                have hfz62_2 := blk_frozen BK134.out 2
                have hfz62_3 := blk_frozen BK134.out 3
                have hfz62_4 := blk_frozen BK134.out 4
                have hfz62_5 := blk_frozen BK134.out 5
                have hfz62_6 := blk_frozen BK134.out 6
                have hfz62_7 := blk_frozen BK134.out 7
                go_wp2_with (first | ((with_reducible refine gate_callee (f := 44) rfl ?_); refine goesL_ (some 36) rfl rfl Tryd.func44 (by kernel_rfl) rfl #[.agg #[.int .i64 a0_0, .slice A0_1 l0_1.length c0_1, .int .i64 a0_2, .int .i64 a0_3, .slice A0_4 l0_4.length c0_4, .int .i64 a0_5, .string a0_6, .string a0_7]] rfl (by (try simp only [List.map_toArray, List.map_cons, List.map_nil]); first | done | rfl | (simp only [List.length_drop, List.length_take]; rfl)) ?_; (with_reducible refine (edit_bare.calls a0_0 _ _ l0_1 a0_2 a0_3 _ _ l0_4 a0_5 a0_6 a0_7 false _ ?side1 ?side2 ?side3 ?side4 A27.out).mono ?_); (case side1 => repeat (first | exact (Kd.C_below HR0_1.out HB.out) | (with_reducible refine Kd.C_alloc ?_ _) | (with_reducible refine Kd.C_drewN ?_ _) | (with_reducible refine Kd.C_drew ?_))); (case side2 => exact HC0_1.out); (case side3 => repeat (first | exact (Kd.C_below HR0_4.out HB.out) | (with_reducible refine Kd.C_alloc ?_ _) | (with_reducible refine Kd.C_drewN ?_ _) | (with_reducible refine Kd.C_drew ?_))); (case side4 => exact HC0_4.out); rintro e w63 ⟨rfl, hb⟩; refine ⟨_, rfl, ?_⟩; have n0_ := Aside0.mk (blk_below (g := gb134) (o := .cells #[.int .i64 a0_0, .slice A0_1 l0_1.length c0_1, .int .i64 a0_2, .int .i64 a0_3, .slice A0_4 l0_4.length c0_4, .int .i64 a0_5, .string a0_6, .string a0_7] 27 (0, 0)) (by (with_reducible repeat (first | refine blk_drewN ?_ _ | refine blk_drew ?_ | refine blk_alloc ?_ _)); exact BK134.out) hb); have n1_ := Aside0.mk (below_step (by repeat (first | (with_reducible first | exact HB.out | apply below_alloc | apply pw_below_drewN | apply below_drew1 | refine below_set ?_ GE134.out) | exact HB.out)) hb); clear BK134; clear HB; have BK134 := n0_; have HB := n1_; clear n0_ n1_; (try clear hb); (try clear hb2); (try clear hk); (try clear hi)))
                go_ret
                exact ⟨by first | rfl | (simp [errW_none, errW_some] <;> rfl) | (simp [*, errW_none, errW_some] <;> rfl), by repeat (first | (with_reducible first | exact HB.out | apply below_alloc | apply pw_below_drewN | apply below_drew1 | refine below_set ?_ GE134.out) | exact HB.out)⟩
            · replace c26 := Bool.eq_false_iff.mpr c26
              subst c26
              have H1 : (if a0_0 = 5 then (if a0_3 = 0 then (if a0_5 = 0 then (if (l0_4.length : Int) = 0 then (some (a0_6.toList != a0_7.toList)) else (some false)) else (some false)) else (some false)) else (some false)) = some r := by rw [if_neg (show ¬ (false = true) by decide)] at H; exact H
              clear H
              have H := H1
              clear H1
              by_cases c64 : a0_0 = 5
              · rw [if_pos c64] at H
                have c64b0 : (a0_0 == 5) = true := beq_iff_eq.mpr c64
                have c64b1 : (a0_0 != 5) = false := bne_eq_false_iff_eq.mpr c64
                clear c64
                by_cases c65 : a0_3 = 0
                · rw [if_pos c65] at H
                  have c65b0 : (a0_3 == 0) = true := beq_iff_eq.mpr c65
                  have c65b1 : (a0_3 != 0) = false := bne_eq_false_iff_eq.mpr c65
                  clear c65
                  by_cases c66 : a0_5 = 0
                  · rw [if_pos c66] at H
                    have c66b0 : (a0_5 == 0) = true := beq_iff_eq.mpr c66
                    have c66b1 : (a0_5 != 0) = false := bne_eq_false_iff_eq.mpr c66
                    clear c66
                    by_cases c67 : (l0_4.length : Int) = 0
                    · rw [if_pos c67] at H
                      have c67b0 : ((l0_4.length : Int) == 0) = true := beq_iff_eq.mpr c67
                      have c67b1 : ((l0_4.length : Int) != 0) = false := bne_eq_false_iff_eq.mpr c67
                      clear c67
                      obtain rfl := Option.some.inj H
                      have hcz68_0 : wc.cell? ⟨gb134, 0, none⟩ = some (.int .i64 a0_0) := (blk_cell BK134.out 0).trans rfl
                      have hcz68_1 : wc.cell? ⟨gb134, 1, none⟩ = some (.slice A0_1 l0_1.length c0_1) := (blk_cell BK134.out 1).trans rfl
                      have hcz68_2 : wc.cell? ⟨gb134, 2, none⟩ = some (.int .i64 a0_2) := (blk_cell BK134.out 2).trans rfl
                      have hcz68_3 : wc.cell? ⟨gb134, 3, none⟩ = some (.int .i64 a0_3) := (blk_cell BK134.out 3).trans rfl
                      have hcz68_4 : wc.cell? ⟨gb134, 4, none⟩ = some (.slice A0_4 l0_4.length c0_4) := (blk_cell BK134.out 4).trans rfl
                      have hcz68_5 : wc.cell? ⟨gb134, 5, none⟩ = some (.int .i64 a0_5) := (blk_cell BK134.out 5).trans rfl
                      have hcz68_6 : wc.cell? ⟨gb134, 6, none⟩ = some (.string a0_6) := (blk_cell BK134.out 6).trans rfl
                      have hcz68_7 : wc.cell? ⟨gb134, 7, none⟩ = some (.string a0_7) := (blk_cell BK134.out 7).trans rfl
                      have hfz68_0 := blk_frozen BK134.out 0
                      have hfz68_1 := blk_frozen BK134.out 1
                      have hfz68_2 := blk_frozen BK134.out 2
                      have hfz68_3 := blk_frozen BK134.out 3
                      have hfz68_4 := blk_frozen BK134.out 4
                      have hfz68_5 := blk_frozen BK134.out 5
                      have hfz68_6 := blk_frozen BK134.out 6
                      have hfz68_7 := blk_frozen BK134.out 7
                      go_wp2
                      go_ret
                      exact ⟨by first | rfl | (simp [errW_none, errW_some] <;> rfl) | (simp [*, errW_none, errW_some] <;> rfl), by repeat (first | (with_reducible first | exact HB.out | apply below_alloc | apply pw_below_drewN | apply below_drew1 | refine below_set ?_ GE134.out) | exact HB.out)⟩
                    · rw [if_neg c67] at H
                      have c67b0 : ((l0_4.length : Int) == 0) = false := beq_eq_false_iff_ne.mpr c67
                      have c67b1 : ((l0_4.length : Int) != 0) = true := bne_iff_ne.mpr c67
                      have c67b2 : ¬ (l0_4 = []) := fun h_ => c67 (by rw [h_]; rfl)
                      obtain rfl := Option.some.inj H
                      have hcz69_0 : wc.cell? ⟨gb134, 0, none⟩ = some (.int .i64 a0_0) := (blk_cell BK134.out 0).trans rfl
                      have hcz69_1 : wc.cell? ⟨gb134, 1, none⟩ = some (.slice A0_1 l0_1.length c0_1) := (blk_cell BK134.out 1).trans rfl
                      have hcz69_2 : wc.cell? ⟨gb134, 2, none⟩ = some (.int .i64 a0_2) := (blk_cell BK134.out 2).trans rfl
                      have hcz69_3 : wc.cell? ⟨gb134, 3, none⟩ = some (.int .i64 a0_3) := (blk_cell BK134.out 3).trans rfl
                      have hcz69_4 : wc.cell? ⟨gb134, 4, none⟩ = some (.slice A0_4 l0_4.length c0_4) := (blk_cell BK134.out 4).trans rfl
                      have hcz69_5 : wc.cell? ⟨gb134, 5, none⟩ = some (.int .i64 a0_5) := (blk_cell BK134.out 5).trans rfl
                      have hcz69_6 : wc.cell? ⟨gb134, 6, none⟩ = some (.string a0_6) := (blk_cell BK134.out 6).trans rfl
                      have hcz69_7 : wc.cell? ⟨gb134, 7, none⟩ = some (.string a0_7) := (blk_cell BK134.out 7).trans rfl
                      have hfz69_0 := blk_frozen BK134.out 0
                      have hfz69_1 := blk_frozen BK134.out 1
                      have hfz69_2 := blk_frozen BK134.out 2
                      have hfz69_3 := blk_frozen BK134.out 3
                      have hfz69_4 := blk_frozen BK134.out 4
                      have hfz69_5 := blk_frozen BK134.out 5
                      have hfz69_6 := blk_frozen BK134.out 6
                      have hfz69_7 := blk_frozen BK134.out 7
                      go_wp2
                      go_ret
                      exact ⟨by first | rfl | (simp [errW_none, errW_some] <;> rfl) | (simp [*, errW_none, errW_some] <;> rfl), by repeat (first | (with_reducible first | exact HB.out | apply below_alloc | apply pw_below_drewN | apply below_drew1 | refine below_set ?_ GE134.out) | exact HB.out)⟩
                  · rw [if_neg c66] at H
                    have c66b0 : (a0_5 == 0) = false := beq_eq_false_iff_ne.mpr c66
                    have c66b1 : (a0_5 != 0) = true := bne_iff_ne.mpr c66
                    obtain rfl := Option.some.inj H
                    have hcz70_0 : wc.cell? ⟨gb134, 0, none⟩ = some (.int .i64 a0_0) := (blk_cell BK134.out 0).trans rfl
                    have hcz70_1 : wc.cell? ⟨gb134, 1, none⟩ = some (.slice A0_1 l0_1.length c0_1) := (blk_cell BK134.out 1).trans rfl
                    have hcz70_2 : wc.cell? ⟨gb134, 2, none⟩ = some (.int .i64 a0_2) := (blk_cell BK134.out 2).trans rfl
                    have hcz70_3 : wc.cell? ⟨gb134, 3, none⟩ = some (.int .i64 a0_3) := (blk_cell BK134.out 3).trans rfl
                    have hcz70_4 : wc.cell? ⟨gb134, 4, none⟩ = some (.slice A0_4 l0_4.length c0_4) := (blk_cell BK134.out 4).trans rfl
                    have hcz70_5 : wc.cell? ⟨gb134, 5, none⟩ = some (.int .i64 a0_5) := (blk_cell BK134.out 5).trans rfl
                    have hcz70_6 : wc.cell? ⟨gb134, 6, none⟩ = some (.string a0_6) := (blk_cell BK134.out 6).trans rfl
                    have hcz70_7 : wc.cell? ⟨gb134, 7, none⟩ = some (.string a0_7) := (blk_cell BK134.out 7).trans rfl
                    have hfz70_0 := blk_frozen BK134.out 0
                    have hfz70_1 := blk_frozen BK134.out 1
                    have hfz70_2 := blk_frozen BK134.out 2
                    have hfz70_3 := blk_frozen BK134.out 3
                    have hfz70_4 := blk_frozen BK134.out 4
                    have hfz70_5 := blk_frozen BK134.out 5
                    have hfz70_6 := blk_frozen BK134.out 6
                    have hfz70_7 := blk_frozen BK134.out 7
                    go_wp2
                    go_ret
                    exact ⟨by first | rfl | (simp [errW_none, errW_some] <;> rfl) | (simp [*, errW_none, errW_some] <;> rfl), by repeat (first | (with_reducible first | exact HB.out | apply below_alloc | apply pw_below_drewN | apply below_drew1 | refine below_set ?_ GE134.out) | exact HB.out)⟩
                · rw [if_neg c65] at H
                  have c65b0 : (a0_3 == 0) = false := beq_eq_false_iff_ne.mpr c65
                  have c65b1 : (a0_3 != 0) = true := bne_iff_ne.mpr c65
                  obtain rfl := Option.some.inj H
                  have hcz71_0 : wc.cell? ⟨gb134, 0, none⟩ = some (.int .i64 a0_0) := (blk_cell BK134.out 0).trans rfl
                  have hcz71_1 : wc.cell? ⟨gb134, 1, none⟩ = some (.slice A0_1 l0_1.length c0_1) := (blk_cell BK134.out 1).trans rfl
                  have hcz71_2 : wc.cell? ⟨gb134, 2, none⟩ = some (.int .i64 a0_2) := (blk_cell BK134.out 2).trans rfl
                  have hcz71_3 : wc.cell? ⟨gb134, 3, none⟩ = some (.int .i64 a0_3) := (blk_cell BK134.out 3).trans rfl
                  have hcz71_4 : wc.cell? ⟨gb134, 4, none⟩ = some (.slice A0_4 l0_4.length c0_4) := (blk_cell BK134.out 4).trans rfl
                  have hcz71_5 : wc.cell? ⟨gb134, 5, none⟩ = some (.int .i64 a0_5) := (blk_cell BK134.out 5).trans rfl
                  have hcz71_6 : wc.cell? ⟨gb134, 6, none⟩ = some (.string a0_6) := (blk_cell BK134.out 6).trans rfl
                  have hcz71_7 : wc.cell? ⟨gb134, 7, none⟩ = some (.string a0_7) := (blk_cell BK134.out 7).trans rfl
                  have hfz71_0 := blk_frozen BK134.out 0
                  have hfz71_1 := blk_frozen BK134.out 1
                  have hfz71_2 := blk_frozen BK134.out 2
                  have hfz71_3 := blk_frozen BK134.out 3
                  have hfz71_4 := blk_frozen BK134.out 4
                  have hfz71_5 := blk_frozen BK134.out 5
                  have hfz71_6 := blk_frozen BK134.out 6
                  have hfz71_7 := blk_frozen BK134.out 7
                  go_wp2
                  go_ret
                  exact ⟨by first | rfl | (simp [errW_none, errW_some] <;> rfl) | (simp [*, errW_none, errW_some] <;> rfl), by repeat (first | (with_reducible first | exact HB.out | apply below_alloc | apply pw_below_drewN | apply below_drew1 | refine below_set ?_ GE134.out) | exact HB.out)⟩
              · rw [if_neg c64] at H
                have c64b0 : (a0_0 == 5) = false := beq_eq_false_iff_ne.mpr c64
                have c64b1 : (a0_0 != 5) = true := bne_iff_ne.mpr c64
                obtain rfl := Option.some.inj H
                go_wp2
                go_ret
                exact ⟨by first | rfl | (simp [errW_none, errW_some] <;> rfl) | (simp [*, errW_none, errW_some] <;> rfl), by repeat (first | (with_reducible first | exact HB.out | apply below_alloc | apply pw_below_drewN | apply below_drew1 | refine below_set ?_ GE134.out) | exact HB.out)⟩
end Go.Proofs.YtgcpfelccfnnbaaDoor.X
namespace Go.Proofs.YtgcpfelccfnnbaaDoor.X
open Go.RowKit Go.Proofs.YtgcpfelccfnnbaaDoorW.PrintWords Go.Proofs.YtgcpfelccfnnbaaDoorW.PrintLast Go.Proofs.YtgcpfelccfnnbaaDoorW.PrintMore
attribute [local go_sem] max2_int min2_int max_two min_two max_three min_three max_four min_four   -- for this text's walks alone
set_option linter.unusedVariables false
set_option linter.unusedSimpArgs false
def set4 (W : World) (g : Nat) (a b c d : Value) : World := (((W.setCell ⟨g, 0, none⟩ a).setCell ⟨g, 1, none⟩ b).setCell ⟨g, 2, none⟩ c).setCell ⟨g, 3, none⟩ d
theorem blk_put4 {W : World} {g : Nat} {t : TypeId} {z0 z1 z2 z3 a b c d : Value} (h : W.heap[g]? = some (.cells #[z0, z1, z2, z3] t (0, 0))) : (set4 W g a b c d).heap[g]? = some (.cells #[a, b, c, d] t (0, 0)) := by
  unfold set4
  refine blk_put (cs := #[a, b, c, z3]) ?_ 3 _ rfl
  refine blk_put (cs := #[a, b, z2, z3]) ?_ 2 _ rfl
  refine blk_put (cs := #[a, z1, z2, z3]) ?_ 1 _ rfl
  exact blk_put (cs := #[z0, z1, z2, z3]) h 0 _ rfl
theorem below_set4 {B : Nat} {w W : World} {g : Nat} {a b c d : Value} (h : Below B w W) (hg : B ≤ g) : Below B w (set4 W g a b c d) := (((h.setCell hg _).setCell hg _).setCell hg _).setCell hg _
theorem heap_set4 {W : World} {g k : Nat} {a b c d : Value} (h : k ≠ g) : (set4 W g a b c d).heap[k]? = W.heap[k]? := by
  unfold set4
  rw [Below.heap_setCell _ _ _ _ h, Below.heap_setCell _ _ _ _ h, Below.heap_setCell _ _ _ _ h, Below.heap_setCell _ _ _ _ h]
theorem size_set4 {W : World} {g : Nat} {a b c d : Value} : (set4 W g a b c d).heap.size = W.heap.size := by simp [set4]
theorem F_set4 {α : Type} {k : Kd α} {W : World} {P : Nat → Prop} {A : Option Addr} {n : Nat} {xs : List α} {g : Nat} {a b c d : Value} (h : Kd.F k W P A n xs) (hP : ∀ j, P j → j ≠ g) : Kd.F k (set4 W g a b c d) P A n xs := Kd.F_step h (fun j hj _ => heap_set4 (hP j hj))
end Go.Proofs.YtgcpfelccfnnbaaDoor.X
namespace Go.Proofs.YtgcpfelccfnnbaaDoor.X
open Go.RowKit Go.Proofs.YtgcpfelccfnnbaaDoorW.PrintWords Go.Proofs.YtgcpfelccfnnbaaDoorW.PrintLast Go.Proofs.YtgcpfelccfnnbaaDoorW.PrintMore
attribute [local go_sem] max2_int min2_int max_two min_two max_three min_three max_four min_four   -- for this text's walks alone
set_option linter.unusedVariables false
set_option linter.unusedSimpArgs false
/-- The row with a path; false: there is none. -/
def rowG : S24 → List Int → S24 × Bool
  | n, i :: s :: path => if 0 ≤ i ∧ i < n.f3.length ∧ 0 ≤ s ∧ s < (nth n.f3 i.toNat).f3.length then rowG (nth (nth n.f3 i.toNat).f3 s.toNat) path else (z24, false)
  | n, [_] => (n, false)
  | n, [] => (n, true)
theorem add_zero_ (a : Addr) : a.add 0 = a := by unfold Addr.add; simp
theorem elemF {wr : World} {l : List S24} {A : Option Addr} {P : Nat → Prop} {i : Nat} (h : Kd.F k24 wr P A l.length l) (hi : i < l.length) :
    ∃ ad A3 c3, A = some ad ∧ (nth l i).f3.length ≤ c3 ∧ Aside0 (Kd.F k24 wr P A3 (nth l i).f3.length (nth l i).f3) ∧
    wr.cell? (ad.add (i * 4)) = some (.int .i64 (nth l i).f0) ∧ wr.cell? ⟨(ad.add (i * 4)).block, (ad.add (i * 4)).off + 1, none⟩ = some (.string (nth l i).f1) ∧ wr.cell? ⟨(ad.add (i * 4)).block, (ad.add (i * 4)).off + 2, none⟩ = some (.int .i64 (nth l i).f2) ∧ wr.cell? ⟨(ad.add (i * 4)).block, (ad.add (i * 4)).off + 3, none⟩ = some (.slice A3 (nth l i).f3.length c3) := by
  obtain ⟨ad, cs, rfl, hcl, hK, hcc, _⟩ := Kd.F_get h z24 (i : Int) (by omega) (by omega)
  simp only [Int.toNat_natCast] at hK hcc
  obtain ⟨A3, c3, rfl, hl3, hF3⟩ := k24_openF hK
  have hnx : l.getD i z24 = nth l i := rfl
  rw [hnx] at hcc hl3 hF3
  exact ⟨ad, A3, c3, rfl, hl3, ⟨hF3⟩, hcc 0 _ rfl, by rw [← add_field _ _ 1 (by omega)]; exact hcc 1 _ rfl, by rw [← add_field _ _ 2 (by omega)]; exact hcc 2 _ rfl, by rw [← add_field _ _ 3 (by omega)]; exact hcc 3 _ rfl⟩
set_option maxRecDepth 100000 in
set_option maxHeartbeats 2000000 in
theorem row_any (x : S24) (p : List Int) (A B : Option Addr) (c d : Nat) (P : Nat → Prop) (w : World) (hc : x.f3.length ≤ c) (hd : p.length ≤ d) (hF : Kd.F k24 w P A x.f3.length x.f3) (hp : Kd.C (Kd.int .i64) w B p.length p) :
    Calls Tryd.prog 46 #[.agg #[.int .i64 x.f0, .string x.f1, .int .i64 x.f2, .slice A x.f3.length c], .slice B p.length d] w fun e w' => ∃ (A' : Option Addr) (c' : Nat), e = .returned (.tuple #[.agg #[.int .i64 (rowG x p).1.f0, .string (rowG x p).1.f1, .int .i64 (rowG x p).1.f2, .slice A' (rowG x p).1.f3.length c'], .bool (rowG x p).2]) ∧ (rowG x p).1.f3.length ≤ c' ∧ Kd.F k24 w' P A' (rowG x p).1.f3.length (rowG x p).1.f3 ∧ Below w.heap.size w w' := by
  have HF := Aside0.mk (Kd.F_bound hF)
  have HPA := Aside0.mk hp
  have hpl := hp.2.1
  go_enter Tryd.func46, Tryd.ntmps46
  go_wp2_with fail
  have HB0 : Aside0 (Below w.heap.size w ((w.alloc (.cells #[.int .i64 x.f0, .string x.f1, .int .i64 x.f2, .slice A x.f3.length c] 24)).alloc (.cells #[.int .i64 0, .string ⟨#[]⟩, .int .i64 0, .slice none 0 0] 24))) := ⟨below_alloc (below_alloc (Below.refl _ _) _) _⟩
  clear hF hp
  go_loopg [1] p.length (fun kq v1 wr => ∃ (y : S24) (q : List Int) (A' B' : Option Addr) (c' d' : Nat), v1 = .slice B' q.length d' ∧ Aside0 (q.length ≤ kq) ∧ Aside0 (q.length ≤ 9223372036854775807) ∧ Aside0 (q.length ≤ d') ∧ Aside0 (y.f3.length ≤ c') ∧ Aside0 (rowG y q = rowG x p) ∧ Aside0 (Kd.C (Kd.int .i64) w B' q.length q) ∧ Aside0 (Kd.F k24 w (fun k => P k ∧ k < w.heap.size) A' y.f3.length y.f3) ∧ Aside0 (wr.heap[w.heap.size]? = some (.cells #[.int .i64 y.f0, .string y.f1, .int .i64 y.f2, .slice A' y.f3.length c'] 24 (0, 0))) ∧ Aside0 (wr.heap[w.heap.size + 1]? = some (.cells #[.int .i64 0, .string ⟨#[]⟩, .int .i64 0, .slice none 0 0] 24 (0, 0))) ∧ Aside0 (Below w.heap.size w wr))
  case atStart => exact ⟨x, p, A, B, c, d, rfl, ⟨Nat.le_refl _⟩, ⟨hpl⟩, ⟨hd⟩, ⟨hc⟩, ⟨rfl⟩, HPA, HF, ⟨alloc2_fst _ _ _⟩, ⟨alloc2_snd _ _ _⟩, HB0⟩
  case round =>
    clear HB0 HPA HF hc hd hpl
    obtain ⟨y, q, A', B', c', d', rfl, HK, HM, HD, HC, HE, HQ, HFy, HBk, HRk, HB⟩ := hrel
    have b0 := blk_cell HBk.out 0
    have b1 := blk_cell HBk.out 1
    have b2 := blk_cell HBk.out 2
    have b3 := blk_cell HBk.out 3
    have r0 := blk_cell HRk.out 0
    have r1 := blk_cell HRk.out 1
    have r2 := blk_cell HRk.out 2
    have r3 := blk_cell HRk.out 3
    have z0 := blk_frozen HRk.out 0
    have z1 := blk_frozen HRk.out 1
    have z2 := blk_frozen HRk.out 2
    have z3 := blk_frozen HRk.out 3
    match q, HK, HM, HD, HE, HQ with
    | [], HK, HM, HD, HE, HQ =>
      have HR : Aside0 (rowG x p = (y, true)) := ⟨by rw [← HE.out, rowG]⟩
      go_wp2
      refine bodyPost_ret (results_ct rfl _ _ (w.heap.size + 1) 24 #[.int .i64 y.f0, .string y.f1, .int .i64 y.f2, .slice A' y.f3.length c'] (0, 0) _ rfl (blk_put4 HRk.out) Tryd.underlying24 rfl (by kernel_rfl)) rfl ?_
      refine ⟨A', c', by rw [HR.out]; rfl, by rw [HR.out]; exact HC.out, ?_, below_set4 HB.out (by omega)⟩
      rw [HR.out]
      exact Kd.F_mono (F_set4 (Kd.F_step HFy.out (fun k hk _ => HB.out.block k hk.2)) (fun j hj => by have := hj.2; omega)) (fun k hk => hk.1)
    | [i], HK, HM, HD, HE, HQ =>
      have HR : Aside0 (rowG x p = (y, false)) := ⟨by rw [← HE.out, rowG]⟩
      go_wp2
      refine bodyPost_ret (results_ct rfl _ _ (w.heap.size + 1) 24 #[.int .i64 y.f0, .string y.f1, .int .i64 y.f2, .slice A' y.f3.length c'] (0, 0) _ rfl (blk_put4 HRk.out) Tryd.underlying24 rfl (by kernel_rfl)) rfl ?_
      refine ⟨A', c', by rw [HR.out]; rfl, by rw [HR.out]; exact HC.out, ?_, below_set4 HB.out (by omega)⟩
      rw [HR.out]
      exact Kd.F_mono (F_set4 (Kd.F_step HFy.out (fun k hk _ => HB.out.block k hk.2)) (fun j hj => by have := hj.2; omega)) (fun k hk => hk.1)
    | i :: s :: q', HK, HM, HD, HE, HQ =>
      obtain ⟨bd, rfl, hp0⟩ := Kd.at_int (Kd.C_below HQ.out HB.out) 0 (by omega) (by simp; omega)
      obtain ⟨bd', hbd, hp1⟩ := Kd.at_int (Kd.C_below HQ.out HB.out) 1 (by omega) (by simp; omega)
      injection hbd with hbd
      subst hbd
      have e0 : wr.cell? (bd.add 0) = some (.int .i64 i) := hp0
      have e0' : wr.cell? bd = some (.int .i64 i) := by have h := e0; rw [add_zero_] at h; exact h
      have e1 : wr.cell? (bd.add 1) = some (.int .i64 s) := hp1
      have e1' : wr.cell? ⟨bd.block, bd.off + 1, none⟩ = some (.int .i64 s) := hp1
      clear hp0 hp1
      have hq2 : q'.length + 2 ≤ 9223372036854775807 := HM.out
      go_wp2
      by_cases hi0 : i < 0
      · have HR : Aside0 (rowG x p = (z24, false)) := ⟨by rw [← HE.out, rowG, if_neg (by omega)]⟩
        clear HE
        go_region
        go_wp2
        refine bodyPost_ret (results_ct rfl _ _ (w.heap.size + 1) 24 #[.int .i64 0, .string ⟨#[]⟩, .int .i64 0, .slice none 0 0] (0, 0) _ rfl (blk_put4 HRk.out) Tryd.underlying24 rfl (by kernel_rfl)) rfl ?_
        refine ⟨none, 0, by rw [HR.out]; rfl, by rw [HR.out]; exact Nat.le_refl _, ?_, Below.drew (below_set4 HB.out (by omega))⟩
        rw [HR.out]
        exact Kd.F_nil _ _ _
      · by_cases hi1 : i < y.f3.length
        · obtain ⟨j, rfl⟩ : ∃ j : Nat, i = j := ⟨i.toNat, by omega⟩
          have hj : j < y.f3.length := by omega
          obtain ⟨ad, A3, c3, rfl, HC3, HF3, g0, g1, g2, g3⟩ := elemF (Kd.F_step HFy.out (fun k hk _ => HB.out.block k hk.2)) hj
          have HC3 := Aside0.mk HC3
          by_cases hs0 : s < 0
          · have HR : Aside0 (rowG x p = (z24, false)) := ⟨by rw [← HE.out, rowG]; simp only [Int.toNat_natCast]; rw [if_neg (by omega)]⟩
            clear HE
            go_region
            go_wp2
            refine bodyPost_ret (results_ct rfl _ _ (w.heap.size + 1) 24 #[.int .i64 0, .string ⟨#[]⟩, .int .i64 0, .slice none 0 0] (0, 0) _ rfl (blk_put4 HRk.out) Tryd.underlying24 rfl (by kernel_rfl)) rfl ?_
            refine ⟨none, 0, by rw [HR.out]; rfl, by rw [HR.out]; exact Nat.le_refl _, ?_, Below.drew (below_set4 HB.out (by omega))⟩
            rw [HR.out]
            exact Kd.F_nil _ _ _
          by_cases hs1 : s < (nth y.f3 j).f3.length
          · obtain ⟨r, rfl⟩ : ∃ r : Nat, s = r := ⟨s.toNat, by omega⟩
            have hr : r < (nth y.f3 j).f3.length := by omega
            obtain ⟨ad3, A4, c4, rfl, HC4, HF4, m0, m1, m2, m3⟩ := elemF HF3.out hr
            have HC4 := Aside0.mk HC4
            have HN : Aside0 (rowG (nth (nth y.f3 j).f3 r) q' = rowG x p) := ⟨by rw [← HE.out, rowG]; simp only [Int.toNat_natCast]; rw [if_pos (by omega)]⟩
            clear HE
            have y0 := blk_frozen HBk.out 0
            have y1 := blk_frozen HBk.out 1
            have y2 := blk_frozen HBk.out 2
            have y3 := blk_frozen HBk.out 3
            go_region
            go_wp2
            go_region
            have HQ2 : Aside0 (Kd.C (Kd.int .i64) w (if d' = 2 then some bd else some ⟨bd.block, bd.off + 2, none⟩) q'.length q') := ⟨Kd.C_drop (m := 2) HQ.out (by simp) HD.out⟩
            generalize (if d' = 2 then some bd else some ⟨bd.block, bd.off + 2, none⟩) = AA at HQ2 ⊢
            go_wp2
            have hkp : ∃ k', gk = k' + 1 := ⟨gk - 1, by have h := HK.out; simp only [List.length_cons] at h; omega⟩
            obtain ⟨k', rfl⟩ := hkp
            go_roundg k'
            case measure => omega
            case rel =>
              have HKo := HK.out
              have HDo := HD.out
              simp only [List.length_cons] at HKo HDo
              refine ⟨nth (nth y.f3 j).f3 r, q', A4, AA, c4, d' - 2, rfl, ⟨by omega⟩, ⟨by omega⟩, ⟨by omega⟩, HC4, HN, HQ2, ⟨?_⟩, ⟨?_⟩, ⟨?_⟩, ⟨?_⟩⟩
              · exact Kd.F_step HF4.out (fun k hk _ => (HB.out.block k hk.2).symm)
              · exact blk_put4 HBk.out
              · exact (heap_set4 (by omega)).trans HRk.out
              · exact Below.drew (Below.drew (below_set4 HB.out (Nat.le_refl _)))
          · have HR : Aside0 (rowG x p = (z24, false)) := ⟨by rw [← HE.out, rowG]; simp only [Int.toNat_natCast]; rw [if_neg (by omega)]⟩
            clear HE
            go_region
            go_wp2
            refine bodyPost_ret (results_ct rfl _ _ (w.heap.size + 1) 24 #[.int .i64 0, .string ⟨#[]⟩, .int .i64 0, .slice none 0 0] (0, 0) _ rfl (blk_put4 HRk.out) Tryd.underlying24 rfl (by kernel_rfl)) rfl ?_
            refine ⟨none, 0, by rw [HR.out]; rfl, by rw [HR.out]; exact Nat.le_refl _, ?_, Below.drew (below_set4 HB.out (by omega))⟩
            rw [HR.out]
            exact Kd.F_nil _ _ _
        · have HR : Aside0 (rowG x p = (z24, false)) := ⟨by rw [← HE.out, rowG, if_neg (by omega)]⟩
          clear HE
          go_region
          go_wp2
          refine bodyPost_ret (results_ct rfl _ _ (w.heap.size + 1) 24 #[.int .i64 0, .string ⟨#[]⟩, .int .i64 0, .slice none 0 0] (0, 0) _ rfl (blk_put4 HRk.out) Tryd.underlying24 rfl (by kernel_rfl)) rfl ?_
          refine ⟨none, 0, by rw [HR.out]; rfl, by rw [HR.out]; exact Nat.le_refl _, ?_, Below.drew (below_set4 HB.out (by omega))⟩
          rw [HR.out]
          exact Kd.F_nil _ _ _
def node_row.f (a0_0 : Int) (a0_1 : ByteArray) (a0_2 : Int) (l0_3 : List S24) (l1 : List Int) : Option (Int × ByteArray × Int × List S24 × Bool) := some ((rowG ⟨a0_0, a0_1, a0_2, l0_3⟩ l1).1.f0, (rowG ⟨a0_0, a0_1, a0_2, l0_3⟩ l1).1.f1, (rowG ⟨a0_0, a0_1, a0_2, l0_3⟩ l1).1.f2, (rowG ⟨a0_0, a0_1, a0_2, l0_3⟩ l1).1.f3, (rowG ⟨a0_0, a0_1, a0_2, l0_3⟩ l1).2)
theorem node_row.calls (a0_0 : Int) (a0_1 : ByteArray) (a0_2 : Int) (P0_3 : Nat → Prop) (A0_3 : Option Addr) (c0_3 : Nat) (l0_3 : List S24) (P1 : Nat → Prop) (A1 : Option Addr) (c1 : Nat) (l1 : List Int) (r1 : Int) (r2 : ByteArray) (r3 : Int) (r4 : List S24) (r5 : Bool) (w : World) (hs0_3 : Kd.V k24 24 w w.heap.size (fun k_ => P0_3 k_) (.slice A0_3 l0_3.length c0_3) l0_3) (hs1 : Kd.V (Kd.int .i64) 2 w w.heap.size (fun k_ => P1 k_) (.slice A1 l1.length c1) l1) (h : node_row.f a0_0 a0_1 a0_2 l0_3 l1 = some (r1, r2, r3, r4, r5)) :
    Calls Tryd.prog 46 #[.agg #[.int .i64 a0_0, .string a0_1, .int .i64 a0_2, .slice A0_3 l0_3.length c0_3], .slice A1 l1.length c1] w fun e w' => ∃ v3_ : Value, e = .returned (.tuple #[.agg #[.int .i64 r1, .string r2, .int .i64 r3, v3_], .bool r5]) ∧ Kd.V k24 24 w' w.heap.size (fun k_ => (P0_3 k_ ∨ P1 k_) ∨ w.heap.size ≤ k_) v3_ r4 ∧ Below w.heap.size w w' := by
  unfold node_row.f at h
  simp only [Option.some.injEq, Prod.mk.injEq] at h
  obtain ⟨rfl, rfl, rfl, rfl, rfl⟩ := h
  obtain ⟨A0, c0, h0, hl0, hF0⟩ := hs0_3
  obtain ⟨A2, c2, h1, hl1, hF1⟩ := hs1
  injection h0 with h0a h0b h0c
  injection h1 with h1a h1b h1c
  subst h0a
  subst h0c
  subst h1a
  subst h1c
  refine (row_any ⟨a0_0, a0_1, a0_2, l0_3⟩ l1 A0_3 A1 c0_3 c1 P0_3 w hl0 hl1 hF0 (Kd.F_now hF1)).mono ?_
  rintro e w' ⟨A', c', rfl, hl, hF, hb⟩
  exact ⟨_, rfl, ⟨A', c', rfl, hl, Kd.F_mono hF (fun k hk => .inl (.inl hk))⟩, hb⟩
end Go.Proofs.YtgcpfelccfnnbaaDoor.X
namespace Go.Proofs.YtgcpfelccfnnbaaDoor.X
open Go.RowKit Go.Proofs.YtgcpfelccfnnbaaDoorW.PrintWords Go.Proofs.YtgcpfelccfnnbaaDoorW.PrintLast Go.Proofs.YtgcpfelccfnnbaaDoorW.PrintMore
attribute [local go_sem] max2_int min2_int max_two min_two max_three min_three max_four min_four   -- for this text's walks alone
set_option linter.unusedVariables false
set_option linter.unusedSimpArgs false
def edit_needs.f (a0_0 : Int) (l0_1 : List Int) (a0_2 : Int) (a0_3 : Int) (l0_4 : List (S24)) (a0_5 : Int) (a0_6 : ByteArray) (a0_7 : ByteArray) : Option (Int) := if a0_0 = 1 then (some 0) else (if a0_0 = 2 then (some (l0_4.length : Int)) else (if a0_0 = 3 then (some a0_3) else (some 1)))
set_option maxHeartbeats 8000000 in
set_option maxRecDepth 100000 in
theorem edit_needs.calls (a0_0 : Int) (A0_1 : Option Addr) (c0_1 : Nat) (l0_1 : List Int) (a0_2 : Int) (a0_3 : Int) (A0_4 : Option Addr) (c0_4 : Nat) (l0_4 : List (S24)) (a0_5 : Int) (a0_6 : ByteArray) (a0_7 : ByteArray) (r : Int) (w : World) (hr0_1 : Kd.C (Kd.int .i64) w A0_1 l0_1.length l0_1) (hc0_1 : l0_1.length ≤ c0_1) (hr0_4 : Kd.C k24 w A0_4 l0_4.length l0_4) (hc0_4 : l0_4.length ≤ c0_4) (h : edit_needs.f a0_0 l0_1 a0_2 a0_3 l0_4 a0_5 a0_6 a0_7 = some r) :
    Calls Tryd.prog 30 #[.agg #[.int .i64 a0_0, .slice A0_1 l0_1.length c0_1, .int .i64 a0_2, .int .i64 a0_3, .slice A0_4 l0_4.length c0_4, .int .i64 a0_5, .string a0_6, .string a0_7]] w fun e w' => e = .returned (.int .i64 r) ∧ Below w.heap.size w w' := by
  have hu27 := Tryd.underlying27
  have HR0_1 := Aside0.mk hr0_1
  have HC0_1 := Aside0.mk hc0_1
  clear hr0_1 hc0_1
  have HR0_4 := Aside0.mk hr0_4
  have HC0_4 := Aside0.mk hc0_4
  clear hr0_4 hc0_4
  have HB := Aside0.mk (Below.refl w.heap.size w)
  have H : (if a0_0 = 1 then (some 0) else (if a0_0 = 2 then (some (l0_4.length : Int)) else (if a0_0 = 3 then (some a0_3) else (some 1)))) = some r := h
  clear h
  by_cases c2 : a0_0 = 1
  · rw [if_pos c2] at H
    have c2b0 : (a0_0 == 1) = true := beq_iff_eq.mpr c2
    have c2b1 : (a0_0 != 1) = false := bne_eq_false_iff_eq.mpr c2
    clear c2
    obtain rfl := Option.some.inj H
    go_enter Tryd.func30, Tryd.ntmps30
    go_wp2_with (first | ((with_reducible refine gate_dst (N := 1) rfl ?_); refine box_event ?hg (N := 1) ?hd (cs := #[.int .i64 a0_0, .slice A0_1 l0_1.length c0_1, .int .i64 a0_2, .int .i64 a0_3, .slice A0_4 l0_4.length c0_4, .int .i64 a0_5, .string a0_6, .string a0_7]) (t := 27) ?hr ?_; (case hd => rfl); (case hg => rfl); (case hr => first | (go_simp; done) | (go_simp; rfl)); intro gb158 hg w3 hbox hb; have n0_ := Aside0.mk (below_step (by repeat (first | (with_reducible first | exact HB.out | apply below_alloc | apply pw_below_drewN | apply below_drew1) | exact HB.out)) hb); have n1_ := Aside0.mk (hbox); have n2_ := Aside0.mk ((by rw [hg]; exact (below_size (by repeat (first | (with_reducible first | exact HB.out | apply below_alloc | apply pw_below_drewN | apply below_drew1) | exact HB.out))) : w.heap.size ≤ gb158)); have n3_ := Aside0.mk ((by rw [hg]; exact (below_size (by repeat (first | (with_reducible first | exact HB.out | apply below_alloc | apply pw_below_drewN | apply below_drew1) | exact HB.out))) : w.heap.size ≤ gb158)); clear HB; have HB := n0_; have BK158 := n1_; have GW158 := n2_; have GE158 := n3_; clear n0_ n1_ n2_ n3_; clear hb hbox hg; have hcz4_0 : w3.cell? ⟨gb158, 0, none⟩ = some (.int .i64 a0_0) := (blk_cell BK158.out 0).trans rfl; have hcz4_1 : w3.cell? ⟨gb158, 1, none⟩ = some (.slice A0_1 l0_1.length c0_1) := (blk_cell BK158.out 1).trans rfl; have hcz4_2 : w3.cell? ⟨gb158, 2, none⟩ = some (.int .i64 a0_2) := (blk_cell BK158.out 2).trans rfl; have hcz4_3 : w3.cell? ⟨gb158, 3, none⟩ = some (.int .i64 a0_3) := (blk_cell BK158.out 3).trans rfl; have hcz4_4 : w3.cell? ⟨gb158, 4, none⟩ = some (.slice A0_4 l0_4.length c0_4) := (blk_cell BK158.out 4).trans rfl; have hcz4_5 : w3.cell? ⟨gb158, 5, none⟩ = some (.int .i64 a0_5) := (blk_cell BK158.out 5).trans rfl; have hcz4_6 : w3.cell? ⟨gb158, 6, none⟩ = some (.string a0_6) := (blk_cell BK158.out 6).trans rfl; have hcz4_7 : w3.cell? ⟨gb158, 7, none⟩ = some (.string a0_7) := (blk_cell BK158.out 7).trans rfl; have hfz4_0 := blk_frozen BK158.out 0; have hfz4_1 := blk_frozen BK158.out 1; have hfz4_2 := blk_frozen BK158.out 2; have hfz4_3 := blk_frozen BK158.out 3; have hfz4_4 := blk_frozen BK158.out 4; have hfz4_5 := blk_frozen BK158.out 5; have hfz4_6 := blk_frozen BK158.out 6; have hfz4_7 := blk_frozen BK158.out 7))
    go_ret
    exact ⟨by first | rfl | (simp [errW_none, errW_some] <;> rfl) | (simp [*, errW_none, errW_some] <;> rfl), by repeat (first | (with_reducible first | exact HB.out | apply below_alloc | apply pw_below_drewN | apply below_drew1 | refine below_set ?_ GE158.out) | exact HB.out)⟩
  · rw [if_neg c2] at H
    have c2b0 : (a0_0 == 1) = false := beq_eq_false_iff_ne.mpr c2
    have c2b1 : (a0_0 != 1) = true := bne_iff_ne.mpr c2
    by_cases c5 : a0_0 = 2
    · rw [if_pos c5] at H
      have c5b0 : (a0_0 == 2) = true := beq_iff_eq.mpr c5
      have c5b1 : (a0_0 != 2) = false := bne_eq_false_iff_eq.mpr c5
      clear c5
      obtain rfl := Option.some.inj H
      go_enter Tryd.func30, Tryd.ntmps30
      go_wp2_with (first | ((with_reducible refine gate_dst (N := 1) rfl ?_); refine box_event ?hg (N := 1) ?hd (cs := #[.int .i64 a0_0, .slice A0_1 l0_1.length c0_1, .int .i64 a0_2, .int .i64 a0_3, .slice A0_4 l0_4.length c0_4, .int .i64 a0_5, .string a0_6, .string a0_7]) (t := 27) ?hr ?_; (case hd => rfl); (case hg => rfl); (case hr => first | (go_simp; done) | (go_simp; rfl)); intro gb158 hg w6 hbox hb; have n0_ := Aside0.mk (below_step (by repeat (first | (with_reducible first | exact HB.out | apply below_alloc | apply pw_below_drewN | apply below_drew1) | exact HB.out)) hb); have n1_ := Aside0.mk (hbox); have n2_ := Aside0.mk ((by rw [hg]; exact (below_size (by repeat (first | (with_reducible first | exact HB.out | apply below_alloc | apply pw_below_drewN | apply below_drew1) | exact HB.out))) : w.heap.size ≤ gb158)); have n3_ := Aside0.mk ((by rw [hg]; exact (below_size (by repeat (first | (with_reducible first | exact HB.out | apply below_alloc | apply pw_below_drewN | apply below_drew1) | exact HB.out))) : w.heap.size ≤ gb158)); clear HB; have HB := n0_; have BK158 := n1_; have GW158 := n2_; have GE158 := n3_; clear n0_ n1_ n2_ n3_; clear hb hbox hg; have hcz7_0 : w6.cell? ⟨gb158, 0, none⟩ = some (.int .i64 a0_0) := (blk_cell BK158.out 0).trans rfl; have hcz7_1 : w6.cell? ⟨gb158, 1, none⟩ = some (.slice A0_1 l0_1.length c0_1) := (blk_cell BK158.out 1).trans rfl; have hcz7_2 : w6.cell? ⟨gb158, 2, none⟩ = some (.int .i64 a0_2) := (blk_cell BK158.out 2).trans rfl; have hcz7_3 : w6.cell? ⟨gb158, 3, none⟩ = some (.int .i64 a0_3) := (blk_cell BK158.out 3).trans rfl; have hcz7_4 : w6.cell? ⟨gb158, 4, none⟩ = some (.slice A0_4 l0_4.length c0_4) := (blk_cell BK158.out 4).trans rfl; have hcz7_5 : w6.cell? ⟨gb158, 5, none⟩ = some (.int .i64 a0_5) := (blk_cell BK158.out 5).trans rfl; have hcz7_6 : w6.cell? ⟨gb158, 6, none⟩ = some (.string a0_6) := (blk_cell BK158.out 6).trans rfl; have hcz7_7 : w6.cell? ⟨gb158, 7, none⟩ = some (.string a0_7) := (blk_cell BK158.out 7).trans rfl; have hfz7_0 := blk_frozen BK158.out 0; have hfz7_1 := blk_frozen BK158.out 1; have hfz7_2 := blk_frozen BK158.out 2; have hfz7_3 := blk_frozen BK158.out 3; have hfz7_4 := blk_frozen BK158.out 4; have hfz7_5 := blk_frozen BK158.out 5; have hfz7_6 := blk_frozen BK158.out 6; have hfz7_7 := blk_frozen BK158.out 7))
      go_ret
      exact ⟨by first | rfl | (simp [errW_none, errW_some] <;> rfl) | (simp [*, errW_none, errW_some] <;> rfl), by repeat (first | (with_reducible first | exact HB.out | apply below_alloc | apply pw_below_drewN | apply below_drew1 | refine below_set ?_ GE158.out) | exact HB.out)⟩
    · rw [if_neg c5] at H
      have c5b0 : (a0_0 == 2) = false := beq_eq_false_iff_ne.mpr c5
      have c5b1 : (a0_0 != 2) = true := bne_iff_ne.mpr c5
      by_cases c8 : a0_0 = 3
      · rw [if_pos c8] at H
        have c8b0 : (a0_0 == 3) = true := beq_iff_eq.mpr c8
        have c8b1 : (a0_0 != 3) = false := bne_eq_false_iff_eq.mpr c8
        clear c8
        obtain rfl := Option.some.inj H
        go_enter Tryd.func30, Tryd.ntmps30
        go_wp2_with (first | ((with_reducible refine gate_dst (N := 1) rfl ?_); refine box_event ?hg (N := 1) ?hd (cs := #[.int .i64 a0_0, .slice A0_1 l0_1.length c0_1, .int .i64 a0_2, .int .i64 a0_3, .slice A0_4 l0_4.length c0_4, .int .i64 a0_5, .string a0_6, .string a0_7]) (t := 27) ?hr ?_; (case hd => rfl); (case hg => rfl); (case hr => first | (go_simp; done) | (go_simp; rfl)); intro gb158 hg w9 hbox hb; have n0_ := Aside0.mk (below_step (by repeat (first | (with_reducible first | exact HB.out | apply below_alloc | apply pw_below_drewN | apply below_drew1) | exact HB.out)) hb); have n1_ := Aside0.mk (hbox); have n2_ := Aside0.mk ((by rw [hg]; exact (below_size (by repeat (first | (with_reducible first | exact HB.out | apply below_alloc | apply pw_below_drewN | apply below_drew1) | exact HB.out))) : w.heap.size ≤ gb158)); have n3_ := Aside0.mk ((by rw [hg]; exact (below_size (by repeat (first | (with_reducible first | exact HB.out | apply below_alloc | apply pw_below_drewN | apply below_drew1) | exact HB.out))) : w.heap.size ≤ gb158)); clear HB; have HB := n0_; have BK158 := n1_; have GW158 := n2_; have GE158 := n3_; clear n0_ n1_ n2_ n3_; clear hb hbox hg; have hcz10_0 : w9.cell? ⟨gb158, 0, none⟩ = some (.int .i64 a0_0) := (blk_cell BK158.out 0).trans rfl; have hcz10_1 : w9.cell? ⟨gb158, 1, none⟩ = some (.slice A0_1 l0_1.length c0_1) := (blk_cell BK158.out 1).trans rfl; have hcz10_2 : w9.cell? ⟨gb158, 2, none⟩ = some (.int .i64 a0_2) := (blk_cell BK158.out 2).trans rfl; have hcz10_3 : w9.cell? ⟨gb158, 3, none⟩ = some (.int .i64 a0_3) := (blk_cell BK158.out 3).trans rfl; have hcz10_4 : w9.cell? ⟨gb158, 4, none⟩ = some (.slice A0_4 l0_4.length c0_4) := (blk_cell BK158.out 4).trans rfl; have hcz10_5 : w9.cell? ⟨gb158, 5, none⟩ = some (.int .i64 a0_5) := (blk_cell BK158.out 5).trans rfl; have hcz10_6 : w9.cell? ⟨gb158, 6, none⟩ = some (.string a0_6) := (blk_cell BK158.out 6).trans rfl; have hcz10_7 : w9.cell? ⟨gb158, 7, none⟩ = some (.string a0_7) := (blk_cell BK158.out 7).trans rfl; have hfz10_0 := blk_frozen BK158.out 0; have hfz10_1 := blk_frozen BK158.out 1; have hfz10_2 := blk_frozen BK158.out 2; have hfz10_3 := blk_frozen BK158.out 3; have hfz10_4 := blk_frozen BK158.out 4; have hfz10_5 := blk_frozen BK158.out 5; have hfz10_6 := blk_frozen BK158.out 6; have hfz10_7 := blk_frozen BK158.out 7))
        go_ret
        exact ⟨by first | rfl | (simp [errW_none, errW_some] <;> rfl) | (simp [*, errW_none, errW_some] <;> rfl), by repeat (first | (with_reducible first | exact HB.out | apply below_alloc | apply pw_below_drewN | apply below_drew1 | refine below_set ?_ GE158.out) | exact HB.out)⟩
      · rw [if_neg c8] at H
        have c8b0 : (a0_0 == 3) = false := beq_eq_false_iff_ne.mpr c8
        have c8b1 : (a0_0 != 3) = true := bne_iff_ne.mpr c8
        obtain rfl := Option.some.inj H
        go_enter Tryd.func30, Tryd.ntmps30
        go_wp2_with (first | ((with_reducible refine gate_dst (N := 1) rfl ?_); refine box_event ?hg (N := 1) ?hd (cs := #[.int .i64 a0_0, .slice A0_1 l0_1.length c0_1, .int .i64 a0_2, .int .i64 a0_3, .slice A0_4 l0_4.length c0_4, .int .i64 a0_5, .string a0_6, .string a0_7]) (t := 27) ?hr ?_; (case hd => rfl); (case hg => rfl); (case hr => first | (go_simp; done) | (go_simp; rfl)); intro gb158 hg w11 hbox hb; have n0_ := Aside0.mk (below_step (by repeat (first | (with_reducible first | exact HB.out | apply below_alloc | apply pw_below_drewN | apply below_drew1) | exact HB.out)) hb); have n1_ := Aside0.mk (hbox); have n2_ := Aside0.mk ((by rw [hg]; exact (below_size (by repeat (first | (with_reducible first | exact HB.out | apply below_alloc | apply pw_below_drewN | apply below_drew1) | exact HB.out))) : w.heap.size ≤ gb158)); have n3_ := Aside0.mk ((by rw [hg]; exact (below_size (by repeat (first | (with_reducible first | exact HB.out | apply below_alloc | apply pw_below_drewN | apply below_drew1) | exact HB.out))) : w.heap.size ≤ gb158)); clear HB; have HB := n0_; have BK158 := n1_; have GW158 := n2_; have GE158 := n3_; clear n0_ n1_ n2_ n3_; clear hb hbox hg; have hcz12_0 : w11.cell? ⟨gb158, 0, none⟩ = some (.int .i64 a0_0) := (blk_cell BK158.out 0).trans rfl; have hcz12_1 : w11.cell? ⟨gb158, 1, none⟩ = some (.slice A0_1 l0_1.length c0_1) := (blk_cell BK158.out 1).trans rfl; have hcz12_2 : w11.cell? ⟨gb158, 2, none⟩ = some (.int .i64 a0_2) := (blk_cell BK158.out 2).trans rfl; have hcz12_3 : w11.cell? ⟨gb158, 3, none⟩ = some (.int .i64 a0_3) := (blk_cell BK158.out 3).trans rfl; have hcz12_4 : w11.cell? ⟨gb158, 4, none⟩ = some (.slice A0_4 l0_4.length c0_4) := (blk_cell BK158.out 4).trans rfl; have hcz12_5 : w11.cell? ⟨gb158, 5, none⟩ = some (.int .i64 a0_5) := (blk_cell BK158.out 5).trans rfl; have hcz12_6 : w11.cell? ⟨gb158, 6, none⟩ = some (.string a0_6) := (blk_cell BK158.out 6).trans rfl; have hcz12_7 : w11.cell? ⟨gb158, 7, none⟩ = some (.string a0_7) := (blk_cell BK158.out 7).trans rfl; have hfz12_0 := blk_frozen BK158.out 0; have hfz12_1 := blk_frozen BK158.out 1; have hfz12_2 := blk_frozen BK158.out 2; have hfz12_3 := blk_frozen BK158.out 3; have hfz12_4 := blk_frozen BK158.out 4; have hfz12_5 := blk_frozen BK158.out 5; have hfz12_6 := blk_frozen BK158.out 6; have hfz12_7 := blk_frozen BK158.out 7))
        go_ret
        exact ⟨by first | rfl | (simp [errW_none, errW_some] <;> rfl) | (simp [*, errW_none, errW_some] <;> rfl), by repeat (first | (with_reducible first | exact HB.out | apply below_alloc | apply pw_below_drewN | apply below_drew1 | refine below_set ?_ GE158.out) | exact HB.out)⟩
end Go.Proofs.YtgcpfelccfnnbaaDoor.X
namespace Go.Proofs.YtgcpfelccfnnbaaDoor.X
open Go.RowKit Go.Proofs.YtgcpfelccfnnbaaDoorW.PrintWords Go.Proofs.YtgcpfelccfnnbaaDoorW.PrintLast Go.Proofs.YtgcpfelccfnnbaaDoorW.PrintMore
attribute [local go_sem] max2_int min2_int max_two min_two max_three min_three max_four min_four   -- for this text's walks alone
set_option linter.unusedVariables false
set_option linter.unusedSimpArgs false
mutual
def eqN : S24 → S24 → Bool
  | ⟨k, t, c, l⟩, y => decide (k = y.f0) && (decide (t.data.toList = y.f1.data.toList) && (decide (c = y.f2) && eqL l y.f3))
def eqL : List S24 → List S24 → Bool
  | [], ys => ys.isEmpty
  | x :: xs, [] => false
  | x :: xs, y :: ys => eqN x y && eqL xs ys
end
theorem eqL_len : ∀ {xs ys : List S24}, ¬ xs.length = ys.length → eqL xs ys = false
  | [], [], h => absurd rfl h
  | [], y :: ys, _ => by simp [eqL]
  | x :: xs, [], _ => by simp [eqL]
  | x :: xs, y :: ys, h => by
    simp only [eqL, eqL_len (xs := xs) (ys := ys) (by simpa using h), Bool.and_false]
def EqSpec (f : Nat) (N : Nat) : Prop := ∀ (x y : S24) (A B : Option Addr) (c d : Nat) (w : World), cnt x ≤ N → x.f3.length ≤ c → y.f3.length ≤ d → Kd.C k24 w A x.f3.length x.f3 → Kd.C k24 w B y.f3.length y.f3 →
    Calls Tryd.prog f #[.agg #[.int .i64 x.f0, .string x.f1, .int .i64 x.f2, .slice A x.f3.length c], .agg #[.int .i64 y.f0, .string y.f1, .int .i64 y.f2, .slice B y.f3.length d]] w fun e w' => e = .returned (.bool (eqN x y)) ∧ Below w.heap.size w w'
/-- Element i of a row that came in, where a later world is read. -/
theorem elemAt {w wr : World} {l : List S24} {A : Option Addr} {i : Nat} (h : Kd.C k24 w A l.length l) (hb : Below w.heap.size w wr) (hi : i < l.length) :
    ∃ ad A3 c3, A = some ad ∧ (nth l i).f3.length ≤ c3 ∧ Aside0 (Kd.C k24 wr A3 (nth l i).f3.length (nth l i).f3) ∧
    wr.cell? (ad.add (i * 4)) = some (.int .i64 (nth l i).f0) ∧ wr.cell? ⟨(ad.add (i * 4)).block, (ad.add (i * 4)).off + 1, none⟩ = some (.string (nth l i).f1) ∧ wr.cell? ⟨(ad.add (i * 4)).block, (ad.add (i * 4)).off + 2, none⟩ = some (.int .i64 (nth l i).f2) ∧ wr.cell? ⟨(ad.add (i * 4)).block, (ad.add (i * 4)).off + 3, none⟩ = some (.slice A3 (nth l i).f3.length c3) := by
  obtain ⟨ad, cs, rfl, hcl, hK, hcc⟩ := Kd.C_get (Kd.C_below h hb) z24 (i : Int) (by omega) (by omega)
  simp only [Int.toNat_natCast] at hK hcc
  obtain ⟨A3, c3, rfl, hl3, hF3⟩ := k24_open hK
  have hnx : l.getD i z24 = nth l i := rfl
  rw [hnx] at hcc hl3 hF3
  exact ⟨ad, A3, c3, rfl, hl3, ⟨hF3⟩, hcc 0 _ rfl, by rw [← add_field _ _ 1 (by omega)]; exact hcc 1 _ rfl, by rw [← add_field _ _ 2 (by omega)]; exact hcc 2 _ rfl, by rw [← add_field _ _ 3 (by omega)]; exact hcc 3 _ rfl⟩
theorem cell_alloc {w : World} {a : Addr} {v : Value} (h : w.cell? a = some v) (o : Obj) : (w.alloc o).cell? a = some v := pw_cell_below (below_alloc (Below.refl _ _) o) h
theorem drop_nth {l : List S24} {i : Nat} (hi : i < l.length) : l.drop i = nth l i :: l.drop (i + 1) := by
  have hx := nth_some hi
  rw [List.drop_eq_getElem_cons hi]
  congr 1
  rw [List.getElem?_eq_getElem hi] at hx
  injection hx
set_option maxRecDepth 100000 in
set_option maxHeartbeats 1000000 in
theorem equalFunc_step (N : Nat) (hE : EqSpec 49 N) (l ys : List S24) (A B : Option Addr) (c d : Nat) (w : World) (hN : cntL l ≤ N) (hc : l.length ≤ c) (hd : ys.length ≤ d) (hA : Kd.C k24 w A l.length l) (hB : Kd.C k24 w B ys.length ys) :
    Calls Tryd.prog 48 #[.slice A l.length c, .slice B ys.length d, .func (.func 49) #[] #[]] w fun e w' => e = .returned (.bool (eqL l ys)) ∧ Below w.heap.size w w' := by
  have hlA := hA.2.1
  have hlB := hB.2.1
  by_cases hl : l.length = ys.length
  · have HA := Aside0.mk hA
    have HB := Aside0.mk hB
    have HL := Aside0.mk hl
    have q0 : ((l.length : Int) != (ys.length : Int)) = false := by rw [hl]; simp
    have q1 : (l.length != ys.length) = false := by rw [hl]; simp
    have q2 : (l.length == ys.length) = true := by rw [hl]; simp
    clear hl hA hB
    go_enter Tryd.func48, Tryd.ntmps48
    go_wp2_with fail
    go_loopg [17] l.length (fun kq v17 wr => ∃ i : Nat, v17 = .int .i64 i ∧ Aside0 (i + kq = l.length) ∧ Aside0 (Below w.heap.size w wr) ∧ Aside0 (eqL (l.drop i) (ys.drop i) = eqL l ys))
    case atStart => exact ⟨0, rfl, ⟨by omega⟩, ⟨Below.refl _ _⟩, ⟨by rw [List.drop_zero, List.drop_zero]⟩⟩
    case round =>
      obtain ⟨i, rfl, HK, HW, HE⟩ := hrel
      by_cases hlt : i < l.length
      · have hlt2 : i < ys.length := by have := HL.out; omega
        obtain ⟨ad, A3, c3, rfl, hl3, HF3, e0, e1, e2, e3⟩ := elemAt HA.out HW.out hlt
        obtain ⟨bd, B3, d3, rfl, hm3, HG3, g0, g1, g2, g3⟩ := elemAt HB.out HW.out hlt2
        have HC2 : Aside0 (cnt (nth l i) ≤ N) := ⟨Nat.le_trans (cntL_get (nth_some hlt)) hN⟩
        have HE2 : Aside0 ((eqN (nth l i) (nth ys i) && eqL (l.drop (i + 1)) (ys.drop (i + 1))) = eqL l ys) := ⟨by have h2 := HE.out; rw [drop_nth hlt, drop_nth hlt2, eqL] at h2; exact h2⟩
        have hbb : ∀ o1 o2 : Obj, Aside0 (Below wr.heap.size wr ((wr.alloc o1).alloc o2)) := fun o1 o2 => ⟨below_alloc (below_alloc (Below.refl _ _) _) _⟩
        have g0' := fun o => cell_alloc g0 o
        have g1' := fun o => cell_alloc g1 o
        have g2' := fun o => cell_alloc g2 o
        have g3' := fun o => cell_alloc g3 o
        clear HE
        cases he : eqN (nth l i) (nth ys i) with
        | false =>
          have HEN := Aside0.mk he
          clear he
          go_wp2_with (go_at_call 49; go_loud (refine (hE (nth l i) (nth ys i) A3 B3 c3 d3 _ HC2.out hl3 hm3 ?qa ?qb).mono ?_; (case qa => exact Kd.C_below HF3.out (hbb _ _).out); (case qb => exact Kd.C_below HG3.out (hbb _ _).out); rintro e w3 ⟨he, hb3⟩; rw [HEN.out] at he; subst he))
          go_ret
          refine ⟨by rw [← HE2.out, HEN.out]; rfl, below_then (below_then HW.out HW.out.size (hbb _ _).out) ?_ hb3⟩
          exact Nat.le_trans HW.out.size (hbb _ _).out.size
        | true =>
          have HEN := Aside0.mk he
          clear he
          go_wp2_with (go_at_call 49; go_loud (refine (hE (nth l i) (nth ys i) A3 B3 c3 d3 _ HC2.out hl3 hm3 ?qa ?qb).mono ?_; (case qa => exact Kd.C_below HF3.out (hbb _ _).out); (case qb => exact Kd.C_below HG3.out (hbb _ _).out); rintro e w3 ⟨he, hb3⟩; rw [HEN.out] at he; subst he))
          obtain ⟨k', rfl⟩ : ∃ k', gk = k' + 1 := ⟨gk - 1, by have := HK.out; omega⟩
          have HB3 : Aside0 (Below w.heap.size w w3) := ⟨below_then (below_then HW.out HW.out.size (hbb _ _).out) (Nat.le_trans HW.out.size (hbb _ _).out.size) hb3⟩
          go_roundg k'
          case measure => omega
          case rel => exact ⟨i + 1, by go_num, ⟨by have := HK.out; omega⟩, HB3, ⟨by rw [← HE2.out, HEN.out]; rfl⟩⟩
      · have hil : i = l.length := by have := HK.out; omega
        have HR : Aside0 (eqL l ys = true) := ⟨by rw [← HE.out, hil, List.drop_eq_nil_of_le (Nat.le_refl _), List.drop_eq_nil_of_le (by have := HL.out; omega)]; rfl⟩
        clear hil
        go_wp2
        go_ret
        exact ⟨by rw [HR.out]; rfl, HW.out⟩
  · have HR : Aside0 (eqL l ys = false) := ⟨eqL_len hl⟩
    have q0 : ((l.length : Int) != (ys.length : Int)) = true := by rw [bne_iff_ne]; omega
    have q1 : (l.length != ys.length) = true := by rw [bne_iff_ne]; exact hl
    have q2 : (l.length == ys.length) = false := beq_eq_false_iff_ne.2 hl
    clear hl hA hB
    go_enter Tryd.func48, Tryd.ntmps48
    go_wp2_with fail
    go_ret
    exact ⟨by rw [HR.out]; rfl, Below.refl _ _⟩
end Go.Proofs.YtgcpfelccfnnbaaDoor.X
