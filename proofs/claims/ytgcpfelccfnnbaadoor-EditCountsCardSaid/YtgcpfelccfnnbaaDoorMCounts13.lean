/-
Part 13 of the texts of this proof: the walks through the program's functions.
-/
import Derived.Test.YtgcpfelccfnnbaaDoorMCounts2
import Derived.Test.YtgcpfelccfnnbaaDoorMCounts3
import Derived.Test.YtgcpfelccfnnbaaDoorMCounts7
import Derived.Test.YtgcpfelccfnnbaaDoorMCounts8
namespace Go.Proofs.YtgcpfelccfnnbaaDoor.X
open Go.RowKit Go.Proofs.YtgcpfelccfnnbaaDoorW.PrintWords Go.Proofs.YtgcpfelccfnnbaaDoorW.PrintLast Go.Proofs.YtgcpfelccfnnbaaDoorW.PrintMore
attribute [local go_sem] max2_int min2_int max_two min_two max_three min_three max_four min_four   -- for this text's walks alone
set_option linter.unusedVariables false
set_option linter.unusedSimpArgs false
set_option maxRecDepth 100000 in
set_option maxHeartbeats 1000000 in
theorem shape_9 (f1 : ByteArray) (f2 : Int) (A : Option Addr) (n c gC gF : Nat) (w : World) (hf1 : f1.data.toList.length ≤ 9223372036854775807) (hn : n ≤ 9223372036854775807) (hC : w.cell? ⟨gC, 0, none⟩ = some (.slice (some ⟨gF, 0, none⟩) 13 13)) (hF : w.heap[gF]? = some (.cells FORMS 79 (0, 0))) :
    Calls Tryd.prog 65 #[.pointer (some ⟨gC, 0, none⟩), .agg #[.int .i64 9, .string f1, .int .i64 f2, .slice A n c]] w fun e w' => e = .returned (.bool (f1.data.toList.isEmpty && (decide (f2 = 0) && decide (n = 3)))) ∧ Below w.heap.size w w' := by
  have hgF := blk_lt hF
  have hgC := World.block_lt_of_cell? w _ hC
  have e0 : w.cell? ⟨gF, 27, none⟩ = some (.string ⟨#[98, 111, 116, 104]⟩) := blk_cell hF 27
  have e1 : w.cell? ⟨gF, 28, none⟩ = some (.func (.func 59) #[] #[]) := blk_cell hF 28
  have e2 : w.cell? ⟨gF, 29, none⟩ = some (.int .i64 3) := blk_cell hF 29
  clear hF
  cases hT : f1.data.toList.isEmpty with
  | false =>
    have HT := Aside0.mk hT
    clear hT
    go_enter Tryd.func65, Tryd.ntmps65
    go_wp2_with fail
    go_region
    go_wp2_with (go_at_call 59; go_loud (refine (node_empty.calls f1 false _ (by rw [empty_f f1, HT.out])).mono ?_; rintro e w1 ⟨rfl, hd⟩; have hb := Drawn0.below hd))
    go_ret
    exact ⟨by simp, (((Below.refl _ _).alloc (Nat.le_refl _) _).alloc (by simp) _).drew.trans ⟨hb.os, hb.tape, hb.output, hb.size, fun k hk => hb.block k (by simp; omega)⟩⟩
  | true =>
    have HT := Aside0.mk hT
    clear hT
    by_cases h2 : f2 = 0
    · subst h2
      by_cases h3 : n = 3
      · subst h3
        go_enter Tryd.func65, Tryd.ntmps65
        go_wp2_with fail
        go_region
        go_wp2_with (go_at_call 59; go_loud (refine (node_empty.calls f1 true _ (by rw [empty_f f1, HT.out])).mono ?_; rintro e w1 ⟨rfl, hd⟩; have hb := Drawn0.below hd; have HB1 := (hb.block w.heap.size (by simp; omega)).trans (alloc2_fst w (.cells #[.int .i64 9, .string f1, .int .i64 0, .slice A 3 c] 24) (.cells #[.string ⟨#[98, 111, 116, 104]⟩, .func (.func 59) #[] #[], .int .i64 3] 79)); have HB2 := (hb.block (w.heap.size + 1) (by simp)).trans (alloc2_snd w (.cells #[.int .i64 9, .string f1, .int .i64 0, .slice A 3 c] 24) (.cells #[.string ⟨#[98, 111, 116, 104]⟩, .func (.func 59) #[] #[], .int .i64 3] 79)); have b2 := blk_cell HB1 2; have b3 := blk_cell HB1 3; have b4 := blk_cell HB2 2; clear HB1 HB2))
        go_ret
        exact ⟨by simp, (((Below.refl _ _).alloc (Nat.le_refl _) _).alloc (by simp) _).drew.trans ⟨hb.os, hb.tape, hb.output, hb.size, fun k hk => hb.block k (by simp; omega)⟩⟩
      · have h3b : ((n : Int) == 3) = false := beq_eq_false_iff_ne.2 (by omega)
        have H3 := Aside0.mk h3
        clear h3
        go_enter Tryd.func65, Tryd.ntmps65
        go_wp2_with fail
        go_region
        go_wp2_with (go_at_call 59; go_loud (refine (node_empty.calls f1 true _ (by rw [empty_f f1, HT.out])).mono ?_; rintro e w1 ⟨rfl, hd⟩; have hb := Drawn0.below hd; have HB1 := (hb.block w.heap.size (by simp; omega)).trans (alloc2_fst w (.cells #[.int .i64 9, .string f1, .int .i64 0, .slice A n c] 24) (.cells #[.string ⟨#[98, 111, 116, 104]⟩, .func (.func 59) #[] #[], .int .i64 3] 79)); have HB2 := (hb.block (w.heap.size + 1) (by simp)).trans (alloc2_snd w (.cells #[.int .i64 9, .string f1, .int .i64 0, .slice A n c] 24) (.cells #[.string ⟨#[98, 111, 116, 104]⟩, .func (.func 59) #[] #[], .int .i64 3] 79)); have b2 := blk_cell HB1 2; have b3 := blk_cell HB1 3; have b4 := blk_cell HB2 2; clear HB1 HB2))
        go_ret
        exact ⟨by simp [H3.out], (((Below.refl _ _).alloc (Nat.le_refl _) _).alloc (by simp) _).drew.trans ⟨hb.os, hb.tape, hb.output, hb.size, fun k hk => hb.block k (by simp; omega)⟩⟩
    · have h2b : (f2 == 0) = false := beq_eq_false_iff_ne.2 h2
      have H2 := Aside0.mk h2
      clear h2
      go_enter Tryd.func65, Tryd.ntmps65
      go_wp2_with fail
      go_region
      go_wp2_with (go_at_call 59; go_loud (refine (node_empty.calls f1 true _ (by rw [empty_f f1, HT.out])).mono ?_; rintro e w1 ⟨rfl, hd⟩; have hb := Drawn0.below hd; have HB1 := (hb.block w.heap.size (by simp; omega)).trans (alloc2_fst w (.cells #[.int .i64 9, .string f1, .int .i64 f2, .slice A n c] 24) (.cells #[.string ⟨#[98, 111, 116, 104]⟩, .func (.func 59) #[] #[], .int .i64 3] 79)); have HB2 := (hb.block (w.heap.size + 1) (by simp)).trans (alloc2_snd w (.cells #[.int .i64 9, .string f1, .int .i64 f2, .slice A n c] 24) (.cells #[.string ⟨#[98, 111, 116, 104]⟩, .func (.func 59) #[] #[], .int .i64 3] 79)); have b2 := blk_cell HB1 2; have b3 := blk_cell HB1 3; have b4 := blk_cell HB2 2; clear HB1 HB2))
      go_ret
      exact ⟨by simp [H2.out], (((Below.refl _ _).alloc (Nat.le_refl _) _).alloc (by simp) _).drew.trans ⟨hb.os, hb.tape, hb.output, hb.size, fun k hk => hb.block k (by simp; omega)⟩⟩
set_option maxRecDepth 100000 in
set_option maxHeartbeats 1000000 in
theorem shape_10 (f1 : ByteArray) (f2 : Int) (A : Option Addr) (n c gC gF : Nat) (w : World) (hf1 : f1.data.toList.length ≤ 9223372036854775807) (hn : n ≤ 9223372036854775807) (hC : w.cell? ⟨gC, 0, none⟩ = some (.slice (some ⟨gF, 0, none⟩) 13 13)) (hF : w.heap[gF]? = some (.cells FORMS 79 (0, 0))) :
    Calls Tryd.prog 65 #[.pointer (some ⟨gC, 0, none⟩), .agg #[.int .i64 10, .string f1, .int .i64 f2, .slice A n c]] w fun e w' => e = .returned (.bool (accL f1.data.toList && (decide (f2 = 0) && decide (n = 1)))) ∧ Below w.heap.size w w' := by
  have hgF := blk_lt hF
  have hgC := World.block_lt_of_cell? w _ hC
  have e0 : w.cell? ⟨gF, 30, none⟩ = some (.string ⟨#[97, 99, 99, 101, 110, 116]⟩) := blk_cell hF 30
  have e1 : w.cell? ⟨gF, 31, none⟩ = some (.func (.func 63) #[] #[]) := blk_cell hF 31
  have e2 : w.cell? ⟨gF, 32, none⟩ = some (.int .i64 1) := blk_cell hF 32
  clear hF
  cases hT : accL f1.data.toList with
  | false =>
    have HT := Aside0.mk hT
    clear hT
    go_enter Tryd.func65, Tryd.ntmps65
    go_wp2_with fail
    go_region
    go_wp2_with (go_at_call 63; go_loud (refine (node_accent.calls 7 f1 false _ (by rw [accent_f f1 7 (by decide), HT.out])).mono ?_; rintro e w1 ⟨rfl, hb⟩))
    go_ret
    exact ⟨by simp, (((Below.refl _ _).alloc (Nat.le_refl _) _).alloc (by simp) _).drew.trans ⟨hb.os, hb.tape, hb.output, hb.size, fun k hk => hb.block k (by simp; omega)⟩⟩
  | true =>
    have HT := Aside0.mk hT
    clear hT
    by_cases h2 : f2 = 0
    · subst h2
      by_cases h3 : n = 1
      · subst h3
        go_enter Tryd.func65, Tryd.ntmps65
        go_wp2_with fail
        go_region
        go_wp2_with (go_at_call 63; go_loud (refine (node_accent.calls 7 f1 true _ (by rw [accent_f f1 7 (by decide), HT.out])).mono ?_; rintro e w1 ⟨rfl, hb⟩; have HB1 := (hb.block w.heap.size (by simp; omega)).trans (alloc2_fst w (.cells #[.int .i64 10, .string f1, .int .i64 0, .slice A 1 c] 24) (.cells #[.string ⟨#[97, 99, 99, 101, 110, 116]⟩, .func (.func 63) #[] #[], .int .i64 1] 79)); have HB2 := (hb.block (w.heap.size + 1) (by simp)).trans (alloc2_snd w (.cells #[.int .i64 10, .string f1, .int .i64 0, .slice A 1 c] 24) (.cells #[.string ⟨#[97, 99, 99, 101, 110, 116]⟩, .func (.func 63) #[] #[], .int .i64 1] 79)); have b2 := blk_cell HB1 2; have b3 := blk_cell HB1 3; have b4 := blk_cell HB2 2; clear HB1 HB2))
        go_ret
        exact ⟨by simp, (((Below.refl _ _).alloc (Nat.le_refl _) _).alloc (by simp) _).drew.trans ⟨hb.os, hb.tape, hb.output, hb.size, fun k hk => hb.block k (by simp; omega)⟩⟩
      · have h3b : ((n : Int) == 1) = false := beq_eq_false_iff_ne.2 (by omega)
        have H3 := Aside0.mk h3
        clear h3
        go_enter Tryd.func65, Tryd.ntmps65
        go_wp2_with fail
        go_region
        go_wp2_with (go_at_call 63; go_loud (refine (node_accent.calls 7 f1 true _ (by rw [accent_f f1 7 (by decide), HT.out])).mono ?_; rintro e w1 ⟨rfl, hb⟩; have HB1 := (hb.block w.heap.size (by simp; omega)).trans (alloc2_fst w (.cells #[.int .i64 10, .string f1, .int .i64 0, .slice A n c] 24) (.cells #[.string ⟨#[97, 99, 99, 101, 110, 116]⟩, .func (.func 63) #[] #[], .int .i64 1] 79)); have HB2 := (hb.block (w.heap.size + 1) (by simp)).trans (alloc2_snd w (.cells #[.int .i64 10, .string f1, .int .i64 0, .slice A n c] 24) (.cells #[.string ⟨#[97, 99, 99, 101, 110, 116]⟩, .func (.func 63) #[] #[], .int .i64 1] 79)); have b2 := blk_cell HB1 2; have b3 := blk_cell HB1 3; have b4 := blk_cell HB2 2; clear HB1 HB2))
        go_ret
        exact ⟨by simp [H3.out], (((Below.refl _ _).alloc (Nat.le_refl _) _).alloc (by simp) _).drew.trans ⟨hb.os, hb.tape, hb.output, hb.size, fun k hk => hb.block k (by simp; omega)⟩⟩
    · have h2b : (f2 == 0) = false := beq_eq_false_iff_ne.2 h2
      have H2 := Aside0.mk h2
      clear h2
      go_enter Tryd.func65, Tryd.ntmps65
      go_wp2_with fail
      go_region
      go_wp2_with (go_at_call 63; go_loud (refine (node_accent.calls 7 f1 true _ (by rw [accent_f f1 7 (by decide), HT.out])).mono ?_; rintro e w1 ⟨rfl, hb⟩; have HB1 := (hb.block w.heap.size (by simp; omega)).trans (alloc2_fst w (.cells #[.int .i64 10, .string f1, .int .i64 f2, .slice A n c] 24) (.cells #[.string ⟨#[97, 99, 99, 101, 110, 116]⟩, .func (.func 63) #[] #[], .int .i64 1] 79)); have HB2 := (hb.block (w.heap.size + 1) (by simp)).trans (alloc2_snd w (.cells #[.int .i64 10, .string f1, .int .i64 f2, .slice A n c] 24) (.cells #[.string ⟨#[97, 99, 99, 101, 110, 116]⟩, .func (.func 63) #[] #[], .int .i64 1] 79)); have b2 := blk_cell HB1 2; have b3 := blk_cell HB1 3; have b4 := blk_cell HB2 2; clear HB1 HB2))
      go_ret
      exact ⟨by simp [H2.out], (((Below.refl _ _).alloc (Nat.le_refl _) _).alloc (by simp) _).drew.trans ⟨hb.os, hb.tape, hb.output, hb.size, fun k hk => hb.block k (by simp; omega)⟩⟩
set_option maxRecDepth 100000 in
set_option maxHeartbeats 1000000 in
theorem shape_11 (f1 : ByteArray) (f2 : Int) (A : Option Addr) (n c gC gF : Nat) (w : World) (hf1 : f1.data.toList.length ≤ 9223372036854775807) (hn : n ≤ 9223372036854775807) (hC : w.cell? ⟨gC, 0, none⟩ = some (.slice (some ⟨gF, 0, none⟩) 13 13)) (hF : w.heap[gF]? = some (.cells FORMS 79 (0, 0))) :
    Calls Tryd.prog 65 #[.pointer (some ⟨gC, 0, none⟩), .agg #[.int .i64 11, .string f1, .int .i64 f2, .slice A n c]] w fun e w' => e = .returned (.bool (fenceL f1.data.toList && (decide (f2 = 0) && decide (n = 1)))) ∧ Below w.heap.size w w' := by
  have hgF := blk_lt hF
  have hgC := World.block_lt_of_cell? w _ hC
  have e0 : w.cell? ⟨gF, 33, none⟩ = some (.string ⟨#[102, 101, 110, 99, 101]⟩) := blk_cell hF 33
  have e1 : w.cell? ⟨gF, 34, none⟩ = some (.func (.func 64) #[] #[]) := blk_cell hF 34
  have e2 : w.cell? ⟨gF, 35, none⟩ = some (.int .i64 1) := blk_cell hF 35
  clear hF
  cases hT : fenceL f1.data.toList with
  | false =>
    have HT := Aside0.mk hT
    clear hT
    go_enter Tryd.func65, Tryd.ntmps65
    go_wp2_with fail
    go_region
    go_wp2_with (go_at_call 64; go_loud (refine (node_fence.calls f1 false _ (by rw [fence_f f1, HT.out])).mono ?_; rintro e w1 ⟨rfl, hd⟩; have hb := Drawn0.below hd))
    go_ret
    exact ⟨by simp, (((Below.refl _ _).alloc (Nat.le_refl _) _).alloc (by simp) _).drew.trans ⟨hb.os, hb.tape, hb.output, hb.size, fun k hk => hb.block k (by simp; omega)⟩⟩
  | true =>
    have HT := Aside0.mk hT
    clear hT
    by_cases h2 : f2 = 0
    · subst h2
      by_cases h3 : n = 1
      · subst h3
        go_enter Tryd.func65, Tryd.ntmps65
        go_wp2_with fail
        go_region
        go_wp2_with (go_at_call 64; go_loud (refine (node_fence.calls f1 true _ (by rw [fence_f f1, HT.out])).mono ?_; rintro e w1 ⟨rfl, hd⟩; have hb := Drawn0.below hd; have HB1 := (hb.block w.heap.size (by simp; omega)).trans (alloc2_fst w (.cells #[.int .i64 11, .string f1, .int .i64 0, .slice A 1 c] 24) (.cells #[.string ⟨#[102, 101, 110, 99, 101]⟩, .func (.func 64) #[] #[], .int .i64 1] 79)); have HB2 := (hb.block (w.heap.size + 1) (by simp)).trans (alloc2_snd w (.cells #[.int .i64 11, .string f1, .int .i64 0, .slice A 1 c] 24) (.cells #[.string ⟨#[102, 101, 110, 99, 101]⟩, .func (.func 64) #[] #[], .int .i64 1] 79)); have b2 := blk_cell HB1 2; have b3 := blk_cell HB1 3; have b4 := blk_cell HB2 2; clear HB1 HB2))
        go_ret
        exact ⟨by simp, (((Below.refl _ _).alloc (Nat.le_refl _) _).alloc (by simp) _).drew.trans ⟨hb.os, hb.tape, hb.output, hb.size, fun k hk => hb.block k (by simp; omega)⟩⟩
      · have h3b : ((n : Int) == 1) = false := beq_eq_false_iff_ne.2 (by omega)
        have H3 := Aside0.mk h3
        clear h3
        go_enter Tryd.func65, Tryd.ntmps65
        go_wp2_with fail
        go_region
        go_wp2_with (go_at_call 64; go_loud (refine (node_fence.calls f1 true _ (by rw [fence_f f1, HT.out])).mono ?_; rintro e w1 ⟨rfl, hd⟩; have hb := Drawn0.below hd; have HB1 := (hb.block w.heap.size (by simp; omega)).trans (alloc2_fst w (.cells #[.int .i64 11, .string f1, .int .i64 0, .slice A n c] 24) (.cells #[.string ⟨#[102, 101, 110, 99, 101]⟩, .func (.func 64) #[] #[], .int .i64 1] 79)); have HB2 := (hb.block (w.heap.size + 1) (by simp)).trans (alloc2_snd w (.cells #[.int .i64 11, .string f1, .int .i64 0, .slice A n c] 24) (.cells #[.string ⟨#[102, 101, 110, 99, 101]⟩, .func (.func 64) #[] #[], .int .i64 1] 79)); have b2 := blk_cell HB1 2; have b3 := blk_cell HB1 3; have b4 := blk_cell HB2 2; clear HB1 HB2))
        go_ret
        exact ⟨by simp [H3.out], (((Below.refl _ _).alloc (Nat.le_refl _) _).alloc (by simp) _).drew.trans ⟨hb.os, hb.tape, hb.output, hb.size, fun k hk => hb.block k (by simp; omega)⟩⟩
    · have h2b : (f2 == 0) = false := beq_eq_false_iff_ne.2 h2
      have H2 := Aside0.mk h2
      clear h2
      go_enter Tryd.func65, Tryd.ntmps65
      go_wp2_with fail
      go_region
      go_wp2_with (go_at_call 64; go_loud (refine (node_fence.calls f1 true _ (by rw [fence_f f1, HT.out])).mono ?_; rintro e w1 ⟨rfl, hd⟩; have hb := Drawn0.below hd; have HB1 := (hb.block w.heap.size (by simp; omega)).trans (alloc2_fst w (.cells #[.int .i64 11, .string f1, .int .i64 f2, .slice A n c] 24) (.cells #[.string ⟨#[102, 101, 110, 99, 101]⟩, .func (.func 64) #[] #[], .int .i64 1] 79)); have HB2 := (hb.block (w.heap.size + 1) (by simp)).trans (alloc2_snd w (.cells #[.int .i64 11, .string f1, .int .i64 f2, .slice A n c] 24) (.cells #[.string ⟨#[102, 101, 110, 99, 101]⟩, .func (.func 64) #[] #[], .int .i64 1] 79)); have b2 := blk_cell HB1 2; have b3 := blk_cell HB1 3; have b4 := blk_cell HB2 2; clear HB1 HB2))
      go_ret
      exact ⟨by simp [H2.out], (((Below.refl _ _).alloc (Nat.le_refl _) _).alloc (by simp) _).drew.trans ⟨hb.os, hb.tape, hb.output, hb.size, fun k hk => hb.block k (by simp; omega)⟩⟩
end Go.Proofs.YtgcpfelccfnnbaaDoor.X
