/-
Part 11 of the texts of this proof: the walks through the program's functions.
-/
import Derived.Test.YtgcpfelccfnnbaaDoorMCounts2
import Derived.Test.YtgcpfelccfnnbaaDoorMCounts8
namespace Go.Proofs.YtgcpfelccfnnbaaDoor.X
open Go.RowKit Go.Proofs.YtgcpfelccfnnbaaDoorW.PrintWords Go.Proofs.YtgcpfelccfnnbaaDoorW.PrintLast Go.Proofs.YtgcpfelccfnnbaaDoorW.PrintMore
attribute [local go_sem] max2_int min2_int max_two min_two max_three min_three max_four min_four   -- for this text's walks alone
set_option linter.unusedVariables false
set_option linter.unusedSimpArgs false
set_option maxRecDepth 100000 in
set_option maxHeartbeats 1000000 in
theorem shape_5 (f1 : ByteArray) (f2 : Int) (A : Option Addr) (n c gC gF : Nat) (w : World) (hf1 : f1.data.toList.length ≤ 9223372036854775807) (hn : n ≤ 9223372036854775807) (hC : w.cell? ⟨gC, 0, none⟩ = some (.slice (some ⟨gF, 0, none⟩) 13 13)) (hF : w.heap[gF]? = some (.cells FORMS 79 (0, 0))) :
    Calls Tryd.prog 65 #[.pointer (some ⟨gC, 0, none⟩), .agg #[.int .i64 5, .string f1, .int .i64 f2, .slice A n c]] w fun e w' => e = .returned (.bool (f1.data.toList.isEmpty && (decide (f2 = 0) && decide (n = 2)))) ∧ Below w.heap.size w w' := by
  have hgF := blk_lt hF
  have hgC := World.block_lt_of_cell? w _ hC
  have e0 : w.cell? ⟨gF, 15, none⟩ = some (.string ⟨#[102, 114, 97, 99]⟩) := blk_cell hF 15
  have e1 : w.cell? ⟨gF, 16, none⟩ = some (.func (.func 59) #[] #[]) := blk_cell hF 16
  have e2 : w.cell? ⟨gF, 17, none⟩ = some (.int .i64 2) := blk_cell hF 17
  clear hF
  cases hT : f1.data.toList.isEmpty with
  | false =>
    have HT := Aside0.mk hT
    clear hT
    go_enter Tryd.func65, Tryd.ntmps65
    go_wp2_with fail
    go_region
    go_wp2_with (go_at_call 59; go_loud (refine (node_empty.calls f1 false _ (by rw [empty_f f1, HT.out])).mono ?_; rintro e w1 ⟨rfl, hd⟩; have hb := Drawn0.below hd))
    go_ret
    exact ⟨by simp, (((Below.refl _ _).alloc (Nat.le_refl _) _).alloc (by simp) _).drew.trans ⟨hb.os, hb.tape, hb.output, hb.size, fun k hk => hb.block k (by simp; omega)⟩⟩
  | true =>
    have HT := Aside0.mk hT
    clear hT
    by_cases h2 : f2 = 0
    · subst h2
      by_cases h3 : n = 2
      · subst h3
        go_enter Tryd.func65, Tryd.ntmps65
        go_wp2_with fail
        go_region
        go_wp2_with (go_at_call 59; go_loud (refine (node_empty.calls f1 true _ (by rw [empty_f f1, HT.out])).mono ?_; rintro e w1 ⟨rfl, hd⟩; have hb := Drawn0.below hd; have HB1 := (hb.block w.heap.size (by simp; omega)).trans (alloc2_fst w (.cells #[.int .i64 5, .string f1, .int .i64 0, .slice A 2 c] 24) (.cells #[.string ⟨#[102, 114, 97, 99]⟩, .func (.func 59) #[] #[], .int .i64 2] 79)); have HB2 := (hb.block (w.heap.size + 1) (by simp)).trans (alloc2_snd w (.cells #[.int .i64 5, .string f1, .int .i64 0, .slice A 2 c] 24) (.cells #[.string ⟨#[102, 114, 97, 99]⟩, .func (.func 59) #[] #[], .int .i64 2] 79)); have b2 := blk_cell HB1 2; have b3 := blk_cell HB1 3; have b4 := blk_cell HB2 2; clear HB1 HB2))
        go_ret
        exact ⟨by simp, (((Below.refl _ _).alloc (Nat.le_refl _) _).alloc (by simp) _).drew.trans ⟨hb.os, hb.tape, hb.output, hb.size, fun k hk => hb.block k (by simp; omega)⟩⟩
      · have h3b : ((n : Int) == 2) = false := beq_eq_false_iff_ne.2 (by omega)
        have H3 := Aside0.mk h3
        clear h3
        go_enter Tryd.func65, Tryd.ntmps65
        go_wp2_with fail
        go_region
        go_wp2_with (go_at_call 59; go_loud (refine (node_empty.calls f1 true _ (by rw [empty_f f1, HT.out])).mono ?_; rintro e w1 ⟨rfl, hd⟩; have hb := Drawn0.below hd; have HB1 := (hb.block w.heap.size (by simp; omega)).trans (alloc2_fst w (.cells #[.int .i64 5, .string f1, .int .i64 0, .slice A n c] 24) (.cells #[.string ⟨#[102, 114, 97, 99]⟩, .func (.func 59) #[] #[], .int .i64 2] 79)); have HB2 := (hb.block (w.heap.size + 1) (by simp)).trans (alloc2_snd w (.cells #[.int .i64 5, .string f1, .int .i64 0, .slice A n c] 24) (.cells #[.string ⟨#[102, 114, 97, 99]⟩, .func (.func 59) #[] #[], .int .i64 2] 79)); have b2 := blk_cell HB1 2; have b3 := blk_cell HB1 3; have b4 := blk_cell HB2 2; clear HB1 HB2))
        go_ret
        exact ⟨by simp [H3.out], (((Below.refl _ _).alloc (Nat.le_refl _) _).alloc (by simp) _).drew.trans ⟨hb.os, hb.tape, hb.output, hb.size, fun k hk => hb.block k (by simp; omega)⟩⟩
    · have h2b : (f2 == 0) = false := beq_eq_false_iff_ne.2 h2
      have H2 := Aside0.mk h2
      clear h2
      go_enter Tryd.func65, Tryd.ntmps65
      go_wp2_with fail
      go_region
      go_wp2_with (go_at_call 59; go_loud (refine (node_empty.calls f1 true _ (by rw [empty_f f1, HT.out])).mono ?_; rintro e w1 ⟨rfl, hd⟩; have hb := Drawn0.below hd; have HB1 := (hb.block w.heap.size (by simp; omega)).trans (alloc2_fst w (.cells #[.int .i64 5, .string f1, .int .i64 f2, .slice A n c] 24) (.cells #[.string ⟨#[102, 114, 97, 99]⟩, .func (.func 59) #[] #[], .int .i64 2] 79)); have HB2 := (hb.block (w.heap.size + 1) (by simp)).trans (alloc2_snd w (.cells #[.int .i64 5, .string f1, .int .i64 f2, .slice A n c] 24) (.cells #[.string ⟨#[102, 114, 97, 99]⟩, .func (.func 59) #[] #[], .int .i64 2] 79)); have b2 := blk_cell HB1 2; have b3 := blk_cell HB1 3; have b4 := blk_cell HB2 2; clear HB1 HB2))
      go_ret
      exact ⟨by simp [H2.out], (((Below.refl _ _).alloc (Nat.le_refl _) _).alloc (by simp) _).drew.trans ⟨hb.os, hb.tape, hb.output, hb.size, fun k hk => hb.block k (by simp; omega)⟩⟩
set_option maxRecDepth 100000 in
set_option maxHeartbeats 1000000 in
theorem shape_6 (f1 : ByteArray) (f2 : Int) (A : Option Addr) (n c gC gF : Nat) (w : World) (hf1 : f1.data.toList.length ≤ 9223372036854775807) (hn : n ≤ 9223372036854775807) (hC : w.cell? ⟨gC, 0, none⟩ = some (.slice (some ⟨gF, 0, none⟩) 13 13)) (hF : w.heap[gF]? = some (.cells FORMS 79 (0, 0))) :
    Calls Tryd.prog 65 #[.pointer (some ⟨gC, 0, none⟩), .agg #[.int .i64 6, .string f1, .int .i64 f2, .slice A n c]] w fun e w' => e = .returned (.bool (f1.data.toList.isEmpty && (decide (f2 = 0) && decide (n = 2)))) ∧ Below w.heap.size w w' := by
  have hgF := blk_lt hF
  have hgC := World.block_lt_of_cell? w _ hC
  have e0 : w.cell? ⟨gF, 18, none⟩ = some (.string ⟨#[114, 111, 111, 116]⟩) := blk_cell hF 18
  have e1 : w.cell? ⟨gF, 19, none⟩ = some (.func (.func 59) #[] #[]) := blk_cell hF 19
  have e2 : w.cell? ⟨gF, 20, none⟩ = some (.int .i64 2) := blk_cell hF 20
  clear hF
  cases hT : f1.data.toList.isEmpty with
  | false =>
    have HT := Aside0.mk hT
    clear hT
    go_enter Tryd.func65, Tryd.ntmps65
    go_wp2_with fail
    go_region
    go_wp2_with (go_at_call 59; go_loud (refine (node_empty.calls f1 false _ (by rw [empty_f f1, HT.out])).mono ?_; rintro e w1 ⟨rfl, hd⟩; have hb := Drawn0.below hd))
    go_ret
    exact ⟨by simp, (((Below.refl _ _).alloc (Nat.le_refl _) _).alloc (by simp) _).drew.trans ⟨hb.os, hb.tape, hb.output, hb.size, fun k hk => hb.block k (by simp; omega)⟩⟩
  | true =>
    have HT := Aside0.mk hT
    clear hT
    by_cases h2 : f2 = 0
    · subst h2
      by_cases h3 : n = 2
      · subst h3
        go_enter Tryd.func65, Tryd.ntmps65
        go_wp2_with fail
        go_region
        go_wp2_with (go_at_call 59; go_loud (refine (node_empty.calls f1 true _ (by rw [empty_f f1, HT.out])).mono ?_; rintro e w1 ⟨rfl, hd⟩; have hb := Drawn0.below hd; have HB1 := (hb.block w.heap.size (by simp; omega)).trans (alloc2_fst w (.cells #[.int .i64 6, .string f1, .int .i64 0, .slice A 2 c] 24) (.cells #[.string ⟨#[114, 111, 111, 116]⟩, .func (.func 59) #[] #[], .int .i64 2] 79)); have HB2 := (hb.block (w.heap.size + 1) (by simp)).trans (alloc2_snd w (.cells #[.int .i64 6, .string f1, .int .i64 0, .slice A 2 c] 24) (.cells #[.string ⟨#[114, 111, 111, 116]⟩, .func (.func 59) #[] #[], .int .i64 2] 79)); have b2 := blk_cell HB1 2; have b3 := blk_cell HB1 3; have b4 := blk_cell HB2 2; clear HB1 HB2))
        go_ret
        exact ⟨by simp, (((Below.refl _ _).alloc (Nat.le_refl _) _).alloc (by simp) _).drew.trans ⟨hb.os, hb.tape, hb.output, hb.size, fun k hk => hb.block k (by simp; omega)⟩⟩
      · have h3b : ((n : Int) == 2) = false := beq_eq_false_iff_ne.2 (by omega)
        have H3 := Aside0.mk h3
        clear h3
        go_enter Tryd.func65, Tryd.ntmps65
        go_wp2_with fail
        go_region
        go_wp2_with (go_at_call 59; go_loud (refine (node_empty.calls f1 true _ (by rw [empty_f f1, HT.out])).mono ?_; rintro e w1 ⟨rfl, hd⟩; have hb := Drawn0.below hd; have HB1 := (hb.block w.heap.size (by simp; omega)).trans (alloc2_fst w (.cells #[.int .i64 6, .string f1, .int .i64 0, .slice A n c] 24) (.cells #[.string ⟨#[114, 111, 111, 116]⟩, .func (.func 59) #[] #[], .int .i64 2] 79)); have HB2 := (hb.block (w.heap.size + 1) (by simp)).trans (alloc2_snd w (.cells #[.int .i64 6, .string f1, .int .i64 0, .slice A n c] 24) (.cells #[.string ⟨#[114, 111, 111, 116]⟩, .func (.func 59) #[] #[], .int .i64 2] 79)); have b2 := blk_cell HB1 2; have b3 := blk_cell HB1 3; have b4 := blk_cell HB2 2; clear HB1 HB2))
        go_ret
        exact ⟨by simp [H3.out], (((Below.refl _ _).alloc (Nat.le_refl _) _).alloc (by simp) _).drew.trans ⟨hb.os, hb.tape, hb.output, hb.size, fun k hk => hb.block k (by simp; omega)⟩⟩
    · have h2b : (f2 == 0) = false := beq_eq_false_iff_ne.2 h2
      have H2 := Aside0.mk h2
      clear h2
      go_enter Tryd.func65, Tryd.ntmps65
      go_wp2_with fail
      go_region
      go_wp2_with (go_at_call 59; go_loud (refine (node_empty.calls f1 true _ (by rw [empty_f f1, HT.out])).mono ?_; rintro e w1 ⟨rfl, hd⟩; have hb := Drawn0.below hd; have HB1 := (hb.block w.heap.size (by simp; omega)).trans (alloc2_fst w (.cells #[.int .i64 6, .string f1, .int .i64 f2, .slice A n c] 24) (.cells #[.string ⟨#[114, 111, 111, 116]⟩, .func (.func 59) #[] #[], .int .i64 2] 79)); have HB2 := (hb.block (w.heap.size + 1) (by simp)).trans (alloc2_snd w (.cells #[.int .i64 6, .string f1, .int .i64 f2, .slice A n c] 24) (.cells #[.string ⟨#[114, 111, 111, 116]⟩, .func (.func 59) #[] #[], .int .i64 2] 79)); have b2 := blk_cell HB1 2; have b3 := blk_cell HB1 3; have b4 := blk_cell HB2 2; clear HB1 HB2))
      go_ret
      exact ⟨by simp [H2.out], (((Below.refl _ _).alloc (Nat.le_refl _) _).alloc (by simp) _).drew.trans ⟨hb.os, hb.tape, hb.output, hb.size, fun k hk => hb.block k (by simp; omega)⟩⟩
end Go.Proofs.YtgcpfelccfnnbaaDoor.X
