/-
Part 14 of the texts of this proof: the walks through the program's functions.
-/
import Derived.Test.YtgcpfelccfnnbaaDoorMCounts2
import Derived.Test.YtgcpfelccfnnbaaDoorMCounts8
import Derived.Test.YtgcpfelccfnnbaaDoorMCounts9
import Derived.Test.YtgcpfelccfnnbaaDoorMCounts10
import Derived.Test.YtgcpfelccfnnbaaDoorMCounts11
import Derived.Test.YtgcpfelccfnnbaaDoorMCounts12
import Derived.Test.YtgcpfelccfnnbaaDoorMCounts13
namespace Go.Proofs.YtgcpfelccfnnbaaDoor.X
open Go.RowKit Go.Proofs.YtgcpfelccfnnbaaDoorW.PrintWords Go.Proofs.YtgcpfelccfnnbaaDoorW.PrintLast Go.Proofs.YtgcpfelccfnnbaaDoorW.PrintMore
attribute [local go_sem] max2_int min2_int max_two min_two max_three min_three max_four min_four   -- for this text's walks alone
set_option linter.unusedVariables false
set_option linter.unusedSimpArgs false
set_option maxRecDepth 100000 in
set_option maxHeartbeats 1000000 in
theorem shape_out (k : Int) (f1 : ByteArray) (f2 : Int) (A : Option Addr) (n c gC : Nat) (w : World) (hk : k < 1 ∨ 12 < k) :
    Calls Tryd.prog 65 #[.pointer (some ⟨gC, 0, none⟩), .agg #[.int .i64 k, .string f1, .int .i64 f2, .slice A n c]] w fun e w' => e = .returned (.bool false) ∧ Below w.heap.size w w' := by
  by_cases h1 : k < 1
  · go_enter Tryd.func65, Tryd.ntmps65
    go_wp2
    go_ret
    exact ⟨rfl, (Below.refl _ _).alloc (Nat.le_refl _) _⟩
  · have h2 : 12 < k := by omega
    clear hk
    go_enter Tryd.func65, Tryd.ntmps65
    go_wp2
    go_ret
    exact ⟨rfl, (Below.refl _ _).alloc (Nat.le_refl _) _⟩
theorem ba_empty {s : ByteArray} (h : s.data.toList = []) : s = ⟨#[]⟩ := by
  obtain ⟨⟨l⟩⟩ := s
  simp at h
  subst h
  rfl
theorem belowE {w : World} (o1 o2 : Obj) : Below w.heap.size w ((w.alloc o1).alloc o2).drew := (((Below.refl _ _).alloc (Nat.le_refl _) _).alloc (by simp) _).drew
set_option maxRecDepth 100000 in
set_option maxHeartbeats 1000000 in
theorem shape_1 (f1 : ByteArray) (f2 : Int) (A : Option Addr) (n c gC gF : Nat) (w : World) (hn : n ≤ 9223372036854775807) (hC : w.cell? ⟨gC, 0, none⟩ = some (.slice (some ⟨gF, 0, none⟩) 13 13)) (hF : w.heap[gF]? = some (.cells FORMS 79 (0, 0))) :
    Calls Tryd.prog 65 #[.pointer (some ⟨gC, 0, none⟩), .agg #[.int .i64 1, .string f1, .int .i64 f2, .slice A n c]] w fun e w' => e = .returned (.bool (f1.data.toList.isEmpty && (decide (f2 = 0) && decide (n ≤ 200)))) ∧ Below w.heap.size w w' := by
  have hgF := blk_lt hF
  have hgC := World.block_lt_of_cell? w _ hC
  have e0 : w.cell? ⟨gF, 3, none⟩ = some (.string ⟨#[114, 111, 119]⟩) := blk_cell hF 3
  have e1 : w.cell? ⟨gF, 4, none⟩ = some (.func (.func 59) #[] #[]) := blk_cell hF 4
  have e2 : w.cell? ⟨gF, 5, none⟩ = some (.int .i64 (-1)) := blk_cell hF 5
  clear hF
  by_cases h1 : f1.data.toList = []
  · have := ba_empty h1
    subst this
    clear h1
    by_cases h2 : f2 = 0
    · subst h2
      by_cases h3 : n ≤ 200
      · go_enter Tryd.func65, Tryd.ntmps65
        go_wp2_with fail
        go_region
        go_wp2
        go_ret
        exact ⟨by simp [h3]; omega, belowE _ _⟩
      · have h3b : decide ((n : Int) ≤ 200) = false := decide_eq_false (by omega)
        have H3 := Aside0.mk h3
        clear h3
        go_enter Tryd.func65, Tryd.ntmps65
        go_wp2_with fail
        go_region
        go_wp2
        go_ret
        exact ⟨by simp [H3.out], belowE _ _⟩
    · have h2b : (f2 == 0) = false := beq_eq_false_iff_ne.2 h2
      have H2 := Aside0.mk h2
      clear h2
      go_enter Tryd.func65, Tryd.ntmps65
      go_wp2_with fail
      go_region
      go_wp2
      go_ret
      exact ⟨by simp [H2.out], belowE _ _⟩
  · have h1b : (f1.toList == []) = false := by rw [ba_toList]; simpa using h1
    have h1c : f1.toList.isEmpty = false := by rw [ba_toList]; simpa using h1
    have H1 : Aside0 (f1.data.toList.isEmpty = false) := ⟨by simpa using h1⟩
    clear h1
    go_enter Tryd.func65, Tryd.ntmps65
    go_wp2_with fail
    go_region
    go_wp2
    go_ret
    exact ⟨by rw [H1.out]; rfl, belowE _ _⟩
set_option maxRecDepth 100000 in
set_option maxHeartbeats 1000000 in
theorem shape_12 (f1 : ByteArray) (f2 : Int) (A : Option Addr) (n c gC gF : Nat) (w : World) (hn : n ≤ 9223372036854775807) (hC : w.cell? ⟨gC, 0, none⟩ = some (.slice (some ⟨gF, 0, none⟩) 13 13)) (hF : w.heap[gF]? = some (.cells FORMS 79 (0, 0))) :
    Calls Tryd.prog 65 #[.pointer (some ⟨gC, 0, none⟩), .agg #[.int .i64 12, .string f1, .int .i64 f2, .slice A n c]] w fun e w' => e = .returned (.bool (f1.data.toList.isEmpty && (decide (1 ≤ f2) && (decide (f2 ≤ 16) && (decide (1 ≤ n) && (decide (n ≤ 256) && decide ((n : Int) % f2 = 0))))))) ∧ Below w.heap.size w w' := by
  have hgF := blk_lt hF
  have hgC := World.block_lt_of_cell? w _ hC
  have e0 : w.cell? ⟨gF, 36, none⟩ = some (.string ⟨#[109, 97, 116, 114, 105, 120]⟩) := blk_cell hF 36
  have e1 : w.cell? ⟨gF, 37, none⟩ = some (.func (.func 59) #[] #[]) := blk_cell hF 37
  have e2 : w.cell? ⟨gF, 38, none⟩ = some (.int .i64 (-1)) := blk_cell hF 38
  clear hF
  by_cases h1 : f1.data.toList = []
  · have := ba_empty h1
    subst this
    clear h1
    by_cases h2 : 1 ≤ f2
    · by_cases h3 : f2 ≤ 16
      · by_cases h4 : 1 ≤ n
        · by_cases h5 : n ≤ 256
          · go_enter Tryd.func65, Tryd.ntmps65
            go_wp2_with fail
            go_region
            go_wp2
            go_ret
            refine ⟨?_, belowE _ _⟩
            show Ending.returned (.bool ((n : Int) % f2 == 0)) = _
            rw [decide_eq_true (p := 1 ≤ f2) (by omega), decide_eq_true (p := f2 ≤ 16) (by omega), decide_eq_true (p := 1 ≤ n) (by omega), decide_eq_true (p := n ≤ 256) (by omega)]
            rfl
          · have h5b : decide ((n : Int) ≤ 256) = false := decide_eq_false (by omega)
            have H5 := Aside0.mk h5
            clear h5
            go_enter Tryd.func65, Tryd.ntmps65
            go_wp2_with fail
            go_region
            go_wp2
            go_ret
            exact ⟨by simp [H5.out], belowE _ _⟩
        · have h4b : decide (1 ≤ (n : Int)) = false := decide_eq_false (by omega)
          have h4c : n = 0 := by omega
          subst h4c
          clear h4
          go_enter Tryd.func65, Tryd.ntmps65
          go_wp2_with fail
          go_region
          go_wp2
          go_ret
          exact ⟨by simp, belowE _ _⟩
      · go_enter Tryd.func65, Tryd.ntmps65
        go_wp2_with fail
        go_region
        go_wp2
        go_ret
        exact ⟨by simp; intro h; omega, belowE _ _⟩
    · go_enter Tryd.func65, Tryd.ntmps65
      go_wp2_with fail
      go_region
      go_wp2
      go_ret
      exact ⟨by simp; intro h; omega, belowE _ _⟩
  · have h1b : (f1.toList == []) = false := by rw [ba_toList]; simpa using h1
    have h1c : f1.toList.isEmpty = false := by rw [ba_toList]; simpa using h1
    have H1 : Aside0 (f1.data.toList.isEmpty = false) := ⟨by simpa using h1⟩
    clear h1
    go_enter Tryd.func65, Tryd.ntmps65
    go_wp2_with fail
    go_region
    go_wp2
    go_ret
    exact ⟨by rw [H1.out]; rfl, belowE _ _⟩
/-- The shape of a node: kind, text, columns, number of kids. -/
def shapeB (k : Int) (t : List UInt8) (c : Int) (n : Nat) : Bool :=
  if k = 1 then t.isEmpty && (decide (c = 0) && decide (n ≤ 200))
  else if k = 2 then symL t && (decide (c = 0) && decide (n = 0))
  else if k = 3 then numL t && (decide (c = 0) && decide (n = 0))
  else if k = 4 then printL t && (decide (c = 0) && decide (n = 0))
  else if k = 5 ∨ k = 6 ∨ k = 7 ∨ k = 8 then t.isEmpty && (decide (c = 0) && decide (n = 2))
  else if k = 9 then t.isEmpty && (decide (c = 0) && decide (n = 3))
  else if k = 10 then accL t && (decide (c = 0) && decide (n = 1))
  else if k = 11 then fenceL t && (decide (c = 0) && decide (n = 1))
  else if k = 12 then t.isEmpty && (decide (1 ≤ c) && (decide (c ≤ 16) && (decide (1 ≤ n) && (decide (n ≤ 256) && decide ((n : Int) % c = 0)))))
  else false
theorem shape_any (k : Int) (f1 : ByteArray) (f2 : Int) (A : Option Addr) (n c gC gF : Nat) (w : World) (hf1 : f1.data.toList.length ≤ 9223372036854775807) (hn : n ≤ 9223372036854775807) (hC : w.cell? ⟨gC, 0, none⟩ = some (.slice (some ⟨gF, 0, none⟩) 13 13)) (hF : w.heap[gF]? = some (.cells FORMS 79 (0, 0))) :
    Calls Tryd.prog 65 #[.pointer (some ⟨gC, 0, none⟩), .agg #[.int .i64 k, .string f1, .int .i64 f2, .slice A n c]] w fun e w' => e = .returned (.bool (shapeB k f1.data.toList f2 n)) ∧ Below w.heap.size w w' := by
  unfold shapeB
  by_cases h : k < 1 ∨ 12 < k
  · have h0 := shape_out k f1 f2 A n c gC w h
    rw [if_neg (by omega), if_neg (by omega), if_neg (by omega), if_neg (by omega), if_neg (by omega), if_neg (by omega), if_neg (by omega), if_neg (by omega), if_neg (by omega)]
    exact h0
  · have : k = 1 ∨ k = 2 ∨ k = 3 ∨ k = 4 ∨ k = 5 ∨ k = 6 ∨ k = 7 ∨ k = 8 ∨ k = 9 ∨ k = 10 ∨ k = 11 ∨ k = 12 := by omega
    rcases this with rfl | rfl | rfl | rfl | rfl | rfl | rfl | rfl | rfl | rfl | rfl | rfl
    · exact shape_1 f1 f2 A n c gC gF w hn hC hF
    · exact shape_2 f1 f2 A n c gC gF w hf1 hn hC hF
    · exact shape_3 f1 f2 A n c gC gF w hf1 hn hC hF
    · exact shape_4 f1 f2 A n c gC gF w hf1 hn hC hF
    · exact shape_5 f1 f2 A n c gC gF w hf1 hn hC hF
    · exact shape_6 f1 f2 A n c gC gF w hf1 hn hC hF
    · exact shape_7 f1 f2 A n c gC gF w hf1 hn hC hF
    · exact shape_8 f1 f2 A n c gC gF w hf1 hn hC hF
    · exact shape_9 f1 f2 A n c gC gF w hf1 hn hC hF
    · exact shape_10 f1 f2 A n c gC gF w hf1 hn hC hF
    · exact shape_11 f1 f2 A n c gC gF w hf1 hn hC hF
    · exact shape_12 f1 f2 A n c gC gF w hn hC hF
end Go.Proofs.YtgcpfelccfnnbaaDoor.X
