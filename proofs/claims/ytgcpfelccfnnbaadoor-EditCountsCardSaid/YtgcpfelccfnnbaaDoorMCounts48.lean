/-
Part 48 of the texts of this proof: the walks through the program's functions.
-/
import Derived.StillTailTactics
import Derived.Test.YtgcpfelccfnnbaaDoorMCounts2
import Derived.Test.YtgcpfelccfnnbaaDoorMCounts18
import Derived.Test.YtgcpfelccfnnbaaDoorMCounts26
import Derived.Test.YtgcpfelccfnnbaaDoorMCounts33
import Derived.Test.YtgcpfelccfnnbaaDoorMCounts41
import Derived.Test.YtgcpfelccfnnbaaDoorMCounts47
namespace Go.Proofs.YtgcpfelccfnnbaaDoor.X
open Go.RowKit Go.Proofs.YtgcpfelccfnnbaaDoorW.PrintWords Go.Proofs.YtgcpfelccfnnbaaDoorW.PrintLast Go.Proofs.YtgcpfelccfnnbaaDoorW.PrintMore
attribute [local go_sem] max2_int min2_int max_two min_two max_three min_three max_four min_four   -- for this text's walks alone
set_option linter.unusedVariables false
set_option linter.unusedSimpArgs false
def awake4.T : Bool × List (List Nat × List Nat) := (true, [([], []), ([], []), ([], []), ([1, 2], [1, 2]), ([0, 3], [0, 3]), ([], []), ([4, 5, 4], [4, 5]), ([6], [6]), ([7], [7]), ([7], [7]), ([], []), ([10, 8, 6, 0, 1, 2, 3, 4, 5, 6, 7, 8, 10], [8, 10]), ([9, 11, 0, 1, 2, 3, 4, 5, 6, 7, 8, 9, 10, 11], [9])])
def awake4.B : List Nat := [0, 0, 0, 6, 15, 0, 63, 127, 255, 255, 0, 1535, 4095]
theorem awake4.tab : rtab .any (opsOf Tryd.f9 4) = awake4.T := by kernel_rfl
theorem awake4.bits : waitsOk awake4.T.2 awake4.B = true := by kernel_rfl
def awake5.T : Bool × List (List Nat × List Nat) := (true, [([], []), ([0], [0]), ([1], [1]), ([2], [2]), ([2], [2]), ([2], [2]), ([2], [2]), ([2], [2]), ([6, 7, 2], [2, 6, 7]), ([5, 8, 2, 2], [2, 5, 8]), ([2], [2]), ([10, 9, 2], [2, 10]), ([9, 11, 2], [2, 9, 11]), ([12, 2], [2, 12]), ([13, 2], [2, 13]), ([4, 14, 11, 2], [2, 4, 14]), ([3, 15, 15, 2], [2, 3, 15]), ([2, 16], [2, 16]), ([17, 16, 0, 1, 2, 3, 4, 5, 6, 7, 8, 9, 10, 11, 12, 13, 14, 15, 16, 17], [17])])
def awake5.B : List Nat := [0, 1, 3, 7, 7, 7, 7, 7, 199, 487, 7, 2023, 4071, 8167, 16359, 32759, 65535, 131071, 262143]
theorem awake5.tab : rtab .any (opsOf Tryd.f9 5) = awake5.T := by kernel_rfl
theorem awake5.bits : waitsOk awake5.T.2 awake5.B = true := by kernel_rfl
set_option maxRecDepth 100000 in
set_option maxHeartbeats 4000000 in
theorem HEQ (A : Option Addr) (g c : Nat) (W : World) (hc : 1 ≤ c) (h1 : Kd.C k24 W A 1 treeOut.f3) (h2 : Kd.C k24 W (some ⟨g, 0, none⟩) 1 treeOut.f3) :
    Calls Tryd.prog 15 #[.agg #[.int .i64 1, .string ⟨#[]⟩, .int .i64 0, .slice A 1 c], .agg #[.int .i64 1, .string ⟨#[]⟩, .int .i64 0, .slice (some ⟨g, 0, none⟩) 1 1]] W fun e w' => e = .returned (.bool true) ∧ Below W.heap.size W w' := by
  have h := refEqual_any (cnt treeOut) treeOut treeOut A (some ⟨g, 0, none⟩) c 1 W (Nat.le_refl _) hc (Nat.le_refl _) h1 h2
  rw [awake_eq] at h
  exact h
set_option maxRecDepth 100000 in
set_option maxHeartbeats 4000000 in
theorem awake_any (w : World) : Calls Tryd.prog 9 #[] w fun e w' => e = .returned (.bool true) ∧ Below w.heap.size w w' := by
  have HB2 : Aside0 (Below w.heap.size w ((w.alloc (.cells #[.int .i64 2, .string ⟨#[97]⟩, .int .i64 0, .slice none 0 0] 24)).alloc (.cells #[.int .i64 2, .string ⟨#[98]⟩, .int .i64 0, .slice none 0 0] 24))) := ⟨below_alloc (below_alloc (Below.refl _ _) _) _⟩
  have HROW := Aside0.mk (fun W => awakeRow_any 0 none 0 W)
  have HAP : Aside0 (∀ (W : World) (ga gb : Nat), Kd.C k24 W (some ⟨ga, 0, none⟩) 2 treeIn.f3 → Kd.C k24 W (some ⟨gb, 0, none⟩) 1 opW.f4 → Calls Tryd.prog 11 #[.agg #[.int .i64 1, .string ⟨#[]⟩, .int .i64 0, .slice (some ⟨ga, 0, none⟩) 2 2], .agg #[.int .i64 3, .slice none 0 0, .int .i64 0, .int .i64 2, .slice (some ⟨gb, 0, none⟩) 1 1, .int .i64 0, .string ⟨#[]⟩, .string ⟨#[]⟩]] W fun e w' => ∃ (A' : Option Addr) (c' : Nat), e = .returned (.tuple #[.agg #[.int .i64 1, .string ⟨#[]⟩, .int .i64 0, .slice A' 1 c'], .int .i64 0]) ∧ 1 ≤ c' ∧ Kd.F k24 w' (fun k => W.heap.size ≤ k) A' 1 treeOut.f3 ∧ Below W.heap.size W w') := ⟨fun W ga gb h1 h2 => by
    have h := apply_any treeIn opW (some ⟨ga, 0, none⟩) none (some ⟨gb, 0, none⟩) 2 0 1 W (by kernel_rfl) (by kernel_rfl) (by decide) (by decide) (by decide) (by decide) h1 (Kd.C_nil _ _) h2
    rw [awake_apply] at h
    exact h⟩
  go_enter Tryd.func9, Tryd.ntmps9
  go_wp2_with (first | (go_at_call 24; have hg := HX; clear hg; go_loud (refine (HROW.out _).mono ?_; rintro e w4 ⟨rfl, hb⟩; have HA := Aside0.mk (blk_on HX.out hb); have HC := Aside0.mk (blk_on HY.out hb); have HB4 := Aside0.mk (below_then HB.out HB.out.size hb); clear hb HX HY HB)) | (go_at_call 24; go_loud (refine (HROW.out _).mono ?_; rintro e w3 ⟨rfl, hb⟩; have HX := Aside0.mk (blk_on (alloc2_fst w _ _) hb); have HY := Aside0.mk (blk_on (alloc2_snd w _ _) hb); have HB := Aside0.mk (below_then HB2.out HB2.out.size hb); clear hb)))
  have H1 := twoF (W := w4) (x := nodeR) (y := nodeR) (A3 := none) (B3 := none) (c3 := 0) (d3 := 0) (ok := fun _ => True) (Nat.le_refl _) (Kd.F_nil _ _ _) (Nat.le_refl _) (Kd.F_nil _ _ _)
  have H2 := oneF (W := w4.alloc (.cells #[.int .i64 1, .string ⟨#[]⟩, .int .i64 0, .slice none 0 0, .int .i64 1, .string ⟨#[]⟩, .int .i64 0, .slice none 0 0] 24)) (x := ⟨5, ⟨#[]⟩, 0, [nodeR, nodeR]⟩) (A3 := some ⟨w4.heap.size, 0, none⟩) (c3 := 2) (ok := fun _ => True) (Nat.le_refl _) (Kd.F_mono H1 (fun _ _ => trivial))
  have hz1 : (w4.alloc (.cells #[.int .i64 1, .string ⟨#[]⟩, .int .i64 0, .slice none 0 0, .int .i64 1, .string ⟨#[]⟩, .int .i64 0, .slice none 0 0] 24)).heap.size = w4.heap.size + 1 := by simp
  have hz2 : ((w4.alloc (.cells #[.int .i64 1, .string ⟨#[]⟩, .int .i64 0, .slice none 0 0, .int .i64 1, .string ⟨#[]⟩, .int .i64 0, .slice none 0 0] 24)).alloc (.cells #[.int .i64 5, .string ⟨#[]⟩, .int .i64 0, .slice (some ⟨w4.heap.size, 0, none⟩) 2 2] 24)).heap.size = w4.heap.size + 1 + 1 := by simp
  rw [hz1] at H2
  have HFR : Aside0 (Kd.F k24 (((w4.alloc (.cells #[.int .i64 1, .string ⟨#[]⟩, .int .i64 0, .slice none 0 0, .int .i64 1, .string ⟨#[]⟩, .int .i64 0, .slice none 0 0] 24)).alloc (.cells #[.int .i64 5, .string ⟨#[]⟩, .int .i64 0, .slice (some ⟨w4.heap.size, 0, none⟩) 2 2] 24)).alloc (.cells #[.int .i64 3, .slice none 0 0, .int .i64 0, .int .i64 2, .slice (some ⟨w4.heap.size + 1, 0, none⟩) 1 1, .int .i64 0, .string ⟨#[]⟩, .string ⟨#[]⟩] 27)) (fun _ => True) (some ⟨w4.heap.size + 1, 0, none⟩) 1 opW.f4) := ⟨Kd.F_mono (Kd.F_alloc H2 _) (fun _ _ => trivial)⟩
  have HO5 : Aside0 ((((w4.alloc (.cells #[.int .i64 1, .string ⟨#[]⟩, .int .i64 0, .slice none 0 0, .int .i64 1, .string ⟨#[]⟩, .int .i64 0, .slice none 0 0] 24)).alloc (.cells #[.int .i64 5, .string ⟨#[]⟩, .int .i64 0, .slice (some ⟨w4.heap.size, 0, none⟩) 2 2] 24)).alloc (.cells #[.int .i64 3, .slice none 0 0, .int .i64 0, .int .i64 2, .slice (some ⟨w4.heap.size + 1, 0, none⟩) 1 1, .int .i64 0, .string ⟨#[]⟩, .string ⟨#[]⟩] 27)).heap[w4.heap.size + 1 + 1]? = some (.cells #[.int .i64 3, .slice none 0 0, .int .i64 0, .int .i64 2, .slice (some ⟨w4.heap.size + 1, 0, none⟩) 1 1, .int .i64 0, .string ⟨#[]⟩, .string ⟨#[]⟩] 27)) := ⟨by rw [← hz2]; exact heap_alloc_new _ _⟩
  have HA5 : Aside0 ((((w4.alloc (.cells #[.int .i64 1, .string ⟨#[]⟩, .int .i64 0, .slice none 0 0, .int .i64 1, .string ⟨#[]⟩, .int .i64 0, .slice none 0 0] 24)).alloc (.cells #[.int .i64 5, .string ⟨#[]⟩, .int .i64 0, .slice (some ⟨w4.heap.size, 0, none⟩) 2 2] 24)).alloc (.cells #[.int .i64 3, .slice none 0 0, .int .i64 0, .int .i64 2, .slice (some ⟨w4.heap.size + 1, 0, none⟩) 1 1, .int .i64 0, .string ⟨#[]⟩, .string ⟨#[]⟩] 27)).heap[w.heap.size]? = some (.cells #[.int .i64 2, .string ⟨#[97]⟩, .int .i64 0, .slice none 0 0] 24)) := ⟨blk_allocO (blk_allocO (blk_allocO HA.out _) _) _⟩
  have HC5 : Aside0 ((((w4.alloc (.cells #[.int .i64 1, .string ⟨#[]⟩, .int .i64 0, .slice none 0 0, .int .i64 1, .string ⟨#[]⟩, .int .i64 0, .slice none 0 0] 24)).alloc (.cells #[.int .i64 5, .string ⟨#[]⟩, .int .i64 0, .slice (some ⟨w4.heap.size, 0, none⟩) 2 2] 24)).alloc (.cells #[.int .i64 3, .slice none 0 0, .int .i64 0, .int .i64 2, .slice (some ⟨w4.heap.size + 1, 0, none⟩) 1 1, .int .i64 0, .string ⟨#[]⟩, .string ⟨#[]⟩] 27)).heap[w.heap.size + 1]? = some (.cells #[.int .i64 2, .string ⟨#[98]⟩, .int .i64 0, .slice none 0 0] 24)) := ⟨blk_allocO (blk_allocO (blk_allocO HC.out _) _) _⟩
  have HB5 : Aside0 (Below w.heap.size w (((w4.alloc (.cells #[.int .i64 1, .string ⟨#[]⟩, .int .i64 0, .slice none 0 0, .int .i64 1, .string ⟨#[]⟩, .int .i64 0, .slice none 0 0] 24)).alloc (.cells #[.int .i64 5, .string ⟨#[]⟩, .int .i64 0, .slice (some ⟨w4.heap.size, 0, none⟩) 2 2] 24)).alloc (.cells #[.int .i64 3, .slice none 0 0, .int .i64 0, .int .i64 2, .slice (some ⟨w4.heap.size + 1, 0, none⟩) 1 1, .int .i64 0, .string ⟨#[]⟩, .string ⟨#[]⟩] 27))) := ⟨below_alloc (below_alloc (below_alloc HB4.out _) _) _⟩
  clear H1 H2 hz1 hz2 HA HC HB4 HB2
  generalize (((w4.alloc (.cells #[.int .i64 1, .string ⟨#[]⟩, .int .i64 0, .slice none 0 0, .int .i64 1, .string ⟨#[]⟩, .int .i64 0, .slice none 0 0] 24)).alloc (.cells #[.int .i64 5, .string ⟨#[]⟩, .int .i64 0, .slice (some ⟨w4.heap.size, 0, none⟩) 2 2] 24)).alloc (.cells #[.int .i64 3, .slice none 0 0, .int .i64 0, .int .i64 2, .slice (some ⟨w4.heap.size + 1, 0, none⟩) 1 1, .int .i64 0, .string ⟨#[]⟩, .string ⟨#[]⟩] 27)) = w5 at HFR HO5 HA5 HC5 HB5 ⊢
  generalize w4.heap.size + 1 + 1 = gO at HO5 ⊢
  generalize w4.heap.size + 1 = g3 at HFR HO5 ⊢
  refine start_ (n := 13) (S := fun w' => w'.cell? ⟨w.heap.size, 0, none⟩ = some (.int .i64 2) ∧ w'.cell? ⟨w.heap.size, 1, none⟩ = some (.string ⟨#[97]⟩) ∧ w'.cell? ⟨w.heap.size, 2, none⟩ = some (.int .i64 0) ∧ w'.cell? ⟨w.heap.size, 3, none⟩ = some (.slice none 0 0) ∧ w'.cell? ⟨w.heap.size + 1, 0, none⟩ = some (.int .i64 2) ∧ w'.cell? ⟨w.heap.size + 1, 1, none⟩ = some (.string ⟨#[98]⟩) ∧ w'.cell? ⟨w.heap.size + 1, 2, none⟩ = some (.int .i64 0) ∧ w'.cell? ⟨w.heap.size + 1, 3, none⟩ = some (.slice none 0 0) ∧ w'.cell? ⟨gO, 0, none⟩ = some (.int .i64 3) ∧ w'.cell? ⟨gO, 1, none⟩ = some (.slice none 0 0) ∧ w'.cell? ⟨gO, 2, none⟩ = some (.int .i64 0) ∧ w'.cell? ⟨gO, 3, none⟩ = some (.int .i64 2) ∧ w'.cell? ⟨gO, 4, none⟩ = some (.slice (some ⟨g3, 0, none⟩) 1 1) ∧ w'.cell? ⟨gO, 5, none⟩ = some (.int .i64 0) ∧ w'.cell? ⟨gO, 6, none⟩ = some (.string ⟨#[]⟩) ∧ w'.cell? ⟨gO, 7, none⟩ = some (.string ⟨#[]⟩)) (ds := [11]) #[false, false, false, false, false, false, false, false, false, false, false, false, false] (by kernel_rfl) rfl rfl ⟨blk_cell HA5.out 0, blk_cell HA5.out 1, blk_cell HA5.out 2, blk_cell HA5.out 3, blk_cell HC5.out 0, blk_cell HC5.out 1, blk_cell HC5.out 2, blk_cell HC5.out 3, blk_cell HO5.out 0, blk_cell HO5.out 1, blk_cell HO5.out 2, blk_cell HO5.out 3, blk_cell HO5.out 4, blk_cell HO5.out 5, blk_cell HO5.out 6, blk_cell HO5.out 7⟩ (fun hHeld => ?_); refine with_tabW awake4.tab awake4.bits (fun HT_ HW_ => ?_)
  have HA_w6 : Aside0 (w5.drew.heap[w.heap.size]? = _) := ⟨HA5.out⟩
  have HC_w6 : Aside0 (w5.drew.heap[w.heap.size + 1]? = _) := ⟨HC5.out⟩
  have HO_w6 : Aside0 (w5.drew.heap[gO]? = _) := ⟨HO5.out⟩
  have HFR_w6 := Aside0.mk (Kd.F_drew HFR.out)
  have HB_w6 := Aside0.mk (below_drew1 HB5.out)
  clear HA5 HC5 HO5 HFR HB5
  generalize w5.drew = w6 at HA_w6 HC_w6 HO_w6 HFR_w6 HB_w6 hHeld ⊢
  refine pure_ (i := 0) (N := some 18) (v := ?_) (a' := ?_) #[true, false, false, false, false, false, false, false, false, false, false, false, false] rfl rfl (any_of HT_.out (by kernel_rfl)) (fun _ _ _ h => h) (Or.inl ⟨by rfl, ?_⟩) ?_ ?_
  rotate_left
  · intro w'
    go_simp
    with_reducible rfl
  rotate_left
  · simp only [Act.put, List.setIfInBounds_toArray, List.set_cons_zero, List.set_cons_succ, i64_w, i32_w]
    rfl
  refine take_ (i := 1) (N := some 19) (v := ?_) (a' := ?_) #[true, true, false, false, false, false, false, false, false, false, false, false, false] rfl rfl (take_ofW HT_.out HW_.out (by kernel_rfl)) (fun _ _ _ h => h) (Or.inl ⟨by rfl, ?_⟩) hHeld ?_ ?_
  rotate_left
  · rintro w' ⟨s0, s1, s2, s3, s4, s5, s6, s7, s8, s9, s10, s11, s12, s13, s14, s15⟩
    go_simp
    with_reducible rfl
  rotate_left
  · simp only [Act.put, List.setIfInBounds_toArray, List.set_cons_zero, List.set_cons_succ, i64_w, i32_w]
    rfl
  refine take_ (i := 2) (N := some 20) (v := ?_) (a' := ?_) #[true, true, true, false, false, false, false, false, false, false, false, false, false] rfl rfl (take_ofW HT_.out HW_.out (by kernel_rfl)) (fun _ _ _ h => h) (Or.inl ⟨by rfl, ?_⟩) hHeld ?_ ?_
  rotate_left
  · rintro w' ⟨s0, s1, s2, s3, s4, s5, s6, s7, s8, s9, s10, s11, s12, s13, s14, s15⟩
    go_simp
    with_reducible rfl
  rotate_left
  · simp only [Act.put, List.setIfInBounds_toArray, List.set_cons_zero, List.set_cons_succ, i64_w, i32_w]
    rfl
  refine take_ (i := 5) (N := some 23) (v := ?_) (a' := ?_) #[true, true, true, false, false, true, false, false, false, false, false, false, false] rfl rfl (take_ofW HT_.out HW_.out (by kernel_rfl)) (fun _ _ _ h => h) (Or.inl ⟨by rfl, ?_⟩) hHeld ?_ ?_
  rotate_left
  · rintro w' ⟨s0, s1, s2, s3, s4, s5, s6, s7, s8, s9, s10, s11, s12, s13, s14, s15⟩
    go_simp
    with_reducible rfl
  rotate_left
  · simp only [Act.put, List.setIfInBounds_toArray, List.set_cons_zero, List.set_cons_succ, i64_w, i32_w]
    rfl
  refine join_ (σ := Nat × Nat × Option Addr × Nat) 2 #[true, true, true, true, true, true, true, true, true, true, true, false, false] (fun s_ => [(21, .slice (some ⟨s_.1, 0, none⟩) 2 2), (22, .agg #[.int .i64 1, .string ⟨#[]⟩, .int .i64 0, .slice (some ⟨s_.1, 0, none⟩) 2 2]), (24, .tuple #[.agg #[.int .i64 1, .string ⟨#[]⟩, .int .i64 0, .slice s_.2.2.1 1 s_.2.2.2], .int .i64 0]), (17, .tuple #[.agg #[.int .i64 1, .string ⟨#[]⟩, .int .i64 0, .slice s_.2.2.1 1 s_.2.2.2], .int .i64 0]), (25, .agg #[.int .i64 1, .string ⟨#[]⟩, .int .i64 0, .slice s_.2.2.1 1 s_.2.2.2]), (26, .int .i64 0), (5, .pointer (some ⟨s_.2.1, 0, none⟩))]) (fun s_ w' => w'.heap[w.heap.size]? = some (.cells #[.int .i64 2, .string ⟨#[97]⟩, .int .i64 0, .slice none 0 0] 24) ∧ w'.heap[w.heap.size + 1]? = some (.cells #[.int .i64 2, .string ⟨#[98]⟩, .int .i64 0, .slice none 0 0] 24) ∧ w'.heap[s_.2.1]? = some (.cells #[.int .i64 0, .string ⟨#[]⟩, .int .i64 0, .slice none 0 0] 24) ∧ Kd.F k24 w' (fun k => k ≠ s_.2.1) s_.2.2.1 1 treeOut.f3 ∧ 1 ≤ s_.2.2.2 ∧ Below w.heap.size w w' ∧ w.heap.size + 2 ≤ s_.2.1) ?_ ?_
  rotate_left
  · intro hCont
    refine two_ (i := 3) (j := 10) (Ni := some 21) (Nj := some 5) #[true, true, true, true, false, true, false, false, false, false, false, false, false] #[true, true, true, false, false, true, false, false, false, false, true, false, false] rfl rfl rfl rfl (two_of HT_.out (by kernel_rfl)) (by decide) (by decide) (fun K hK => ?_) (fun K hK => ?_)
    · skip
      refine value_ (v := .slice (some ⟨w6.heap.size, 0, none⟩) 2 2) (w1 := (w6.alloc (.cells #[.int .i64 2, .string ⟨#[97]⟩, .int .i64 0, .slice none 0 0, .int .i64 2, .string ⟨#[98]⟩, .int .i64 0, .slice none 0 0] 24))) (by rfl) rfl ?_ ?_
      · go_simp
      refine hK.out _ _ ⟨blk_cell (blk_allocO HA_w6.out _) 0, blk_cell (blk_allocO HA_w6.out _) 1, blk_cell (blk_allocO HA_w6.out _) 2, blk_cell (blk_allocO HA_w6.out _) 3, blk_cell (blk_allocO HC_w6.out _) 0, blk_cell (blk_allocO HC_w6.out _) 1, blk_cell (blk_allocO HC_w6.out _) 2, blk_cell (blk_allocO HC_w6.out _) 3, blk_cell (blk_allocO HO_w6.out _) 0, blk_cell (blk_allocO HO_w6.out _) 1, blk_cell (blk_allocO HO_w6.out _) 2, blk_cell (blk_allocO HO_w6.out _) 3, blk_cell (blk_allocO HO_w6.out _) 4, blk_cell (blk_allocO HO_w6.out _) 5, blk_cell (blk_allocO HO_w6.out _) 6, blk_cell (blk_allocO HO_w6.out _) 7⟩ (fun hHeld => ?_)
      clear hK K
      refine norm_ (a' := ?_) ?_ ?_
      rotate_left
      · show Act.put _ (some 21) _ = _
        simp only [Act.put, List.setIfInBounds_toArray, List.set_cons_zero, List.set_cons_succ, i64_w, i32_w]
        rfl
      have HFA_w7 : Aside0 (Kd.F k24 (w6.alloc (.cells #[.int .i64 2, .string ⟨#[97]⟩, .int .i64 0, .slice none 0 0, .int .i64 2, .string ⟨#[98]⟩, .int .i64 0, .slice none 0 0] 24)) (fun _ => True) (some ⟨w6.heap.size, 0, none⟩) 2 treeIn.f3) := ⟨Kd.F_mono (twoF (W := w6) (x := nodeA) (y := nodeB) (A3 := none) (B3 := none) (c3 := 0) (d3 := 0) (ok := fun _ => True) (Nat.le_refl _) (Kd.F_nil _ _ _) (Nat.le_refl _) (Kd.F_nil _ _ _)) (fun _ _ => trivial)⟩
      have HA_w7 := Aside0.mk (blk_allocO HA_w6.out (.cells #[.int .i64 2, .string ⟨#[97]⟩, .int .i64 0, .slice none 0 0, .int .i64 2, .string ⟨#[98]⟩, .int .i64 0, .slice none 0 0] 24))
      have HC_w7 := Aside0.mk (blk_allocO HC_w6.out (.cells #[.int .i64 2, .string ⟨#[97]⟩, .int .i64 0, .slice none 0 0, .int .i64 2, .string ⟨#[98]⟩, .int .i64 0, .slice none 0 0] 24))
      have HO_w7 := Aside0.mk (blk_allocO HO_w6.out (.cells #[.int .i64 2, .string ⟨#[97]⟩, .int .i64 0, .slice none 0 0, .int .i64 2, .string ⟨#[98]⟩, .int .i64 0, .slice none 0 0] 24))
      have HFR_w7 := Aside0.mk (Kd.F_alloc HFR_w6.out (.cells #[.int .i64 2, .string ⟨#[97]⟩, .int .i64 0, .slice none 0 0, .int .i64 2, .string ⟨#[98]⟩, .int .i64 0, .slice none 0 0] 24))
      have HB_w7 := Aside0.mk (below_alloc HB_w6.out (.cells #[.int .i64 2, .string ⟨#[97]⟩, .int .i64 0, .slice none 0 0, .int .i64 2, .string ⟨#[98]⟩, .int .i64 0, .slice none 0 0] 24))
      clear HA_w6 HC_w6 HO_w6 HFR_w6 HB_w6
      generalize (w6.alloc (.cells #[.int .i64 2, .string ⟨#[97]⟩, .int .i64 0, .slice none 0 0, .int .i64 2, .string ⟨#[98]⟩, .int .i64 0, .slice none 0 0] 24)) = w7 at HA_w7 HC_w7 HO_w7 HFR_w7 HFA_w7 HB_w7 hHeld ⊢
      generalize w6.heap.size = g6 at HFA_w7  ⊢
      refine two_ (i := 4) (j := 10) (Ni := some 22) (Nj := some 5) #[true, true, true, true, true, true, false, false, false, false, false, false, false] #[true, true, true, true, false, true, false, false, false, false, true, false, false] rfl rfl rfl rfl (two_of HT_.out (by kernel_rfl)) (by decide) (by decide) (fun K hK => ?_) (fun K hK => ?_)
      · skip
        refine call_ 24 #[.slice (some ⟨g6, 0, none⟩) 2 2] (by rfl) rfl (by have he_ := fun W_ => enters_ Tryd.func24 (by kernel_rfl) rfl #[.slice (some ⟨g6, 0, none⟩) 2 2] W_; unfold execOp; simp [resolve, Deferred.ofValue, invoke, Act.eval, he_]) ?_
        refine (awakeRow_any 2 (some ⟨g6, 0, none⟩) 2 w7).mono ?_
        rintro e w8 ⟨rfl, hb⟩
        have HA_w8 := Aside0.mk (blk_on HA_w7.out hb)
        have HC_w8 := Aside0.mk (blk_on HC_w7.out hb)
        have HO_w8 := Aside0.mk (blk_on HO_w7.out hb)
        have HFR_w8 := Aside0.mk (Kd.F_below HFR_w7.out hb)
        have HFA_w8 := Aside0.mk (Kd.F_below HFA_w7.out hb)
        have HB_w8 := Aside0.mk (below_then HB_w7.out HB_w7.out.size hb)
        clear hb hHeld HA_w7 HC_w7 HO_w7 HFR_w7 HFA_w7 HB_w7
        refine ⟨_, rfl, ?_⟩
        refine hK.out _ _ ⟨blk_cell HA_w8.out 0, blk_cell HA_w8.out 1, blk_cell HA_w8.out 2, blk_cell HA_w8.out 3, blk_cell HC_w8.out 0, blk_cell HC_w8.out 1, blk_cell HC_w8.out 2, blk_cell HC_w8.out 3, blk_cell HO_w8.out 0, blk_cell HO_w8.out 1, blk_cell HO_w8.out 2, blk_cell HO_w8.out 3, blk_cell HO_w8.out 4, blk_cell HO_w8.out 5, blk_cell HO_w8.out 6, blk_cell HO_w8.out 7⟩ (fun hHeld => ?_)
        clear hK K
        refine norm_ (a' := ?_) ?_ ?_
        rotate_left
        · show Act.put _ (some 22) _ = _
          simp only [Act.put, List.setIfInBounds_toArray, List.set_cons_zero, List.set_cons_succ, i64_w, i32_w]
          rfl
        refine two_ (i := 6) (j := 10) (Ni := some 24) (Nj := some 5) #[true, true, true, true, true, true, true, false, false, false, false, false, false] #[true, true, true, true, true, true, false, false, false, false, true, false, false] rfl rfl rfl rfl (two_of HT_.out (by kernel_rfl)) (by decide) (by decide) (fun K hK => ?_) (fun K hK => ?_)
        · skip
          refine goes_ Tryd.func11 (by kernel_rfl) rfl #[.agg #[.int .i64 1, .string ⟨#[]⟩, .int .i64 0, .slice (some ⟨g6, 0, none⟩) 2 2], .agg #[.int .i64 3, .slice none 0 0, .int .i64 0, .int .i64 2, .slice (some ⟨g3, 0, none⟩) 1 1, .int .i64 0, .string ⟨#[]⟩, .string ⟨#[]⟩]] (by rfl) rfl rfl (by (try simp only [List.map_toArray, List.map_cons, List.map_nil]); first | done | rfl | (simp only [List.length_drop, List.length_take]; rfl)) ?_
          refine (HAP.out w8 g6 g3 (Kd.F_now HFA_w8.out) (Kd.F_now HFR_w8.out)).mono ?_
          rintro e w9 ⟨A9, c9, rfl, hl9, hF9, hb⟩
          have HA_w9 := Aside0.mk (blk_on HA_w8.out hb)
          have HC_w9 := Aside0.mk (blk_on HC_w8.out hb)
          have HO_w9 := Aside0.mk (blk_on HO_w8.out hb)
          have HFR_w9 := Aside0.mk (Kd.F_below HFR_w8.out hb)
          have HFA_w9 := Aside0.mk (Kd.F_below HFA_w8.out hb)
          have HB_w9 := Aside0.mk (below_then HB_w8.out HB_w8.out.size hb)
          have HF9_w9 : Aside0 (Kd.F k24 w9 (fun k => k < w9.heap.size) A9 1 treeOut.f3) := ⟨Kd.F_mono (Kd.F_bound hF9) (fun k hk => hk.2)⟩
          clear hF9
          clear hb hHeld HA_w8 HC_w8 HO_w8 HFR_w8 HFA_w8 HB_w8
          refine ⟨_, rfl, ?_⟩
          refine hK.out _ _ ⟨blk_cell HA_w9.out 0, blk_cell HA_w9.out 1, blk_cell HA_w9.out 2, blk_cell HA_w9.out 3, blk_cell HC_w9.out 0, blk_cell HC_w9.out 1, blk_cell HC_w9.out 2, blk_cell HC_w9.out 3, blk_cell HO_w9.out 0, blk_cell HO_w9.out 1, blk_cell HO_w9.out 2, blk_cell HO_w9.out 3, blk_cell HO_w9.out 4, blk_cell HO_w9.out 5, blk_cell HO_w9.out 6, blk_cell HO_w9.out 7⟩ (fun hHeld => ?_)
          clear hK K
          refine norm_ (a' := ?_) ?_ ?_
          rotate_left
          · show Act.put _ (some 24) _ = _
            simp only [Act.put, List.setIfInBounds_toArray, List.set_cons_zero, List.set_cons_succ, i64_w, i32_w]
            rfl
          refine pure_ (i := 7) (N := some 17) (v := ?_) (a' := ?_) #[true, true, true, true, true, true, true, true, false, false, false, false, false] rfl rfl (any_of HT_.out (by kernel_rfl)) (fun _ _ _ h => h) (Or.inl ⟨by rfl, ?_⟩) ?_ ?_
          rotate_left
          · intro w'
            go_simp
            with_reducible rfl
          rotate_left
          · simp only [Act.put, List.setIfInBounds_toArray, List.set_cons_zero, List.set_cons_succ, i64_w, i32_w]
            rfl
          refine pure_ (i := 8) (N := some 25) (v := ?_) (a' := ?_) #[true, true, true, true, true, true, true, true, true, false, false, false, false] rfl rfl (any_of HT_.out (by kernel_rfl)) (fun _ _ _ h => h) (Or.inl ⟨by rfl, ?_⟩) ?_ ?_
          rotate_left
          · intro w'
            go_simp
            with_reducible rfl
          rotate_left
          · simp only [Act.put, List.setIfInBounds_toArray, List.set_cons_zero, List.set_cons_succ, i64_w, i32_w]
            rfl
          refine pure_ (i := 9) (N := some 26) (v := ?_) (a' := ?_) #[true, true, true, true, true, true, true, true, true, true, false, false, false] rfl rfl (any_of HT_.out (by kernel_rfl)) (fun _ _ _ h => h) (Or.inl ⟨by rfl, ?_⟩) ?_ ?_
          rotate_left
          · intro w'
            go_simp
            with_reducible rfl
          rotate_left
          · simp only [Act.put, List.setIfInBounds_toArray, List.set_cons_zero, List.set_cons_succ, i64_w, i32_w]
            rfl
          refine one_ (i := 10) (N := some 5) #[true, true, true, true, true, true, true, true, true, true, true, false, false] rfl rfl (one_of HT_.out (by kernel_rfl)) (by decide) (fun K hK => ?_)
          refine value_ (v := .pointer (some ⟨w9.heap.size, 0, none⟩)) (w1 := (w9.alloc (.cells #[.int .i64 0, .string ⟨#[]⟩, .int .i64 0, .slice none 0 0] 24))) (by rfl) rfl ?_ ?_
          · go_simp
          refine hK.out _ _ ⟨blk_cell (blk_allocO HA_w9.out _) 0, blk_cell (blk_allocO HA_w9.out _) 1, blk_cell (blk_allocO HA_w9.out _) 2, blk_cell (blk_allocO HA_w9.out _) 3, blk_cell (blk_allocO HC_w9.out _) 0, blk_cell (blk_allocO HC_w9.out _) 1, blk_cell (blk_allocO HC_w9.out _) 2, blk_cell (blk_allocO HC_w9.out _) 3, blk_cell (blk_allocO HO_w9.out _) 0, blk_cell (blk_allocO HO_w9.out _) 1, blk_cell (blk_allocO HO_w9.out _) 2, blk_cell (blk_allocO HO_w9.out _) 3, blk_cell (blk_allocO HO_w9.out _) 4, blk_cell (blk_allocO HO_w9.out _) 5, blk_cell (blk_allocO HO_w9.out _) 6, blk_cell (blk_allocO HO_w9.out _) 7⟩ (fun hHeld => ?_)
          clear hK K
          refine norm_ (a' := ?_) ?_ ?_
          rotate_left
          · show Act.put _ (some 5) _ = _
            simp only [Act.put, List.setIfInBounds_toArray, List.set_cons_zero, List.set_cons_succ, i64_w, i32_w]
            rfl
          have HG_g5 : Aside0 (w.heap.size + 2 ≤ w9.heap.size) := ⟨by have := blk_lt HC_w9.out; omega⟩
          have HZ_w10 : Aside0 ((w9.alloc (.cells #[.int .i64 0, .string ⟨#[]⟩, .int .i64 0, .slice none 0 0] 24)).heap[w9.heap.size]? = some (.cells #[.int .i64 0, .string ⟨#[]⟩, .int .i64 0, .slice none 0 0] 24)) := ⟨heap_alloc_new _ _⟩
          replace HF9_w9 : Aside0 (Kd.F k24 w9 (fun k => k ≠ w9.heap.size) A9 1 treeOut.f3) := ⟨Kd.F_mono HF9_w9.out (fun k hk => Nat.ne_of_lt hk)⟩
          have HA_w10 := Aside0.mk (blk_allocO HA_w9.out (.cells #[.int .i64 0, .string ⟨#[]⟩, .int .i64 0, .slice none 0 0] 24))
          have HC_w10 := Aside0.mk (blk_allocO HC_w9.out (.cells #[.int .i64 0, .string ⟨#[]⟩, .int .i64 0, .slice none 0 0] 24))
          have HO_w10 := Aside0.mk (blk_allocO HO_w9.out (.cells #[.int .i64 0, .string ⟨#[]⟩, .int .i64 0, .slice none 0 0] 24))
          have HFR_w10 := Aside0.mk (Kd.F_alloc HFR_w9.out (.cells #[.int .i64 0, .string ⟨#[]⟩, .int .i64 0, .slice none 0 0] 24))
          have HFA_w10 := Aside0.mk (Kd.F_alloc HFA_w9.out (.cells #[.int .i64 0, .string ⟨#[]⟩, .int .i64 0, .slice none 0 0] 24))
          have HF9_w10 := Aside0.mk (Kd.F_alloc HF9_w9.out (.cells #[.int .i64 0, .string ⟨#[]⟩, .int .i64 0, .slice none 0 0] 24))
          have HB_w10 := Aside0.mk (below_alloc HB_w9.out (.cells #[.int .i64 0, .string ⟨#[]⟩, .int .i64 0, .slice none 0 0] 24))
          clear HA_w9 HC_w9 HO_w9 HFR_w9 HFA_w9 HF9_w9 HB_w9
          generalize (w9.alloc (.cells #[.int .i64 0, .string ⟨#[]⟩, .int .i64 0, .slice none 0 0] 24)) = w10 at HA_w10 HC_w10 HO_w10 HZ_w10 HFR_w10 HFA_w10 HF9_w10 HB_w10 hHeld ⊢
          generalize w9.heap.size = g5 at HZ_w10 HG_g5 HF9_w10 ⊢
          refine norm_ ?_ (hCont (g6, g5, A9, c9) w10 ⟨HA_w10.out, HC_w10.out, HZ_w10.out, HF9_w10.out, hl9, HB_w10.out, HG_g5.out⟩)
          simp only [putAll, Act.put, List.setIfInBounds_toArray, List.set_cons_zero, List.set_cons_succ]
          try rfl
        · skip
          refine value_ (v := .pointer (some ⟨w8.heap.size, 0, none⟩)) (w1 := (w8.alloc (.cells #[.int .i64 0, .string ⟨#[]⟩, .int .i64 0, .slice none 0 0] 24))) (by rfl) rfl ?_ ?_
          · go_simp
          refine hK.out _ _ ⟨blk_cell (blk_allocO HA_w8.out _) 0, blk_cell (blk_allocO HA_w8.out _) 1, blk_cell (blk_allocO HA_w8.out _) 2, blk_cell (blk_allocO HA_w8.out _) 3, blk_cell (blk_allocO HC_w8.out _) 0, blk_cell (blk_allocO HC_w8.out _) 1, blk_cell (blk_allocO HC_w8.out _) 2, blk_cell (blk_allocO HC_w8.out _) 3, blk_cell (blk_allocO HO_w8.out _) 0, blk_cell (blk_allocO HO_w8.out _) 1, blk_cell (blk_allocO HO_w8.out _) 2, blk_cell (blk_allocO HO_w8.out _) 3, blk_cell (blk_allocO HO_w8.out _) 4, blk_cell (blk_allocO HO_w8.out _) 5, blk_cell (blk_allocO HO_w8.out _) 6, blk_cell (blk_allocO HO_w8.out _) 7⟩ (fun hHeld => ?_)
          clear hK K
          refine norm_ (a' := ?_) ?_ ?_
          rotate_left
          · show Act.put _ (some 5) _ = _
            simp only [Act.put, List.setIfInBounds_toArray, List.set_cons_zero, List.set_cons_succ, i64_w, i32_w]
            rfl
          have HG_g5 : Aside0 (w.heap.size + 2 ≤ w8.heap.size) := ⟨by have := blk_lt HC_w8.out; omega⟩
          have HZ_w11 : Aside0 ((w8.alloc (.cells #[.int .i64 0, .string ⟨#[]⟩, .int .i64 0, .slice none 0 0] 24)).heap[w8.heap.size]? = some (.cells #[.int .i64 0, .string ⟨#[]⟩, .int .i64 0, .slice none 0 0] 24)) := ⟨heap_alloc_new _ _⟩
          have HA_w11 := Aside0.mk (blk_allocO HA_w8.out (.cells #[.int .i64 0, .string ⟨#[]⟩, .int .i64 0, .slice none 0 0] 24))
          have HC_w11 := Aside0.mk (blk_allocO HC_w8.out (.cells #[.int .i64 0, .string ⟨#[]⟩, .int .i64 0, .slice none 0 0] 24))
          have HO_w11 := Aside0.mk (blk_allocO HO_w8.out (.cells #[.int .i64 0, .string ⟨#[]⟩, .int .i64 0, .slice none 0 0] 24))
          have HFR_w11 := Aside0.mk (Kd.F_alloc HFR_w8.out (.cells #[.int .i64 0, .string ⟨#[]⟩, .int .i64 0, .slice none 0 0] 24))
          have HFA_w11 := Aside0.mk (Kd.F_alloc HFA_w8.out (.cells #[.int .i64 0, .string ⟨#[]⟩, .int .i64 0, .slice none 0 0] 24))
          have HB_w11 := Aside0.mk (below_alloc HB_w8.out (.cells #[.int .i64 0, .string ⟨#[]⟩, .int .i64 0, .slice none 0 0] 24))
          clear HA_w8 HC_w8 HO_w8 HFR_w8 HFA_w8 HB_w8
          generalize (w8.alloc (.cells #[.int .i64 0, .string ⟨#[]⟩, .int .i64 0, .slice none 0 0] 24)) = w11 at HA_w11 HC_w11 HO_w11 HZ_w11 HFR_w11 HFA_w11 HB_w11 hHeld ⊢
          generalize w8.heap.size = g5 at HZ_w11 HG_g5 ⊢
          refine one_ (i := 6) (N := some 24) #[true, true, true, true, true, true, true, false, false, false, true, false, false] rfl rfl (one_of HT_.out (by kernel_rfl)) (by decide) (fun K hK => ?_)
          refine goes_ Tryd.func11 (by kernel_rfl) rfl #[.agg #[.int .i64 1, .string ⟨#[]⟩, .int .i64 0, .slice (some ⟨g6, 0, none⟩) 2 2], .agg #[.int .i64 3, .slice none 0 0, .int .i64 0, .int .i64 2, .slice (some ⟨g3, 0, none⟩) 1 1, .int .i64 0, .string ⟨#[]⟩, .string ⟨#[]⟩]] (by rfl) rfl rfl (by (try simp only [List.map_toArray, List.map_cons, List.map_nil]); first | done | rfl | (simp only [List.length_drop, List.length_take]; rfl)) ?_
          refine (HAP.out w11 g6 g3 (Kd.F_now HFA_w11.out) (Kd.F_now HFR_w11.out)).mono ?_
          rintro e w12 ⟨A9, c9, rfl, hl9, hF9, hb⟩
          have HA_w12 := Aside0.mk (blk_on HA_w11.out hb)
          have HC_w12 := Aside0.mk (blk_on HC_w11.out hb)
          have HO_w12 := Aside0.mk (blk_on HO_w11.out hb)
          have HZ_w12 := Aside0.mk (blk_on HZ_w11.out hb)
          have HFR_w12 := Aside0.mk (Kd.F_below HFR_w11.out hb)
          have HFA_w12 := Aside0.mk (Kd.F_below HFA_w11.out hb)
          have HB_w12 := Aside0.mk (below_then HB_w11.out HB_w11.out.size hb)
          have HF9_w12 : Aside0 (Kd.F k24 w12 (fun k => k ≠ g5) A9 1 treeOut.f3) := ⟨Kd.F_mono hF9 (fun k hk => by have := blk_lt HZ_w11.out; omega)⟩
          clear hF9
          clear hb hHeld HA_w11 HC_w11 HO_w11 HZ_w11 HFR_w11 HFA_w11 HB_w11
          refine ⟨_, rfl, ?_⟩
          refine hK.out _ _ ⟨blk_cell HA_w12.out 0, blk_cell HA_w12.out 1, blk_cell HA_w12.out 2, blk_cell HA_w12.out 3, blk_cell HC_w12.out 0, blk_cell HC_w12.out 1, blk_cell HC_w12.out 2, blk_cell HC_w12.out 3, blk_cell HO_w12.out 0, blk_cell HO_w12.out 1, blk_cell HO_w12.out 2, blk_cell HO_w12.out 3, blk_cell HO_w12.out 4, blk_cell HO_w12.out 5, blk_cell HO_w12.out 6, blk_cell HO_w12.out 7⟩ (fun hHeld => ?_)
          clear hK K
          refine norm_ (a' := ?_) ?_ ?_
          rotate_left
          · show Act.put _ (some 24) _ = _
            simp only [Act.put, List.setIfInBounds_toArray, List.set_cons_zero, List.set_cons_succ, i64_w, i32_w]
            rfl
          refine pure_ (i := 7) (N := some 17) (v := ?_) (a' := ?_) #[true, true, true, true, true, true, true, true, false, false, true, false, false] rfl rfl (any_of HT_.out (by kernel_rfl)) (fun _ _ _ h => h) (Or.inl ⟨by rfl, ?_⟩) ?_ ?_
          rotate_left
          · intro w'
            go_simp
            with_reducible rfl
          rotate_left
          · simp only [Act.put, List.setIfInBounds_toArray, List.set_cons_zero, List.set_cons_succ, i64_w, i32_w]
            rfl
          refine pure_ (i := 8) (N := some 25) (v := ?_) (a' := ?_) #[true, true, true, true, true, true, true, true, true, false, true, false, false] rfl rfl (any_of HT_.out (by kernel_rfl)) (fun _ _ _ h => h) (Or.inl ⟨by rfl, ?_⟩) ?_ ?_
          rotate_left
          · intro w'
            go_simp
            with_reducible rfl
          rotate_left
          · simp only [Act.put, List.setIfInBounds_toArray, List.set_cons_zero, List.set_cons_succ, i64_w, i32_w]
            rfl
          refine pure_ (i := 9) (N := some 26) (v := ?_) (a' := ?_) #[true, true, true, true, true, true, true, true, true, true, true, false, false] rfl rfl (any_of HT_.out (by kernel_rfl)) (fun _ _ _ h => h) (Or.inl ⟨by rfl, ?_⟩) ?_ ?_
          rotate_left
          · intro w'
            go_simp
            with_reducible rfl
          rotate_left
          · simp only [Act.put, List.setIfInBounds_toArray, List.set_cons_zero, List.set_cons_succ, i64_w, i32_w]
            rfl
          refine norm_ ?_ (hCont (g6, g5, A9, c9) w12 ⟨HA_w12.out, HC_w12.out, HZ_w12.out, HF9_w12.out, hl9, HB_w12.out, HG_g5.out⟩)
          simp only [putAll, Act.put, List.setIfInBounds_toArray, List.set_cons_zero, List.set_cons_succ]
          try rfl
      · skip
        refine value_ (v := .pointer (some ⟨w7.heap.size, 0, none⟩)) (w1 := (w7.alloc (.cells #[.int .i64 0, .string ⟨#[]⟩, .int .i64 0, .slice none 0 0] 24))) (by rfl) rfl ?_ ?_
        · go_simp
        refine hK.out _ _ ⟨blk_cell (blk_allocO HA_w7.out _) 0, blk_cell (blk_allocO HA_w7.out _) 1, blk_cell (blk_allocO HA_w7.out _) 2, blk_cell (blk_allocO HA_w7.out _) 3, blk_cell (blk_allocO HC_w7.out _) 0, blk_cell (blk_allocO HC_w7.out _) 1, blk_cell (blk_allocO HC_w7.out _) 2, blk_cell (blk_allocO HC_w7.out _) 3, blk_cell (blk_allocO HO_w7.out _) 0, blk_cell (blk_allocO HO_w7.out _) 1, blk_cell (blk_allocO HO_w7.out _) 2, blk_cell (blk_allocO HO_w7.out _) 3, blk_cell (blk_allocO HO_w7.out _) 4, blk_cell (blk_allocO HO_w7.out _) 5, blk_cell (blk_allocO HO_w7.out _) 6, blk_cell (blk_allocO HO_w7.out _) 7⟩ (fun hHeld => ?_)
        clear hK K
        refine norm_ (a' := ?_) ?_ ?_
        rotate_left
        · show Act.put _ (some 5) _ = _
          simp only [Act.put, List.setIfInBounds_toArray, List.set_cons_zero, List.set_cons_succ, i64_w, i32_w]
          rfl
        have HG_g5 : Aside0 (w.heap.size + 2 ≤ w7.heap.size) := ⟨by have := blk_lt HC_w7.out; omega⟩
        have HZ_w13 : Aside0 ((w7.alloc (.cells #[.int .i64 0, .string ⟨#[]⟩, .int .i64 0, .slice none 0 0] 24)).heap[w7.heap.size]? = some (.cells #[.int .i64 0, .string ⟨#[]⟩, .int .i64 0, .slice none 0 0] 24)) := ⟨heap_alloc_new _ _⟩
        have HA_w13 := Aside0.mk (blk_allocO HA_w7.out (.cells #[.int .i64 0, .string ⟨#[]⟩, .int .i64 0, .slice none 0 0] 24))
        have HC_w13 := Aside0.mk (blk_allocO HC_w7.out (.cells #[.int .i64 0, .string ⟨#[]⟩, .int .i64 0, .slice none 0 0] 24))
        have HO_w13 := Aside0.mk (blk_allocO HO_w7.out (.cells #[.int .i64 0, .string ⟨#[]⟩, .int .i64 0, .slice none 0 0] 24))
        have HFR_w13 := Aside0.mk (Kd.F_alloc HFR_w7.out (.cells #[.int .i64 0, .string ⟨#[]⟩, .int .i64 0, .slice none 0 0] 24))
        have HFA_w13 := Aside0.mk (Kd.F_alloc HFA_w7.out (.cells #[.int .i64 0, .string ⟨#[]⟩, .int .i64 0, .slice none 0 0] 24))
        have HB_w13 := Aside0.mk (below_alloc HB_w7.out (.cells #[.int .i64 0, .string ⟨#[]⟩, .int .i64 0, .slice none 0 0] 24))
        clear HA_w7 HC_w7 HO_w7 HFR_w7 HFA_w7 HB_w7
        generalize (w7.alloc (.cells #[.int .i64 0, .string ⟨#[]⟩, .int .i64 0, .slice none 0 0] 24)) = w13 at HA_w13 HC_w13 HO_w13 HZ_w13 HFR_w13 HFA_w13 HB_w13 hHeld ⊢
        generalize w7.heap.size = g5 at HZ_w13 HG_g5 ⊢
        refine one_ (i := 4) (N := some 22) #[true, true, true, true, true, true, false, false, false, false, true, false, false] rfl rfl (one_of HT_.out (by kernel_rfl)) (by decide) (fun K hK => ?_)
        refine call_ 24 #[.slice (some ⟨g6, 0, none⟩) 2 2] (by rfl) rfl (by have he_ := fun W_ => enters_ Tryd.func24 (by kernel_rfl) rfl #[.slice (some ⟨g6, 0, none⟩) 2 2] W_; unfold execOp; simp [resolve, Deferred.ofValue, invoke, Act.eval, he_]) ?_
        refine (awakeRow_any 2 (some ⟨g6, 0, none⟩) 2 w13).mono ?_
        rintro e w14 ⟨rfl, hb⟩
        have HA_w14 := Aside0.mk (blk_on HA_w13.out hb)
        have HC_w14 := Aside0.mk (blk_on HC_w13.out hb)
        have HO_w14 := Aside0.mk (blk_on HO_w13.out hb)
        have HZ_w14 := Aside0.mk (blk_on HZ_w13.out hb)
        have HFR_w14 := Aside0.mk (Kd.F_below HFR_w13.out hb)
        have HFA_w14 := Aside0.mk (Kd.F_below HFA_w13.out hb)
        have HB_w14 := Aside0.mk (below_then HB_w13.out HB_w13.out.size hb)
        clear hb hHeld HA_w13 HC_w13 HO_w13 HZ_w13 HFR_w13 HFA_w13 HB_w13
        refine ⟨_, rfl, ?_⟩
        refine hK.out _ _ ⟨blk_cell HA_w14.out 0, blk_cell HA_w14.out 1, blk_cell HA_w14.out 2, blk_cell HA_w14.out 3, blk_cell HC_w14.out 0, blk_cell HC_w14.out 1, blk_cell HC_w14.out 2, blk_cell HC_w14.out 3, blk_cell HO_w14.out 0, blk_cell HO_w14.out 1, blk_cell HO_w14.out 2, blk_cell HO_w14.out 3, blk_cell HO_w14.out 4, blk_cell HO_w14.out 5, blk_cell HO_w14.out 6, blk_cell HO_w14.out 7⟩ (fun hHeld => ?_)
        clear hK K
        refine norm_ (a' := ?_) ?_ ?_
        rotate_left
        · show Act.put _ (some 22) _ = _
          simp only [Act.put, List.setIfInBounds_toArray, List.set_cons_zero, List.set_cons_succ, i64_w, i32_w]
          rfl
        refine one_ (i := 6) (N := some 24) #[true, true, true, true, true, true, true, false, false, false, true, false, false] rfl rfl (one_of HT_.out (by kernel_rfl)) (by decide) (fun K hK => ?_)
        refine goes_ Tryd.func11 (by kernel_rfl) rfl #[.agg #[.int .i64 1, .string ⟨#[]⟩, .int .i64 0, .slice (some ⟨g6, 0, none⟩) 2 2], .agg #[.int .i64 3, .slice none 0 0, .int .i64 0, .int .i64 2, .slice (some ⟨g3, 0, none⟩) 1 1, .int .i64 0, .string ⟨#[]⟩, .string ⟨#[]⟩]] (by rfl) rfl rfl (by (try simp only [List.map_toArray, List.map_cons, List.map_nil]); first | done | rfl | (simp only [List.length_drop, List.length_take]; rfl)) ?_
        refine (HAP.out w14 g6 g3 (Kd.F_now HFA_w14.out) (Kd.F_now HFR_w14.out)).mono ?_
        rintro e w15 ⟨A9, c9, rfl, hl9, hF9, hb⟩
        have HA_w15 := Aside0.mk (blk_on HA_w14.out hb)
        have HC_w15 := Aside0.mk (blk_on HC_w14.out hb)
        have HO_w15 := Aside0.mk (blk_on HO_w14.out hb)
        have HZ_w15 := Aside0.mk (blk_on HZ_w14.out hb)
        have HFR_w15 := Aside0.mk (Kd.F_below HFR_w14.out hb)
        have HFA_w15 := Aside0.mk (Kd.F_below HFA_w14.out hb)
        have HB_w15 := Aside0.mk (below_then HB_w14.out HB_w14.out.size hb)
        have HF9_w15 : Aside0 (Kd.F k24 w15 (fun k => k ≠ g5) A9 1 treeOut.f3) := ⟨Kd.F_mono hF9 (fun k hk => by have := blk_lt HZ_w14.out; omega)⟩
        clear hF9
        clear hb hHeld HA_w14 HC_w14 HO_w14 HZ_w14 HFR_w14 HFA_w14 HB_w14
        refine ⟨_, rfl, ?_⟩
        refine hK.out _ _ ⟨blk_cell HA_w15.out 0, blk_cell HA_w15.out 1, blk_cell HA_w15.out 2, blk_cell HA_w15.out 3, blk_cell HC_w15.out 0, blk_cell HC_w15.out 1, blk_cell HC_w15.out 2, blk_cell HC_w15.out 3, blk_cell HO_w15.out 0, blk_cell HO_w15.out 1, blk_cell HO_w15.out 2, blk_cell HO_w15.out 3, blk_cell HO_w15.out 4, blk_cell HO_w15.out 5, blk_cell HO_w15.out 6, blk_cell HO_w15.out 7⟩ (fun hHeld => ?_)
        clear hK K
        refine norm_ (a' := ?_) ?_ ?_
        rotate_left
        · show Act.put _ (some 24) _ = _
          simp only [Act.put, List.setIfInBounds_toArray, List.set_cons_zero, List.set_cons_succ, i64_w, i32_w]
          rfl
        refine pure_ (i := 7) (N := some 17) (v := ?_) (a' := ?_) #[true, true, true, true, true, true, true, true, false, false, true, false, false] rfl rfl (any_of HT_.out (by kernel_rfl)) (fun _ _ _ h => h) (Or.inl ⟨by rfl, ?_⟩) ?_ ?_
        rotate_left
        · intro w'
          go_simp
          with_reducible rfl
        rotate_left
        · simp only [Act.put, List.setIfInBounds_toArray, List.set_cons_zero, List.set_cons_succ, i64_w, i32_w]
          rfl
        refine pure_ (i := 8) (N := some 25) (v := ?_) (a' := ?_) #[true, true, true, true, true, true, true, true, true, false, true, false, false] rfl rfl (any_of HT_.out (by kernel_rfl)) (fun _ _ _ h => h) (Or.inl ⟨by rfl, ?_⟩) ?_ ?_
        rotate_left
        · intro w'
          go_simp
          with_reducible rfl
        rotate_left
        · simp only [Act.put, List.setIfInBounds_toArray, List.set_cons_zero, List.set_cons_succ, i64_w, i32_w]
          rfl
        refine pure_ (i := 9) (N := some 26) (v := ?_) (a' := ?_) #[true, true, true, true, true, true, true, true, true, true, true, false, false] rfl rfl (any_of HT_.out (by kernel_rfl)) (fun _ _ _ h => h) (Or.inl ⟨by rfl, ?_⟩) ?_ ?_
        rotate_left
        · intro w'
          go_simp
          with_reducible rfl
        rotate_left
        · simp only [Act.put, List.setIfInBounds_toArray, List.set_cons_zero, List.set_cons_succ, i64_w, i32_w]
          rfl
        refine norm_ ?_ (hCont (g6, g5, A9, c9) w15 ⟨HA_w15.out, HC_w15.out, HZ_w15.out, HF9_w15.out, hl9, HB_w15.out, HG_g5.out⟩)
        simp only [putAll, Act.put, List.setIfInBounds_toArray, List.set_cons_zero, List.set_cons_succ]
        try rfl
    · skip
      refine value_ (v := .pointer (some ⟨w6.heap.size, 0, none⟩)) (w1 := (w6.alloc (.cells #[.int .i64 0, .string ⟨#[]⟩, .int .i64 0, .slice none 0 0] 24))) (by rfl) rfl ?_ ?_
      · go_simp
      refine hK.out _ _ ⟨blk_cell (blk_allocO HA_w6.out _) 0, blk_cell (blk_allocO HA_w6.out _) 1, blk_cell (blk_allocO HA_w6.out _) 2, blk_cell (blk_allocO HA_w6.out _) 3, blk_cell (blk_allocO HC_w6.out _) 0, blk_cell (blk_allocO HC_w6.out _) 1, blk_cell (blk_allocO HC_w6.out _) 2, blk_cell (blk_allocO HC_w6.out _) 3, blk_cell (blk_allocO HO_w6.out _) 0, blk_cell (blk_allocO HO_w6.out _) 1, blk_cell (blk_allocO HO_w6.out _) 2, blk_cell (blk_allocO HO_w6.out _) 3, blk_cell (blk_allocO HO_w6.out _) 4, blk_cell (blk_allocO HO_w6.out _) 5, blk_cell (blk_allocO HO_w6.out _) 6, blk_cell (blk_allocO HO_w6.out _) 7⟩ (fun hHeld => ?_)
      clear hK K
      refine norm_ (a' := ?_) ?_ ?_
      rotate_left
      · show Act.put _ (some 5) _ = _
        simp only [Act.put, List.setIfInBounds_toArray, List.set_cons_zero, List.set_cons_succ, i64_w, i32_w]
        rfl
      have HG_g5 : Aside0 (w.heap.size + 2 ≤ w6.heap.size) := ⟨by have := blk_lt HC_w6.out; omega⟩
      have HZ_w16 : Aside0 ((w6.alloc (.cells #[.int .i64 0, .string ⟨#[]⟩, .int .i64 0, .slice none 0 0] 24)).heap[w6.heap.size]? = some (.cells #[.int .i64 0, .string ⟨#[]⟩, .int .i64 0, .slice none 0 0] 24)) := ⟨heap_alloc_new _ _⟩
      have HA_w16 := Aside0.mk (blk_allocO HA_w6.out (.cells #[.int .i64 0, .string ⟨#[]⟩, .int .i64 0, .slice none 0 0] 24))
      have HC_w16 := Aside0.mk (blk_allocO HC_w6.out (.cells #[.int .i64 0, .string ⟨#[]⟩, .int .i64 0, .slice none 0 0] 24))
      have HO_w16 := Aside0.mk (blk_allocO HO_w6.out (.cells #[.int .i64 0, .string ⟨#[]⟩, .int .i64 0, .slice none 0 0] 24))
      have HFR_w16 := Aside0.mk (Kd.F_alloc HFR_w6.out (.cells #[.int .i64 0, .string ⟨#[]⟩, .int .i64 0, .slice none 0 0] 24))
      have HB_w16 := Aside0.mk (below_alloc HB_w6.out (.cells #[.int .i64 0, .string ⟨#[]⟩, .int .i64 0, .slice none 0 0] 24))
      clear HA_w6 HC_w6 HO_w6 HFR_w6 HB_w6
      generalize (w6.alloc (.cells #[.int .i64 0, .string ⟨#[]⟩, .int .i64 0, .slice none 0 0] 24)) = w16 at HA_w16 HC_w16 HO_w16 HZ_w16 HFR_w16 HB_w16 hHeld ⊢
      generalize w6.heap.size = g5 at HZ_w16 HG_g5 ⊢
      refine one_ (i := 3) (N := some 21) #[true, true, true, true, false, true, false, false, false, false, true, false, false] rfl rfl (one_of HT_.out (by kernel_rfl)) (by decide) (fun K hK => ?_)
      refine value_ (v := .slice (some ⟨w16.heap.size, 0, none⟩) 2 2) (w1 := (w16.alloc (.cells #[.int .i64 2, .string ⟨#[97]⟩, .int .i64 0, .slice none 0 0, .int .i64 2, .string ⟨#[98]⟩, .int .i64 0, .slice none 0 0] 24))) (by rfl) rfl ?_ ?_
      · go_simp
      refine hK.out _ _ ⟨blk_cell (blk_allocO HA_w16.out _) 0, blk_cell (blk_allocO HA_w16.out _) 1, blk_cell (blk_allocO HA_w16.out _) 2, blk_cell (blk_allocO HA_w16.out _) 3, blk_cell (blk_allocO HC_w16.out _) 0, blk_cell (blk_allocO HC_w16.out _) 1, blk_cell (blk_allocO HC_w16.out _) 2, blk_cell (blk_allocO HC_w16.out _) 3, blk_cell (blk_allocO HO_w16.out _) 0, blk_cell (blk_allocO HO_w16.out _) 1, blk_cell (blk_allocO HO_w16.out _) 2, blk_cell (blk_allocO HO_w16.out _) 3, blk_cell (blk_allocO HO_w16.out _) 4, blk_cell (blk_allocO HO_w16.out _) 5, blk_cell (blk_allocO HO_w16.out _) 6, blk_cell (blk_allocO HO_w16.out _) 7⟩ (fun hHeld => ?_)
      clear hK K
      refine norm_ (a' := ?_) ?_ ?_
      rotate_left
      · show Act.put _ (some 21) _ = _
        simp only [Act.put, List.setIfInBounds_toArray, List.set_cons_zero, List.set_cons_succ, i64_w, i32_w]
        rfl
      have HFA_w17 : Aside0 (Kd.F k24 (w16.alloc (.cells #[.int .i64 2, .string ⟨#[97]⟩, .int .i64 0, .slice none 0 0, .int .i64 2, .string ⟨#[98]⟩, .int .i64 0, .slice none 0 0] 24)) (fun _ => True) (some ⟨w16.heap.size, 0, none⟩) 2 treeIn.f3) := ⟨Kd.F_mono (twoF (W := w16) (x := nodeA) (y := nodeB) (A3 := none) (B3 := none) (c3 := 0) (d3 := 0) (ok := fun _ => True) (Nat.le_refl _) (Kd.F_nil _ _ _) (Nat.le_refl _) (Kd.F_nil _ _ _)) (fun _ _ => trivial)⟩
      have HA_w17 := Aside0.mk (blk_allocO HA_w16.out (.cells #[.int .i64 2, .string ⟨#[97]⟩, .int .i64 0, .slice none 0 0, .int .i64 2, .string ⟨#[98]⟩, .int .i64 0, .slice none 0 0] 24))
      have HC_w17 := Aside0.mk (blk_allocO HC_w16.out (.cells #[.int .i64 2, .string ⟨#[97]⟩, .int .i64 0, .slice none 0 0, .int .i64 2, .string ⟨#[98]⟩, .int .i64 0, .slice none 0 0] 24))
      have HO_w17 := Aside0.mk (blk_allocO HO_w16.out (.cells #[.int .i64 2, .string ⟨#[97]⟩, .int .i64 0, .slice none 0 0, .int .i64 2, .string ⟨#[98]⟩, .int .i64 0, .slice none 0 0] 24))
      have HZ_w17 := Aside0.mk (blk_allocO HZ_w16.out (.cells #[.int .i64 2, .string ⟨#[97]⟩, .int .i64 0, .slice none 0 0, .int .i64 2, .string ⟨#[98]⟩, .int .i64 0, .slice none 0 0] 24))
      have HFR_w17 := Aside0.mk (Kd.F_alloc HFR_w16.out (.cells #[.int .i64 2, .string ⟨#[97]⟩, .int .i64 0, .slice none 0 0, .int .i64 2, .string ⟨#[98]⟩, .int .i64 0, .slice none 0 0] 24))
      have HB_w17 := Aside0.mk (below_alloc HB_w16.out (.cells #[.int .i64 2, .string ⟨#[97]⟩, .int .i64 0, .slice none 0 0, .int .i64 2, .string ⟨#[98]⟩, .int .i64 0, .slice none 0 0] 24))
      clear HA_w16 HC_w16 HO_w16 HZ_w16 HFR_w16 HB_w16
      generalize (w16.alloc (.cells #[.int .i64 2, .string ⟨#[97]⟩, .int .i64 0, .slice none 0 0, .int .i64 2, .string ⟨#[98]⟩, .int .i64 0, .slice none 0 0] 24)) = w17 at HA_w17 HC_w17 HO_w17 HZ_w17 HFR_w17 HFA_w17 HB_w17 hHeld ⊢
      generalize w16.heap.size = g6 at HFA_w17  ⊢
      refine one_ (i := 4) (N := some 22) #[true, true, true, true, true, true, false, false, false, false, true, false, false] rfl rfl (one_of HT_.out (by kernel_rfl)) (by decide) (fun K hK => ?_)
      refine call_ 24 #[.slice (some ⟨g6, 0, none⟩) 2 2] (by rfl) rfl (by have he_ := fun W_ => enters_ Tryd.func24 (by kernel_rfl) rfl #[.slice (some ⟨g6, 0, none⟩) 2 2] W_; unfold execOp; simp [resolve, Deferred.ofValue, invoke, Act.eval, he_]) ?_
      refine (awakeRow_any 2 (some ⟨g6, 0, none⟩) 2 w17).mono ?_
      rintro e w18 ⟨rfl, hb⟩
      have HA_w18 := Aside0.mk (blk_on HA_w17.out hb)
      have HC_w18 := Aside0.mk (blk_on HC_w17.out hb)
      have HO_w18 := Aside0.mk (blk_on HO_w17.out hb)
      have HZ_w18 := Aside0.mk (blk_on HZ_w17.out hb)
      have HFR_w18 := Aside0.mk (Kd.F_below HFR_w17.out hb)
      have HFA_w18 := Aside0.mk (Kd.F_below HFA_w17.out hb)
      have HB_w18 := Aside0.mk (below_then HB_w17.out HB_w17.out.size hb)
      clear hb hHeld HA_w17 HC_w17 HO_w17 HZ_w17 HFR_w17 HFA_w17 HB_w17
      refine ⟨_, rfl, ?_⟩
      refine hK.out _ _ ⟨blk_cell HA_w18.out 0, blk_cell HA_w18.out 1, blk_cell HA_w18.out 2, blk_cell HA_w18.out 3, blk_cell HC_w18.out 0, blk_cell HC_w18.out 1, blk_cell HC_w18.out 2, blk_cell HC_w18.out 3, blk_cell HO_w18.out 0, blk_cell HO_w18.out 1, blk_cell HO_w18.out 2, blk_cell HO_w18.out 3, blk_cell HO_w18.out 4, blk_cell HO_w18.out 5, blk_cell HO_w18.out 6, blk_cell HO_w18.out 7⟩ (fun hHeld => ?_)
      clear hK K
      refine norm_ (a' := ?_) ?_ ?_
      rotate_left
      · show Act.put _ (some 22) _ = _
        simp only [Act.put, List.setIfInBounds_toArray, List.set_cons_zero, List.set_cons_succ, i64_w, i32_w]
        rfl
      refine one_ (i := 6) (N := some 24) #[true, true, true, true, true, true, true, false, false, false, true, false, false] rfl rfl (one_of HT_.out (by kernel_rfl)) (by decide) (fun K hK => ?_)
      refine goes_ Tryd.func11 (by kernel_rfl) rfl #[.agg #[.int .i64 1, .string ⟨#[]⟩, .int .i64 0, .slice (some ⟨g6, 0, none⟩) 2 2], .agg #[.int .i64 3, .slice none 0 0, .int .i64 0, .int .i64 2, .slice (some ⟨g3, 0, none⟩) 1 1, .int .i64 0, .string ⟨#[]⟩, .string ⟨#[]⟩]] (by rfl) rfl rfl (by (try simp only [List.map_toArray, List.map_cons, List.map_nil]); first | done | rfl | (simp only [List.length_drop, List.length_take]; rfl)) ?_
      refine (HAP.out w18 g6 g3 (Kd.F_now HFA_w18.out) (Kd.F_now HFR_w18.out)).mono ?_
      rintro e w19 ⟨A9, c9, rfl, hl9, hF9, hb⟩
      have HA_w19 := Aside0.mk (blk_on HA_w18.out hb)
      have HC_w19 := Aside0.mk (blk_on HC_w18.out hb)
      have HO_w19 := Aside0.mk (blk_on HO_w18.out hb)
      have HZ_w19 := Aside0.mk (blk_on HZ_w18.out hb)
      have HFR_w19 := Aside0.mk (Kd.F_below HFR_w18.out hb)
      have HFA_w19 := Aside0.mk (Kd.F_below HFA_w18.out hb)
      have HB_w19 := Aside0.mk (below_then HB_w18.out HB_w18.out.size hb)
      have HF9_w19 : Aside0 (Kd.F k24 w19 (fun k => k ≠ g5) A9 1 treeOut.f3) := ⟨Kd.F_mono hF9 (fun k hk => by have := blk_lt HZ_w18.out; omega)⟩
      clear hF9
      clear hb hHeld HA_w18 HC_w18 HO_w18 HZ_w18 HFR_w18 HFA_w18 HB_w18
      refine ⟨_, rfl, ?_⟩
      refine hK.out _ _ ⟨blk_cell HA_w19.out 0, blk_cell HA_w19.out 1, blk_cell HA_w19.out 2, blk_cell HA_w19.out 3, blk_cell HC_w19.out 0, blk_cell HC_w19.out 1, blk_cell HC_w19.out 2, blk_cell HC_w19.out 3, blk_cell HO_w19.out 0, blk_cell HO_w19.out 1, blk_cell HO_w19.out 2, blk_cell HO_w19.out 3, blk_cell HO_w19.out 4, blk_cell HO_w19.out 5, blk_cell HO_w19.out 6, blk_cell HO_w19.out 7⟩ (fun hHeld => ?_)
      clear hK K
      refine norm_ (a' := ?_) ?_ ?_
      rotate_left
      · show Act.put _ (some 24) _ = _
        simp only [Act.put, List.setIfInBounds_toArray, List.set_cons_zero, List.set_cons_succ, i64_w, i32_w]
        rfl
      refine pure_ (i := 7) (N := some 17) (v := ?_) (a' := ?_) #[true, true, true, true, true, true, true, true, false, false, true, false, false] rfl rfl (any_of HT_.out (by kernel_rfl)) (fun _ _ _ h => h) (Or.inl ⟨by rfl, ?_⟩) ?_ ?_
      rotate_left
      · intro w'
        go_simp
        with_reducible rfl
      rotate_left
      · simp only [Act.put, List.setIfInBounds_toArray, List.set_cons_zero, List.set_cons_succ, i64_w, i32_w]
        rfl
      refine pure_ (i := 8) (N := some 25) (v := ?_) (a' := ?_) #[true, true, true, true, true, true, true, true, true, false, true, false, false] rfl rfl (any_of HT_.out (by kernel_rfl)) (fun _ _ _ h => h) (Or.inl ⟨by rfl, ?_⟩) ?_ ?_
      rotate_left
      · intro w'
        go_simp
        with_reducible rfl
      rotate_left
      · simp only [Act.put, List.setIfInBounds_toArray, List.set_cons_zero, List.set_cons_succ, i64_w, i32_w]
        rfl
      refine pure_ (i := 9) (N := some 26) (v := ?_) (a' := ?_) #[true, true, true, true, true, true, true, true, true, true, true, false, false] rfl rfl (any_of HT_.out (by kernel_rfl)) (fun _ _ _ h => h) (Or.inl ⟨by rfl, ?_⟩) ?_ ?_
      rotate_left
      · intro w'
        go_simp
        with_reducible rfl
      rotate_left
      · simp only [Act.put, List.setIfInBounds_toArray, List.set_cons_zero, List.set_cons_succ, i64_w, i32_w]
        rfl
      refine norm_ ?_ (hCont (g6, g5, A9, c9) w19 ⟨HA_w19.out, HC_w19.out, HZ_w19.out, HF9_w19.out, hl9, HB_w19.out, HG_g5.out⟩)
      simp only [putAll, Act.put, List.setIfInBounds_toArray, List.set_cons_zero, List.set_cons_succ]
      try rfl
  rintro ⟨g6, g5, A9, c9⟩ w30 ⟨hA, hC, hZ, hF, hl, hB, hG⟩
  simp only at hZ hF hl hG
  refine norm_ (a' := ?_) ?_ ?_
  rotate_left
  · simp only [putAll, Act.put, List.setIfInBounds_toArray, List.set_cons_zero, List.set_cons_succ]
    rfl
  have z0 := (blk_cell hZ 0 : w30.cell? ⟨g5, 0, none⟩ = _)
  have y0 := (blk_frozen hZ 0 : w30.frozen? ⟨g5, 0, none⟩ = false)
  have z1 := (blk_cell hZ 1 : w30.cell? ⟨g5, 1, none⟩ = _)
  have y1 := (blk_frozen hZ 1 : w30.frozen? ⟨g5, 1, none⟩ = false)
  have z2 := (blk_cell hZ 2 : w30.cell? ⟨g5, 2, none⟩ = _)
  have y2 := (blk_frozen hZ 2 : w30.frozen? ⟨g5, 2, none⟩ = false)
  have z3 := (blk_cell hZ 3 : w30.cell? ⟨g5, 3, none⟩ = _)
  have y3 := (blk_frozen hZ 3 : w30.frozen? ⟨g5, 3, none⟩ = false)
  refine last_ (i := 11) (N := none) #[true, true, true, true, true, true, true, true, true, true, true, true, false] rfl rfl (one_of HT_.out (by kernel_rfl)) (by decide) (fun K hK => ?_)
  refine skip_ (w1 := ?_) (by rfl) rfl ?_ ?_
  rotate_left
  · go_simp
    rfl
  refine hK.out _ _ ?_
  clear hK K
  refine pure_ (i := 12) (N := some 6) (v := ?_) (a' := ?_) #[true, true, true, true, true, true, true, true, true, true, true, true, true] rfl rfl (any_of HT_.out (by kernel_rfl)) (fun _ _ _ h => h) (Or.inl ⟨by rfl, ?_⟩) ?_ ?_
  rotate_left
  · intro w'
    go_simp
    with_reducible rfl
  rotate_left
  · simp only [Act.put, List.setIfInBounds_toArray, List.set_cons_zero, List.set_cons_succ, i64_w, i32_w]
    rfl
  refine done_ (done_of HT_.out (by kernel_rfl)) ?_
  have HZ_w31 : Aside0 (((((w30.setCell ⟨g5, 0, none⟩ (.int .i64 1)).setCell ⟨g5, 1, none⟩ (.string ⟨#[]⟩)).setCell ⟨g5, 2, none⟩ (.int .i64 0)).setCell ⟨g5, 3, none⟩ (.slice A9 1 c9)).heap[g5]? = some (.cells #[.int .i64 1, .string ⟨#[]⟩, .int .i64 0, .slice A9 1 c9] 24)) := ⟨blk_put4 hZ⟩
  have HA_w31 : Aside0 (((((w30.setCell ⟨g5, 0, none⟩ (.int .i64 1)).setCell ⟨g5, 1, none⟩ (.string ⟨#[]⟩)).setCell ⟨g5, 2, none⟩ (.int .i64 0)).setCell ⟨g5, 3, none⟩ (.slice A9 1 c9)).heap[w.heap.size]? = some (.cells #[.int .i64 2, .string ⟨#[97]⟩, .int .i64 0, .slice none 0 0] 24)) := ⟨(heap_set4 (by omega)).trans hA⟩
  have HC_w31 : Aside0 (((((w30.setCell ⟨g5, 0, none⟩ (.int .i64 1)).setCell ⟨g5, 1, none⟩ (.string ⟨#[]⟩)).setCell ⟨g5, 2, none⟩ (.int .i64 0)).setCell ⟨g5, 3, none⟩ (.slice A9 1 c9)).heap[w.heap.size + 1]? = some (.cells #[.int .i64 2, .string ⟨#[98]⟩, .int .i64 0, .slice none 0 0] 24)) := ⟨(heap_set4 (by omega)).trans hC⟩
  have HF_w31 : Aside0 (Kd.F k24 ((((w30.setCell ⟨g5, 0, none⟩ (.int .i64 1)).setCell ⟨g5, 1, none⟩ (.string ⟨#[]⟩)).setCell ⟨g5, 2, none⟩ (.int .i64 0)).setCell ⟨g5, 3, none⟩ (.slice A9 1 c9)) (fun k => k ≠ g5) A9 1 treeOut.f3) := ⟨F_set4 hF (fun k hk => hk)⟩
  have HB_w31 : Aside0 (Below w.heap.size w ((((w30.setCell ⟨g5, 0, none⟩ (.int .i64 1)).setCell ⟨g5, 1, none⟩ (.string ⟨#[]⟩)).setCell ⟨g5, 2, none⟩ (.int .i64 0)).setCell ⟨g5, 3, none⟩ (.slice A9 1 c9))) := ⟨below_set4 hB (by omega)⟩
  have HL := Aside0.mk hl
  clear hZ hA hC hF hB hG hl z0 z1 z2 z3 y0 y1 y2 y3 HAP HROW
  try go_wp2
  generalize ((((w30.setCell ⟨g5, 0, none⟩ (.int .i64 1)).setCell ⟨g5, 1, none⟩ (.string ⟨#[]⟩)).setCell ⟨g5, 2, none⟩ (.int .i64 0)).setCell ⟨g5, 3, none⟩ (.slice A9 1 c9)) = w31 at HZ_w31 HA_w31 HC_w31 HF_w31 HB_w31 ⊢
  refine start_ (n := 19) (S := fun w' => w'.cell? ⟨g5, 0, none⟩ = some (.int .i64 1) ∧ w'.cell? ⟨g5, 1, none⟩ = some (.string ⟨#[]⟩) ∧ w'.cell? ⟨g5, 2, none⟩ = some (.int .i64 0) ∧ w'.cell? ⟨g5, 3, none⟩ = some (.slice A9 1 c9) ∧ w'.cell? ⟨w.heap.size, 0, none⟩ = some (.int .i64 2) ∧ w'.cell? ⟨w.heap.size, 1, none⟩ = some (.string ⟨#[97]⟩) ∧ w'.cell? ⟨w.heap.size, 2, none⟩ = some (.int .i64 0) ∧ w'.cell? ⟨w.heap.size, 3, none⟩ = some (.slice none 0 0) ∧ w'.cell? ⟨w.heap.size + 1, 0, none⟩ = some (.int .i64 2) ∧ w'.cell? ⟨w.heap.size + 1, 1, none⟩ = some (.string ⟨#[98]⟩) ∧ w'.cell? ⟨w.heap.size + 1, 2, none⟩ = some (.int .i64 0) ∧ w'.cell? ⟨w.heap.size + 1, 3, none⟩ = some (.slice none 0 0)) (ds := []) #[false, false, false, false, false, false, false, false, false, false, false, false, false, false, false, false, false, false, false] (by kernel_rfl) rfl rfl ⟨blk_cell HZ_w31.out 0, blk_cell HZ_w31.out 1, blk_cell HZ_w31.out 2, blk_cell HZ_w31.out 3, blk_cell HA_w31.out 0, blk_cell HA_w31.out 1, blk_cell HA_w31.out 2, blk_cell HA_w31.out 3, blk_cell HC_w31.out 0, blk_cell HC_w31.out 1, blk_cell HC_w31.out 2, blk_cell HC_w31.out 3⟩ (fun hHeld => ?_); refine with_tabW awake5.tab awake5.bits (fun HT_ HW_ => ?_)
  have HZ_w32 : Aside0 (w31.drew.heap[g5]? = _) := ⟨HZ_w31.out⟩
  have HA_w32 : Aside0 (w31.drew.heap[w.heap.size]? = _) := ⟨HA_w31.out⟩
  have HC_w32 : Aside0 (w31.drew.heap[w.heap.size + 1]? = _) := ⟨HC_w31.out⟩
  have HF_w32 := Aside0.mk (Kd.F_drew HF_w31.out)
  have HB_w32 := Aside0.mk (below_drew1 HB_w31.out)
  clear HZ_w31 HA_w31 HC_w31 HF_w31 HB_w31
  generalize w31.drew = w32 at HZ_w32 HA_w32 HC_w32 HF_w32 HB_w32 hHeld ⊢
  refine pure_ (i := 0) (N := some 27) (v := ?_) (a' := ?_) #[true, false, false, false, false, false, false, false, false, false, false, false, false, false, false, false, false, false, false] rfl rfl (any_of HT_.out (by kernel_rfl)) (fun _ _ _ h => h) (Or.inl ⟨by rfl, ?_⟩) ?_ ?_
  rotate_left
  · intro w'
    go_simp
    with_reducible rfl
  rotate_left
  · simp only [Act.put, List.setIfInBounds_toArray, List.set_cons_zero, List.set_cons_succ, i64_w, i32_w]
    rfl
  refine pure_ (i := 1) (N := some 28) (v := ?_) (a' := ?_) #[true, true, false, false, false, false, false, false, false, false, false, false, false, false, false, false, false, false, false] rfl rfl (any_of HT_.out (by kernel_rfl)) (fun _ _ _ h => h) (Or.inl ⟨by rfl, ?_⟩) ?_ ?_
  rotate_left
  · intro w'
    go_simp
    with_reducible rfl
  rotate_left
  · simp only [Act.put, List.setIfInBounds_toArray, List.set_cons_zero, List.set_cons_succ, i64_w, i32_w]
    rfl
  refine pure_ (i := 2) (N := some 29) (v := ?_) (a' := ?_) #[true, true, true, false, false, false, false, false, false, false, false, false, false, false, false, false, false, false, false] rfl rfl (any_of HT_.out (by kernel_rfl)) (fun _ _ _ h => h) (Or.inl ⟨by rfl, ?_⟩) ?_ ?_
  rotate_left
  · intro w'
    go_simp
    with_reducible rfl
  rotate_left
  · simp only [Act.put, List.setIfInBounds_toArray, List.set_cons_zero, List.set_cons_succ, i64_w, i32_w]
    rfl
  refine take_ (i := 3) (N := some 30) (v := ?_) (a' := ?_) #[true, true, true, true, false, false, false, false, false, false, false, false, false, false, false, false, false, false, false] rfl rfl (take_ofW HT_.out HW_.out (by kernel_rfl)) (fun _ _ _ h => h) (Or.inl ⟨by rfl, ?_⟩) hHeld ?_ ?_
  rotate_left
  · rintro w' ⟨s0, s1, s2, s3, s4, s5, s6, s7, s8, s9, s10, s11⟩
    go_simp
    with_reducible rfl
  rotate_left
  · simp only [Act.put, List.setIfInBounds_toArray, List.set_cons_zero, List.set_cons_succ, i64_w, i32_w]
    rfl
  refine pure_ (i := 4) (N := some 31) (v := ?_) (a' := ?_) #[true, true, true, true, true, false, false, false, false, false, false, false, false, false, false, false, false, false, false] rfl rfl (any_of HT_.out (by kernel_rfl)) (fun _ _ _ h => h) (Or.inl ⟨by rfl, ?_⟩) ?_ ?_
  rotate_left
  · intro w'
    go_simp
    with_reducible rfl
  rotate_left
  · simp only [Act.put, List.setIfInBounds_toArray, List.set_cons_zero, List.set_cons_succ, i64_w, i32_w]
    rfl
  refine pure_ (i := 5) (N := some 32) (v := ?_) (a' := ?_) #[true, true, true, true, true, true, false, false, false, false, false, false, false, false, false, false, false, false, false] rfl rfl (any_of HT_.out (by kernel_rfl)) (fun _ _ _ h => h) (Or.inl ⟨by rfl, ?_⟩) ?_ ?_
  rotate_left
  · intro w'
    go_simp
    with_reducible rfl
  rotate_left
  · simp only [Act.put, List.setIfInBounds_toArray, List.set_cons_zero, List.set_cons_succ, i64_w, i32_w]
    rfl
  refine take_ (i := 6) (N := some 33) (v := ?_) (a' := ?_) #[true, true, true, true, true, true, true, false, false, false, false, false, false, false, false, false, false, false, false] rfl rfl (take_ofW HT_.out HW_.out (by kernel_rfl)) (fun _ _ _ h => h) (Or.inl ⟨by rfl, ?_⟩) hHeld ?_ ?_
  rotate_left
  · rintro w' ⟨s0, s1, s2, s3, s4, s5, s6, s7, s8, s9, s10, s11⟩
    go_simp
    with_reducible rfl
  rotate_left
  · simp only [Act.put, List.setIfInBounds_toArray, List.set_cons_zero, List.set_cons_succ, i64_w, i32_w]
    rfl
  refine take_ (i := 7) (N := some 34) (v := ?_) (a' := ?_) #[true, true, true, true, true, true, true, true, false, false, false, false, false, false, false, false, false, false, false] rfl rfl (take_ofW HT_.out HW_.out (by kernel_rfl)) (fun _ _ _ h => h) (Or.inl ⟨by rfl, ?_⟩) hHeld ?_ ?_
  rotate_left
  · rintro w' ⟨s0, s1, s2, s3, s4, s5, s6, s7, s8, s9, s10, s11⟩
    go_simp
    with_reducible rfl
  rotate_left
  · simp only [Act.put, List.setIfInBounds_toArray, List.set_cons_zero, List.set_cons_succ, i64_w, i32_w]
    rfl
  refine pure_ (i := 10) (N := some 37) (v := ?_) (a' := ?_) #[true, true, true, true, true, true, true, true, false, false, true, false, false, false, false, false, false, false, false] rfl rfl (any_of HT_.out (by kernel_rfl)) (fun _ _ _ h => h) (Or.inl ⟨by rfl, ?_⟩) ?_ ?_
  rotate_left
  · intro w'
    go_simp
    with_reducible rfl
  rotate_left
  · simp only [Act.put, List.setIfInBounds_toArray, List.set_cons_zero, List.set_cons_succ, i64_w, i32_w]
    rfl
  refine one_ (i := 8) (N := some 35) #[true, true, true, true, true, true, true, true, true, false, true, false, false, false, false, false, false, false, false] rfl rfl (one_of HT_.out (by kernel_rfl)) (by decide) (fun K hK => ?_)
  refine value_ (v := .slice (some ⟨w32.heap.size, 0, none⟩) 2 2) (w1 := (w32.alloc (.cells #[.int .i64 2, .string ⟨#[97]⟩, .int .i64 0, .slice none 0 0, .int .i64 2, .string ⟨#[98]⟩, .int .i64 0, .slice none 0 0] 24))) (by rfl) rfl ?_ ?_
  · go_simp
  refine hK.out _ _ ⟨blk_cell (blk_allocO HZ_w32.out _) 0, blk_cell (blk_allocO HZ_w32.out _) 1, blk_cell (blk_allocO HZ_w32.out _) 2, blk_cell (blk_allocO HZ_w32.out _) 3, blk_cell (blk_allocO HA_w32.out _) 0, blk_cell (blk_allocO HA_w32.out _) 1, blk_cell (blk_allocO HA_w32.out _) 2, blk_cell (blk_allocO HA_w32.out _) 3, blk_cell (blk_allocO HC_w32.out _) 0, blk_cell (blk_allocO HC_w32.out _) 1, blk_cell (blk_allocO HC_w32.out _) 2, blk_cell (blk_allocO HC_w32.out _) 3⟩ (fun hHeld => ?_)
  clear hK K
  refine norm_ (a' := ?_) ?_ ?_
  rotate_left
  · show Act.put _ (some 35) _ = _
    simp only [Act.put, List.setIfInBounds_toArray, List.set_cons_zero, List.set_cons_succ, i64_w, i32_w]
    rfl
  have H8_w33 : Aside0 (Kd.F k24 (w32.alloc (.cells #[.int .i64 2, .string ⟨#[97]⟩, .int .i64 0, .slice none 0 0, .int .i64 2, .string ⟨#[98]⟩, .int .i64 0, .slice none 0 0] 24)) (fun _ => True) (some ⟨w32.heap.size, 0, none⟩) 2 treeIn.f3) := ⟨Kd.F_mono (twoF (W := w32) (x := nodeA) (y := nodeB) (A3 := none) (B3 := none) (c3 := 0) (d3 := 0) (ok := fun _ => True) (Nat.le_refl _) (Kd.F_nil _ _ _) (Nat.le_refl _) (Kd.F_nil _ _ _)) (fun _ _ => trivial)⟩
  have HZ_w33 := Aside0.mk (blk_allocO HZ_w32.out (.cells #[.int .i64 2, .string ⟨#[97]⟩, .int .i64 0, .slice none 0 0, .int .i64 2, .string ⟨#[98]⟩, .int .i64 0, .slice none 0 0] 24))
  have HA_w33 := Aside0.mk (blk_allocO HA_w32.out (.cells #[.int .i64 2, .string ⟨#[97]⟩, .int .i64 0, .slice none 0 0, .int .i64 2, .string ⟨#[98]⟩, .int .i64 0, .slice none 0 0] 24))
  have HC_w33 := Aside0.mk (blk_allocO HC_w32.out (.cells #[.int .i64 2, .string ⟨#[97]⟩, .int .i64 0, .slice none 0 0, .int .i64 2, .string ⟨#[98]⟩, .int .i64 0, .slice none 0 0] 24))
  have HF_w33 := Aside0.mk (Kd.F_alloc HF_w32.out (.cells #[.int .i64 2, .string ⟨#[97]⟩, .int .i64 0, .slice none 0 0, .int .i64 2, .string ⟨#[98]⟩, .int .i64 0, .slice none 0 0] 24))
  have HB_w33 := Aside0.mk (below_alloc HB_w32.out (.cells #[.int .i64 2, .string ⟨#[97]⟩, .int .i64 0, .slice none 0 0, .int .i64 2, .string ⟨#[98]⟩, .int .i64 0, .slice none 0 0] 24))
  clear HZ_w32 HA_w32 HC_w32 HF_w32 HB_w32
  generalize (w32.alloc (.cells #[.int .i64 2, .string ⟨#[97]⟩, .int .i64 0, .slice none 0 0, .int .i64 2, .string ⟨#[98]⟩, .int .i64 0, .slice none 0 0] 24)) = w33 at HZ_w33 HA_w33 HC_w33 HF_w33 H8_w33 HB_w33 hHeld ⊢
  generalize w32.heap.size = g8 at H8_w33  ⊢
  refine one_ (i := 9) (N := some 36) #[true, true, true, true, true, true, true, true, true, true, true, false, false, false, false, false, false, false, false] rfl rfl (one_of HT_.out (by kernel_rfl)) (by decide) (fun K hK => ?_)
  refine call_ 24 #[.slice (some ⟨g8, 0, none⟩) 2 2] (by rfl) rfl (by have he_ := fun W_ => enters_ Tryd.func24 (by kernel_rfl) rfl #[.slice (some ⟨g8, 0, none⟩) 2 2] W_; unfold execOp; simp [resolve, Deferred.ofValue, invoke, Act.eval, he_]) ?_
  refine (awakeRow_any 2 (some ⟨g8, 0, none⟩) 2 w33).mono ?_
  rintro e w34 ⟨rfl, hb⟩
  have HZ_w34 := Aside0.mk (blk_on HZ_w33.out hb)
  have HA_w34 := Aside0.mk (blk_on HA_w33.out hb)
  have HC_w34 := Aside0.mk (blk_on HC_w33.out hb)
  have HF_w34 := Aside0.mk (Kd.F_below HF_w33.out hb)
  have H8_w34 := Aside0.mk (Kd.F_below H8_w33.out hb)
  have HB_w34 := Aside0.mk (below_then HB_w33.out HB_w33.out.size hb)
  clear hb hHeld HZ_w33 HA_w33 HC_w33 HF_w33 H8_w33 HB_w33
  refine ⟨_, rfl, ?_⟩
  refine hK.out _ _ ⟨blk_cell HZ_w34.out 0, blk_cell HZ_w34.out 1, blk_cell HZ_w34.out 2, blk_cell HZ_w34.out 3, blk_cell HA_w34.out 0, blk_cell HA_w34.out 1, blk_cell HA_w34.out 2, blk_cell HA_w34.out 3, blk_cell HC_w34.out 0, blk_cell HC_w34.out 1, blk_cell HC_w34.out 2, blk_cell HC_w34.out 3⟩ (fun hHeld => ?_)
  clear hK K
  refine norm_ (a' := ?_) ?_ ?_
  rotate_left
  · show Act.put _ (some 36) _ = _
    simp only [Act.put, List.setIfInBounds_toArray, List.set_cons_zero, List.set_cons_succ, i64_w, i32_w]
    rfl
  refine one_ (i := 11) (N := some 38) #[true, true, true, true, true, true, true, true, true, true, true, true, false, false, false, false, false, false, false] rfl rfl (one_of HT_.out (by kernel_rfl)) (by decide) (fun K hK => ?_)
  refine call_ 24 #[.slice none 0 0] (by rfl) rfl (by have he_ := fun W_ => enters_ Tryd.func24 (by kernel_rfl) rfl #[.slice none 0 0] W_; unfold execOp; simp [resolve, Deferred.ofValue, invoke, Act.eval, he_]) ?_
  refine (awakeRow_any 0 none 0 w34).mono ?_
  rintro e w35 ⟨rfl, hb⟩
  have HZ_w35 := Aside0.mk (blk_on HZ_w34.out hb)
  have HA_w35 := Aside0.mk (blk_on HA_w34.out hb)
  have HC_w35 := Aside0.mk (blk_on HC_w34.out hb)
  have HF_w35 := Aside0.mk (Kd.F_below HF_w34.out hb)
  have H8_w35 := Aside0.mk (Kd.F_below H8_w34.out hb)
  have HB_w35 := Aside0.mk (below_then HB_w34.out HB_w34.out.size hb)
  clear hb hHeld HZ_w34 HA_w34 HC_w34 HF_w34 H8_w34 HB_w34
  refine ⟨_, rfl, ?_⟩
  refine hK.out _ _ ⟨blk_cell HZ_w35.out 0, blk_cell HZ_w35.out 1, blk_cell HZ_w35.out 2, blk_cell HZ_w35.out 3, blk_cell HA_w35.out 0, blk_cell HA_w35.out 1, blk_cell HA_w35.out 2, blk_cell HA_w35.out 3, blk_cell HC_w35.out 0, blk_cell HC_w35.out 1, blk_cell HC_w35.out 2, blk_cell HC_w35.out 3⟩ (fun hHeld => ?_)
  clear hK K
  refine norm_ (a' := ?_) ?_ ?_
  rotate_left
  · show Act.put _ (some 38) _ = _
    simp only [Act.put, List.setIfInBounds_toArray, List.set_cons_zero, List.set_cons_succ, i64_w, i32_w]
    rfl
  refine one_ (i := 12) (N := some 39) #[true, true, true, true, true, true, true, true, true, true, true, true, true, false, false, false, false, false, false] rfl rfl (one_of HT_.out (by kernel_rfl)) (by decide) (fun K hK => ?_)
  refine value_ (v := .slice (some ⟨w35.heap.size, 0, none⟩) 2 2) (w1 := (w35.alloc (.cells #[.int .i64 1, .string ⟨#[]⟩, .int .i64 0, .slice (some ⟨g8, 0, none⟩) 2 2, .int .i64 1, .string ⟨#[]⟩, .int .i64 0, .slice none 0 0] 24))) (by rfl) rfl ?_ ?_
  · go_simp
  refine hK.out _ _ ⟨blk_cell (blk_allocO HZ_w35.out _) 0, blk_cell (blk_allocO HZ_w35.out _) 1, blk_cell (blk_allocO HZ_w35.out _) 2, blk_cell (blk_allocO HZ_w35.out _) 3, blk_cell (blk_allocO HA_w35.out _) 0, blk_cell (blk_allocO HA_w35.out _) 1, blk_cell (blk_allocO HA_w35.out _) 2, blk_cell (blk_allocO HA_w35.out _) 3, blk_cell (blk_allocO HC_w35.out _) 0, blk_cell (blk_allocO HC_w35.out _) 1, blk_cell (blk_allocO HC_w35.out _) 2, blk_cell (blk_allocO HC_w35.out _) 3⟩ (fun hHeld => ?_)
  clear hK K
  refine norm_ (a' := ?_) ?_ ?_
  rotate_left
  · show Act.put _ (some 39) _ = _
    simp only [Act.put, List.setIfInBounds_toArray, List.set_cons_zero, List.set_cons_succ, i64_w, i32_w]
    rfl
  have H12_w36 : Aside0 (Kd.F k24 (w35.alloc (.cells #[.int .i64 1, .string ⟨#[]⟩, .int .i64 0, .slice (some ⟨g8, 0, none⟩) 2 2, .int .i64 1, .string ⟨#[]⟩, .int .i64 0, .slice none 0 0] 24)) (fun _ => True) (some ⟨w35.heap.size, 0, none⟩) 2 [treeIn, nodeR]) := ⟨Kd.F_mono (twoF (W := w35) (x := treeIn) (y := nodeR) (A3 := some ⟨g8, 0, none⟩) (B3 := none) (c3 := 2) (d3 := 0) (ok := fun _ => True) (Nat.le_refl _) (H8_w35.out) (Nat.le_refl _) (Kd.F_nil _ _ _)) (fun _ _ => trivial)⟩
  have HZ_w36 := Aside0.mk (blk_allocO HZ_w35.out (.cells #[.int .i64 1, .string ⟨#[]⟩, .int .i64 0, .slice (some ⟨g8, 0, none⟩) 2 2, .int .i64 1, .string ⟨#[]⟩, .int .i64 0, .slice none 0 0] 24))
  have HA_w36 := Aside0.mk (blk_allocO HA_w35.out (.cells #[.int .i64 1, .string ⟨#[]⟩, .int .i64 0, .slice (some ⟨g8, 0, none⟩) 2 2, .int .i64 1, .string ⟨#[]⟩, .int .i64 0, .slice none 0 0] 24))
  have HC_w36 := Aside0.mk (blk_allocO HC_w35.out (.cells #[.int .i64 1, .string ⟨#[]⟩, .int .i64 0, .slice (some ⟨g8, 0, none⟩) 2 2, .int .i64 1, .string ⟨#[]⟩, .int .i64 0, .slice none 0 0] 24))
  have HF_w36 := Aside0.mk (Kd.F_alloc HF_w35.out (.cells #[.int .i64 1, .string ⟨#[]⟩, .int .i64 0, .slice (some ⟨g8, 0, none⟩) 2 2, .int .i64 1, .string ⟨#[]⟩, .int .i64 0, .slice none 0 0] 24))
  have H8_w36 := Aside0.mk (Kd.F_alloc H8_w35.out (.cells #[.int .i64 1, .string ⟨#[]⟩, .int .i64 0, .slice (some ⟨g8, 0, none⟩) 2 2, .int .i64 1, .string ⟨#[]⟩, .int .i64 0, .slice none 0 0] 24))
  have HB_w36 := Aside0.mk (below_alloc HB_w35.out (.cells #[.int .i64 1, .string ⟨#[]⟩, .int .i64 0, .slice (some ⟨g8, 0, none⟩) 2 2, .int .i64 1, .string ⟨#[]⟩, .int .i64 0, .slice none 0 0] 24))
  clear HZ_w35 HA_w35 HC_w35 HF_w35 H8_w35 HB_w35
  generalize (w35.alloc (.cells #[.int .i64 1, .string ⟨#[]⟩, .int .i64 0, .slice (some ⟨g8, 0, none⟩) 2 2, .int .i64 1, .string ⟨#[]⟩, .int .i64 0, .slice none 0 0] 24)) = w36 at HZ_w36 HA_w36 HC_w36 HF_w36 H8_w36 H12_w36 HB_w36 hHeld ⊢
  generalize w35.heap.size = g12 at H12_w36  ⊢
  refine pure_ (i := 13) (N := some 40) (v := ?_) (a' := ?_) #[true, true, true, true, true, true, true, true, true, true, true, true, true, true, false, false, false, false, false] rfl rfl (any_of HT_.out (by kernel_rfl)) (fun _ _ _ h => h) (Or.inl ⟨by rfl, ?_⟩) ?_ ?_
  rotate_left
  · intro w'
    go_simp
    with_reducible rfl
  rotate_left
  · simp only [Act.put, List.setIfInBounds_toArray, List.set_cons_zero, List.set_cons_succ, i64_w, i32_w]
    rfl
  refine one_ (i := 14) (N := some 41) #[true, true, true, true, true, true, true, true, true, true, true, true, true, true, true, false, false, false, false] rfl rfl (one_of HT_.out (by kernel_rfl)) (by decide) (fun K hK => ?_)
  refine value_ (v := .slice (some ⟨w36.heap.size, 0, none⟩) 1 1) (w1 := (w36.alloc (.cells #[.int .i64 5, .string ⟨#[]⟩, .int .i64 0, .slice (some ⟨g12, 0, none⟩) 2 2] 24))) (by rfl) rfl ?_ ?_
  · go_simp
  refine hK.out _ _ ⟨blk_cell (blk_allocO HZ_w36.out _) 0, blk_cell (blk_allocO HZ_w36.out _) 1, blk_cell (blk_allocO HZ_w36.out _) 2, blk_cell (blk_allocO HZ_w36.out _) 3, blk_cell (blk_allocO HA_w36.out _) 0, blk_cell (blk_allocO HA_w36.out _) 1, blk_cell (blk_allocO HA_w36.out _) 2, blk_cell (blk_allocO HA_w36.out _) 3, blk_cell (blk_allocO HC_w36.out _) 0, blk_cell (blk_allocO HC_w36.out _) 1, blk_cell (blk_allocO HC_w36.out _) 2, blk_cell (blk_allocO HC_w36.out _) 3⟩ (fun hHeld => ?_)
  clear hK K
  refine norm_ (a' := ?_) ?_ ?_
  rotate_left
  · show Act.put _ (some 41) _ = _
    simp only [Act.put, List.setIfInBounds_toArray, List.set_cons_zero, List.set_cons_succ, i64_w, i32_w]
    rfl
  have H14_w37 : Aside0 (Kd.F k24 (w36.alloc (.cells #[.int .i64 5, .string ⟨#[]⟩, .int .i64 0, .slice (some ⟨g12, 0, none⟩) 2 2] 24)) (fun _ => True) (some ⟨w36.heap.size, 0, none⟩) 1 treeOut.f3) := ⟨Kd.F_mono (oneF (W := w36) (x := ⟨5, ⟨#[]⟩, 0, [treeIn, nodeR]⟩) (A3 := some ⟨g12, 0, none⟩) (c3 := 2) (ok := fun _ => True) (Nat.le_refl _) H12_w36.out) (fun _ _ => trivial)⟩
  have HZ_w37 := Aside0.mk (blk_allocO HZ_w36.out (.cells #[.int .i64 5, .string ⟨#[]⟩, .int .i64 0, .slice (some ⟨g12, 0, none⟩) 2 2] 24))
  have HA_w37 := Aside0.mk (blk_allocO HA_w36.out (.cells #[.int .i64 5, .string ⟨#[]⟩, .int .i64 0, .slice (some ⟨g12, 0, none⟩) 2 2] 24))
  have HC_w37 := Aside0.mk (blk_allocO HC_w36.out (.cells #[.int .i64 5, .string ⟨#[]⟩, .int .i64 0, .slice (some ⟨g12, 0, none⟩) 2 2] 24))
  have HF_w37 := Aside0.mk (Kd.F_alloc HF_w36.out (.cells #[.int .i64 5, .string ⟨#[]⟩, .int .i64 0, .slice (some ⟨g12, 0, none⟩) 2 2] 24))
  have H8_w37 := Aside0.mk (Kd.F_alloc H8_w36.out (.cells #[.int .i64 5, .string ⟨#[]⟩, .int .i64 0, .slice (some ⟨g12, 0, none⟩) 2 2] 24))
  have H12_w37 := Aside0.mk (Kd.F_alloc H12_w36.out (.cells #[.int .i64 5, .string ⟨#[]⟩, .int .i64 0, .slice (some ⟨g12, 0, none⟩) 2 2] 24))
  have HB_w37 := Aside0.mk (below_alloc HB_w36.out (.cells #[.int .i64 5, .string ⟨#[]⟩, .int .i64 0, .slice (some ⟨g12, 0, none⟩) 2 2] 24))
  clear HZ_w36 HA_w36 HC_w36 HF_w36 H8_w36 H12_w36 HB_w36
  generalize (w36.alloc (.cells #[.int .i64 5, .string ⟨#[]⟩, .int .i64 0, .slice (some ⟨g12, 0, none⟩) 2 2] 24)) = w37 at HZ_w37 HA_w37 HC_w37 HF_w37 H8_w37 H12_w37 H14_w37 HB_w37 hHeld ⊢
  generalize w36.heap.size = g14 at H14_w37  ⊢
  refine one_ (i := 15) (N := some 42) #[true, true, true, true, true, true, true, true, true, true, true, true, true, true, true, true, false, false, false] rfl rfl (one_of HT_.out (by kernel_rfl)) (by decide) (fun K hK => ?_)
  refine call_ 24 #[.slice (some ⟨g14, 0, none⟩) 1 1] (by rfl) rfl (by have he_ := fun W_ => enters_ Tryd.func24 (by kernel_rfl) rfl #[.slice (some ⟨g14, 0, none⟩) 1 1] W_; unfold execOp; simp [resolve, Deferred.ofValue, invoke, Act.eval, he_]) ?_
  refine (awakeRow_any 1 (some ⟨g14, 0, none⟩) 1 w37).mono ?_
  rintro e w38 ⟨rfl, hb⟩
  have HZ_w38 := Aside0.mk (blk_on HZ_w37.out hb)
  have HA_w38 := Aside0.mk (blk_on HA_w37.out hb)
  have HC_w38 := Aside0.mk (blk_on HC_w37.out hb)
  have HF_w38 := Aside0.mk (Kd.F_below HF_w37.out hb)
  have H8_w38 := Aside0.mk (Kd.F_below H8_w37.out hb)
  have H12_w38 := Aside0.mk (Kd.F_below H12_w37.out hb)
  have H14_w38 := Aside0.mk (Kd.F_below H14_w37.out hb)
  have HB_w38 := Aside0.mk (below_then HB_w37.out HB_w37.out.size hb)
  clear hb hHeld HZ_w37 HA_w37 HC_w37 HF_w37 H8_w37 H12_w37 H14_w37 HB_w37
  refine ⟨_, rfl, ?_⟩
  refine hK.out _ _ ⟨blk_cell HZ_w38.out 0, blk_cell HZ_w38.out 1, blk_cell HZ_w38.out 2, blk_cell HZ_w38.out 3, blk_cell HA_w38.out 0, blk_cell HA_w38.out 1, blk_cell HA_w38.out 2, blk_cell HA_w38.out 3, blk_cell HC_w38.out 0, blk_cell HC_w38.out 1, blk_cell HC_w38.out 2, blk_cell HC_w38.out 3⟩ (fun hHeld => ?_)
  clear hK K
  refine norm_ (a' := ?_) ?_ ?_
  rotate_left
  · show Act.put _ (some 42) _ = _
    simp only [Act.put, List.setIfInBounds_toArray, List.set_cons_zero, List.set_cons_succ, i64_w, i32_w]
    rfl
  refine one_ (i := 16) (N := some 43) #[true, true, true, true, true, true, true, true, true, true, true, true, true, true, true, true, true, false, false] rfl rfl (one_of HT_.out (by kernel_rfl)) (by decide) (fun K hK => ?_)
  refine goes_ Tryd.func15 (by kernel_rfl) rfl #[.agg #[.int .i64 1, .string ⟨#[]⟩, .int .i64 0, .slice A9 1 c9], .agg #[.int .i64 1, .string ⟨#[]⟩, .int .i64 0, .slice (some ⟨g14, 0, none⟩) 1 1]] (by rfl) rfl rfl (by (try simp only [List.map_toArray, List.map_cons, List.map_nil]); first | done | rfl | (simp only [List.length_drop, List.length_take]; rfl)) ?_
  refine (HEQ A9 g14 c9 w38 HL.out (Kd.F_now HF_w38.out) (Kd.F_now H14_w38.out)).mono ?_
  rintro e w39 ⟨rfl, hb⟩
  have HZ_w39 := Aside0.mk (blk_on HZ_w38.out hb)
  have HA_w39 := Aside0.mk (blk_on HA_w38.out hb)
  have HC_w39 := Aside0.mk (blk_on HC_w38.out hb)
  have HF_w39 := Aside0.mk (Kd.F_below HF_w38.out hb)
  have H8_w39 := Aside0.mk (Kd.F_below H8_w38.out hb)
  have H12_w39 := Aside0.mk (Kd.F_below H12_w38.out hb)
  have H14_w39 := Aside0.mk (Kd.F_below H14_w38.out hb)
  have HB_w39 := Aside0.mk (below_then HB_w38.out HB_w38.out.size hb)
  clear hb hHeld HZ_w38 HA_w38 HC_w38 HF_w38 H8_w38 H12_w38 H14_w38 HB_w38
  refine ⟨_, rfl, ?_⟩
  refine hK.out _ _ ⟨blk_cell HZ_w39.out 0, blk_cell HZ_w39.out 1, blk_cell HZ_w39.out 2, blk_cell HZ_w39.out 3, blk_cell HA_w39.out 0, blk_cell HA_w39.out 1, blk_cell HA_w39.out 2, blk_cell HA_w39.out 3, blk_cell HC_w39.out 0, blk_cell HC_w39.out 1, blk_cell HC_w39.out 2, blk_cell HC_w39.out 3⟩ (fun hHeld => ?_)
  clear hK K
  refine norm_ (a' := ?_) ?_ ?_
  rotate_left
  · show Act.put _ (some 43) _ = _
    simp only [Act.put, List.setIfInBounds_toArray, List.set_cons_zero, List.set_cons_succ, i64_w, i32_w]
    rfl
  refine pure_ (i := 17) (N := some 44) (v := ?_) (a' := ?_) #[true, true, true, true, true, true, true, true, true, true, true, true, true, true, true, true, true, true, false] rfl rfl (any_of HT_.out (by kernel_rfl)) (fun _ _ _ h => h) (Or.inl ⟨by rfl, ?_⟩) ?_ ?_
  rotate_left
  · intro w'
    go_simp
    with_reducible rfl
  rotate_left
  · simp only [Act.put, List.setIfInBounds_toArray, List.set_cons_zero, List.set_cons_succ, i64_w, i32_w]
    rfl
  refine pure_ (i := 18) (N := some 0) (v := ?_) (a' := ?_) #[true, true, true, true, true, true, true, true, true, true, true, true, true, true, true, true, true, true, true] rfl rfl (any_of HT_.out (by kernel_rfl)) (fun _ _ _ h => h) (Or.inl ⟨by rfl, ?_⟩) ?_ ?_
  rotate_left
  · intro w'
    go_simp
    with_reducible rfl
  rotate_left
  · simp only [Act.put, List.setIfInBounds_toArray, List.set_cons_zero, List.set_cons_succ, i64_w, i32_w]
    rfl
  refine done_ (done_of HT_.out (by kernel_rfl)) ?_
  try go_wp2
  go_ret
  exact ⟨rfl, HB_w39.out⟩
def vinculumlaw12_awake.f : Option Bool := some true
theorem vinculumlaw12_awake.calls (r : Bool) (w : World) (h : vinculumlaw12_awake.f = some r) : Calls Tryd.prog 9 #[] w fun e w' => e = .returned (.bool r) ∧ Below w.heap.size w w' := by
  injection h with h
  subst h
  exact awake_any w
end Go.Proofs.YtgcpfelccfnnbaaDoor.X
