/-
Part 28 of the texts of this proof: the walks through the program's functions.
-/
import Derived.Test.YtgcpfelccfnnbaaDoorMCounts2
import Derived.Test.YtgcpfelccfnnbaaDoorMCounts21
import Derived.Test.YtgcpfelccfnnbaaDoorMCounts22
import Derived.Test.YtgcpfelccfnnbaaDoorMCounts23
import Derived.Test.YtgcpfelccfnnbaaDoorMCounts27
namespace Go.Proofs.YtgcpfelccfnnbaaDoor.X
open Go.RowKit Go.Proofs.YtgcpfelccfnnbaaDoorW.PrintWords Go.Proofs.YtgcpfelccfnnbaaDoorW.PrintLast Go.Proofs.YtgcpfelccfnnbaaDoorW.PrintMore
attribute [local go_sem] max2_int min2_int max_two min_two max_three min_three max_four min_four   -- for this text's walks alone
set_option linter.unusedVariables false
set_option linter.unusedSimpArgs false
def set8 (W : World) (g : Nat) (a b c d e f h i : Value) : World := (((((((W.setCell ⟨g, 0, none⟩ a).setCell ⟨g, 1, none⟩ b).setCell ⟨g, 2, none⟩ c).setCell ⟨g, 3, none⟩ d).setCell ⟨g, 4, none⟩ e).setCell ⟨g, 5, none⟩ f).setCell ⟨g, 6, none⟩ h).setCell ⟨g, 7, none⟩ i
theorem blk_put8 {W : World} {g : Nat} {t : TypeId} {z0 z1 z2 z3 z4 z5 z6 z7 a b c d e f h i : Value} (hb : W.heap[g]? = some (.cells #[z0, z1, z2, z3, z4, z5, z6, z7] t (0, 0))) : (set8 W g a b c d e f h i).heap[g]? = some (.cells #[a, b, c, d, e, f, h, i] t (0, 0)) := by
  unfold set8
  refine blk_put (cs := #[a, b, c, d, e, f, h, z7]) ?_ 7 _ rfl
  refine blk_put (cs := #[a, b, c, d, e, f, z6, z7]) ?_ 6 _ rfl
  refine blk_put (cs := #[a, b, c, d, e, z5, z6, z7]) ?_ 5 _ rfl
  refine blk_put (cs := #[a, b, c, d, z4, z5, z6, z7]) ?_ 4 _ rfl
  refine blk_put (cs := #[a, b, c, z3, z4, z5, z6, z7]) ?_ 3 _ rfl
  refine blk_put (cs := #[a, b, z2, z3, z4, z5, z6, z7]) ?_ 2 _ rfl
  refine blk_put (cs := #[a, z1, z2, z3, z4, z5, z6, z7]) ?_ 1 _ rfl
  exact blk_put (cs := #[z0, z1, z2, z3, z4, z5, z6, z7]) hb 0 _ rfl
theorem below_set8 {B : Nat} {w W : World} {g : Nat} {a b c d e f h' i : Value} (h : Below B w W) (hg : B ≤ g) : Below B w (set8 W g a b c d e f h' i) := (((((((h.setCell hg _).setCell hg _).setCell hg _).setCell hg _).setCell hg _).setCell hg _).setCell hg _).setCell hg _
theorem heap_set8 {W : World} {g k : Nat} {a b c d e f h i : Value} (hk : k ≠ g) : (set8 W g a b c d e f h i).heap[k]? = W.heap[k]? := by
  unfold set8
  rw [Below.heap_setCell _ _ _ _ hk, Below.heap_setCell _ _ _ _ hk, Below.heap_setCell _ _ _ _ hk, Below.heap_setCell _ _ _ _ hk, Below.heap_setCell _ _ _ _ hk, Below.heap_setCell _ _ _ _ hk, Below.heap_setCell _ _ _ _ hk, Below.heap_setCell _ _ _ _ hk]
def zero8 : Obj := .cells #[.int .i64 0, .slice none 0 0, .int .i64 0, .int .i64 0, .slice none 0 0, .int .i64 0, .string ⟨#[]⟩, .string ⟨#[]⟩] 27 (0, 0)
/-- What holds at the head of a round of the loop over the operation's items. -/
def CpRel (w : World) (o : S27) (P : Nat → Prop) (VR : Value) (A1 : Option Addr) (c1 : Nat) (wr : World) : Prop :=
  Below w.heap.size w wr ∧ wr.heap[w.heap.size]? = some (.cells #[.int .i64 o.f0, VR, .int .i64 o.f2, .int .i64 o.f3, .slice A1 o.f4.length c1, .int .i64 o.f5, .string o.f6, .string o.f7] 27 (0, 0)) ∧ wr.heap[w.heap.size + 1]? = some zero8 ∧
  (Kd.int .i64).R 3 wr w.heap.size (fun k => w.heap.size + 2 ≤ k) VR o.f1 ∧ Kd.N k24 24 wr w.heap.size (fun k => ((P k ∧ k < w.heap.size) ∨ w.heap.size + 2 ≤ k) ∧ some k ≠ VR.ownBlock) (.slice A1 o.f4.length c1) o.f4
theorem copiedFacts1 {w w1 : World} {a b c d e f h i : Value} {v : Value} {l : List Int} (hB : Below ((w.alloc (.cells #[a, b, c, d, e, f, h, i] 27)).alloc zero8).heap.size ((w.alloc (.cells #[a, b, c, d, e, f, h, i] 27)).alloc zero8) w1) (hV : (Kd.int .i64).R 3 w1 ((w.alloc (.cells #[a, b, c, d, e, f, h, i] 27)).alloc zero8).heap.size (fun k => ((w.alloc (.cells #[a, b, c, d, e, f, h, i] 27)).alloc zero8).heap.size ≤ k) v l) :
    Aside0 (w1.heap[w.heap.size]? = some (.cells #[a, b, c, d, e, f, h, i] 27 (0, 0))) ∧ Aside0 (w1.heap[w.heap.size + 1]? = some zero8) ∧ Aside0 (Below w.heap.size w w1) ∧ Aside0 ((Kd.int .i64).R 3 w1 w.heap.size (fun k => w.heap.size + 2 ≤ k) v l) := by
  have hB0 : Below w.heap.size w ((w.alloc (.cells #[a, b, c, d, e, f, h, i] 27)).alloc zero8) := below_alloc (below_alloc (Below.refl _ _) _) _
  refine ⟨⟨(hB.block w.heap.size (by rw [size_alloc2]; omega)).trans (alloc2_fst _ _ _)⟩, ⟨(hB.block (w.heap.size + 1) (by rw [size_alloc2]; omega)).trans (alloc2_snd _ _ _)⟩, ⟨below_then hB0 hB0.size hB⟩, ⟨?_⟩⟩
  rw [size_alloc2] at hV
  exact Kd.R_lower hV (by omega)
theorem copiedFacts2 {w w1 w2 : World} {a c d e f h i : Value} {b b' v : Value} {P : Nat → Prop} {l : List Int} {xs : List S24} (HX : w1.heap[w.heap.size]? = some (.cells #[a, b, c, d, e, f, h, i] 27 (0, 0))) (HY : w1.heap[w.heap.size + 1]? = some zero8) (HB : Below w.heap.size w w1) (HV : (Kd.int .i64).R 3 w1 w.heap.size (fun k => w.heap.size + 2 ≤ k) b' l)
    (hB : Below (w1.setCell ⟨w.heap.size, 1, none⟩ b').heap.size (w1.setCell ⟨w.heap.size, 1, none⟩ b') w2) (hH : (held k24 (w1.setCell ⟨w.heap.size, 1, none⟩ b') (fun k => P k ∧ k < w.heap.size)).R 24 w2 (w1.setCell ⟨w.heap.size, 1, none⟩ b').heap.size (fun k => (w1.setCell ⟨w.heap.size, 1, none⟩ b').heap.size ≤ k) v xs) :
    Aside0 (w2.heap[w.heap.size]? = some (.cells #[a, b', c, d, e, f, h, i] 27 (0, 0))) ∧ Aside0 (w2.heap[w.heap.size + 1]? = some zero8) ∧ Aside0 (Below w.heap.size w w2) ∧ Aside0 ((Kd.int .i64).R 3 w2 w.heap.size (fun k => w.heap.size + 2 ≤ k) b' l) ∧
    Aside0 (Kd.N k24 24 w2 w.heap.size (fun k => ((P k ∧ k < w.heap.size) ∨ w.heap.size + 2 ≤ k) ∧ some k ≠ b'.ownBlock) v xs) := by
  have hz : (w1.setCell ⟨w.heap.size, 1, none⟩ b').heap.size = w1.heap.size := by simp [World.setCell]
  have hB0 : Below w.heap.size w (w1.setCell ⟨w.heap.size, 1, none⟩ b') := HB.setCell (Nat.le_refl _) _
  have hlt := blk_lt HX
  have hlt2 := blk_lt HY
  have hVl := Kd.R_lt HV
  refine ⟨⟨(hB.block _ (by rw [hz]; exact hlt)).trans (blk_put HX 1 _ rfl)⟩, ⟨(hB.block _ (by rw [hz]; exact hlt2)).trans ?_⟩, ⟨below_then hB0 hB0.size hB⟩, ⟨?_⟩, ⟨?_⟩⟩
  · rw [Below.heap_setCell _ _ _ _ (by show w.heap.size + 1 ≠ w.heap.size; omega)]; exact HY
  · exact Kd.R_below (Kd.R_far HV (fun k hk => by show k ≠ w.heap.size; omega) _) hB
  · have h9 := held_N (ok' := fun k => ((P k ∧ k < w.heap.size) ∨ w.heap.size + 2 ≤ k) ∧ some k ≠ b'.ownBlock) hH hB (fun k hk => hk) (fun k hk => ?_) (fun k hk => ⟨.inl hk, fun he => ?_⟩)
    · exact Kd.N_lower h9 hB0.size
    · rw [hz] at hk
      exact ⟨.inr (by omega), fun he => by have := hVl k he.symm; omega⟩
    · have := HV.1 k he.symm
      have := hk.2
      omega
theorem CpRel_drew {w wr : World} {o : S27} {P : Nat → Prop} {VR : Value} {A1 : Option Addr} {c1 : Nat} (h : CpRel w o P VR A1 c1 wr) : CpRel w o P VR A1 c1 wr.drew := by
  obtain ⟨hB, hb, hr, hR, hN⟩ := h
  exact ⟨below_drew hB, hb, hr, Kd.R_drew hR, Kd.N_drew hN⟩
theorem CpRel_step {w w2 w3 : World} {o : S27} {P : Nat → Prop} {VR : Value} {g c1 i : Nat} {v : Value} (h : CpRel w o P VR (some ⟨g, 0, none⟩) c1 w2) (hi : i < o.f4.length) (hb : Below w2.heap.size w2 w3)
    (hv : Kd.R k24 24 w3 w2.heap.size (fun k => w2.heap.size ≤ k) v (nth o.f4 i).f3) :
    CpRel w o P VR (some ⟨g, 0, none⟩) c1 (w3.setCells g (i * 4) [.int .i64 (nth o.f4 i).f0, .string (nth o.f4 i).f1, .int .i64 (nth o.f4 i).f2, v]) := by
  obtain ⟨hB, hbk, hr, hR, hN⟩ := h
  have hgo : (Value.slice (some ⟨g, 0, none⟩) o.f4.length c1).ownBlock = some g := by simp [Value.ownBlock]
  have hg1 := hN.1 g hgo
  have hg2 := Kd.N_base hN g hgo
  have hg3 := Kd.N_lt hN g hgo
  have hg4 : w.heap.size + 2 ≤ g := by rcases hg1.1 with h | h <;> omega
  have hsz := hb.size
  have hB3 : Below w.heap.size w w3 := below_then hB hB.size hb
  obtain ⟨A3, c3, rfl⟩ := Kd.R_slice hv
  have hN3 := Kd.N_below hN hb
  obtain ⟨cs, hcl, hK, hcc, hfr⟩ := Kd.N_elem hN3 z24 (i : Int) (by omega) (by omega)
  simp only [Int.toNat_natCast] at hK hcc
  have hRlt := Kd.R_lt hR
  have hlen4 : cs.length = 4 := hcl
  have hseg := Kd.N_seg hN3 (i : Int) (by omega) (by omega) (c := cs) (seg := [.int .i64 (nth o.f4 i).f0, .string (nth o.f4 i).f1, .int .i64 (nth o.f4 i).f2, .slice A3 (nth o.f4 i).f3.length c3]) (j := 0) (x' := nth o.f4 i) (okp := fun k => w2.heap.size ≤ k) hcl (fun j u h => by simp only [Int.toNat_natCast]; exact hcc j u h) (by show 0 + 4 ≤ 4; omega)
    (by rw [List.take_zero, List.nil_append, List.drop_eq_nil_of_le (by show cs.length ≤ 0 + 4; omega), List.append_nil]; exact k24_mkF _ _ (nth o.f4 i) (Kd.R_reads' hv).2.1 (Kd.R_F hv))
    (fun k hk => ⟨⟨.inr (by omega), fun he => by have := hRlt k he.symm; omega⟩, by omega⟩)
  simp only [Int.toNat_natCast, Nat.add_zero] at hseg
  obtain ⟨hset, hgrow⟩ := hseg
  have hls : o.f4.set i (nth o.f4 i) = o.f4 := by
    apply List.ext_getElem?
    intro j
    rw [List.getElem?_set]
    split
    · rename_i h; subst h; exact (nth_some hi).symm
    · rfl
  rw [hls] at hset
  have hfar : ∀ k, k < w3.heap.size → k ≠ g → (w3.setCells g (i * 4) [.int .i64 (nth o.f4 i).f0, .string (nth o.f4 i).f1, .int .i64 (nth o.f4 i).f2, .slice A3 (nth o.f4 i).f3.length c3]).heap[k]? = w3.heap[k]? := fun k hk hne => hgrow.block k hk (fun he => hne (by injection he))
  refine ⟨hB3.grown hgrow (by have := hB.size; omega) (fun k hk => by injection hk with hk; omega), ?_, ?_, ?_, hset⟩
  · rw [hfar _ (by omega) (by omega), hb.block _ (by omega)]; exact hbk
  · rw [hfar _ (by omega) (by omega), hb.block _ (by omega)]; exact hr
  · refine Kd.R_mono (Kd.R_step (Kd.R_below (Kd.R_tight2 rfl hR) hb) (fun k hk hlt => hfar k hlt (fun he => hg1.2 (by rw [← he]; exact hk.1)))) (fun k hk => hk.2)
def edit_copied.r6.T : Bool × List (List Nat × List Nat) := (true, [([], []), ([0], [0]), ([], []), ([], []), ([3], [3]), ([], []), ([4, 5], [4, 5]), ([6], [6]), ([7], [7]), ([1, 2, 0, 1, 2, 3, 4, 5, 6, 7, 8], [1, 2]), ([9, 8, 8, 0, 1, 2, 3, 4, 5, 6, 7, 8], [8, 9])])
def edit_copied.r6.B : List Nat := [0, 1, 0, 0, 8, 0, 56, 120, 248, 511, 1023]
theorem edit_copied.r6.tab : rtab .any (opsOf Tryd.f32 6) = edit_copied.r6.T := by kernel_rfl
theorem edit_copied.r6.bits : waitsOk edit_copied.r6.T.2 edit_copied.r6.B = true := by kernel_rfl
set_option maxRecDepth 100000 in
set_option maxHeartbeats 2000000 in
theorem copied_any (o : S27) (AR AN : Option Addr) (cR cN : Nat) (P : Nat → Prop) (w : World) (hcnt : cntL o.f4 < 1000000) (hl1 : o.f1.length * 8 ≤ 140737488355328) (hR : Kd.C (Kd.int .i64) w AR o.f1.length o.f1) (hN : Kd.F k24 w P AN o.f4.length o.f4) :
    Calls Tryd.prog 32 #[.agg #[.int .i64 o.f0, .slice AR o.f1.length cR, .int .i64 o.f2, .int .i64 o.f3, .slice AN o.f4.length cN, .int .i64 o.f5, .string o.f6, .string o.f7]] w fun e w' => ∃ v1 v4 : Value, e = .returned (.agg #[.int .i64 o.f0, v1, .int .i64 o.f2, .int .i64 o.f3, v4, .int .i64 o.f5, .string o.f6, .string o.f7]) ∧ (Kd.int .i64).R 3 w' w.heap.size (fun k => w.heap.size ≤ k) v1 o.f1 ∧ Kd.N k24 24 w' w.heap.size (fun k => (P k ∨ w.heap.size ≤ k) ∧ some k ≠ v1.ownBlock) v4 o.f4 ∧ Below w.heap.size w w' := by
  have hl4 : o.f4.length * 56 ≤ 140737488355328 := by have := cntL_len o.f4; omega
  have HP := Aside0.mk (Kd.F_bound hN)
  have HRR := Aside0.mk hR
  clear hN hR
  have HB2 : ∀ a b : Obj, Aside0 (Below w.heap.size w ((w.alloc a).alloc b)) := fun a b => ⟨below_alloc (below_alloc (Below.refl _ _) _) _⟩
  go_enter Tryd.func32, Tryd.ntmps32
  go_wp2_with (first
    | (go_at_call 53; go_loud (refine (slices_Clone_int_int.fresh AR cR o.f1 _ (Kd.C_below HRR.out (HB2 _ _).out) hl1).mono ?_; rintro e w1 ⟨VR, rfl, hV, hB1⟩; obtain ⟨AV, cV, rfl⟩ := Kd.R_slice hV; obtain ⟨HX, HY, HB3, HV⟩ := copiedFacts1 hB1 hV; clear hB1 hV; have x1 := blk_cell HX.out 1; have xz1 := blk_frozen HX.out 1; have x4 := blk_cell HX.out 4))
    | (go_at_call 54; go_loud (refine (api_Node_54.fresh (fun k => P k ∧ k < w.heap.size) AN cN o.f4 _ (Kd.F_far (Kd.F_step HP.out (fun k hk _ => HB3.out.block k hk.2)) (fun k hk => Nat.ne_of_lt hk.2) _) hl4).mono ?_; rintro e w2 ⟨VN, rfl, hH, hB1⟩; obtain ⟨A1, c1, rfl⟩ := Kd.R_slice hH; obtain ⟨HX2, HY2, HB4, HV2, HN2⟩ := copiedFacts2 HX.out HY.out HB3.out HV.out hB1 hH; clear hB1 hH x1 xz1 x4; have x4 := blk_cell HX2.out 4; have xz4 := blk_frozen HX2.out 4)))
  clear HX HY HB3 HV x4 xz4
  have HC0 : Aside0 (CpRel w o P (.slice AV o.f1.length cV) A1 c1 (w2.setCell ⟨w.heap.size, 4, none⟩ (.slice A1 o.f4.length c1))) := by
    refine ⟨HB4.out.setCell (Nat.le_refl _) _, blk_put HX2.out 4 _ rfl, ?_, Kd.R_far HV2.out (fun k hk => by show k ≠ w.heap.size; omega) _, Kd.N_far HN2.out (fun k hk => by show k ≠ w.heap.size; rcases hk.1 with h | h <;> omega) _⟩
    rw [Below.heap_setCell _ _ _ _ (by show w.heap.size + 1 ≠ w.heap.size; omega)]
    exact HY2.out
  clear HX2 HY2 HB4 HV2 HN2
  go_loopg [15] o.f4.length (fun kq v15 w' => ∃ i : Nat, v15 = .int .i64 i ∧ Aside0 (i + kq = o.f4.length) ∧ Aside0 (CpRel w o P (.slice AV o.f1.length cV) A1 c1 w'))
  case atStart => exact ⟨0, rfl, ⟨by omega⟩, HC0⟩
  case round =>
    clear HC0
    obtain ⟨i, rfl, HK, HR⟩ := hrel
    by_cases hlt : i < o.f4.length
    · obtain ⟨ad, g, c2, A3, c3, hv, Had, Hg, hc2, hl3, HF3, e0, e1, e2, e3, _, _, _, _⟩ := elemN HR.out.2.2.2.2 hlt
      injection hv with hv1 hv2 hv3
      subst hv1
      subst hv3
      have b3 : wr.cell? ⟨w.heap.size, 4, none⟩ = some (.slice (some ad) o.f4.length c1) := blk_cell HR.out.2.1 4
      have Hcells := HK
      go_wp2
      refine start_ (n := 11) (S := fun w' => w'.cell? ⟨w.heap.size, 4, none⟩ = some (.slice (some ad) o.f4.length c1) ∧ w'.cell? (ad.add (i * 4)) = some (.int .i64 (nth o.f4 i).f0) ∧ w'.cell? ⟨(ad.add (i * 4)).block, (ad.add (i * 4)).off + 1, none⟩ = some (.string (nth o.f4 i).f1) ∧ w'.cell? ⟨(ad.add (i * 4)).block, (ad.add (i * 4)).off + 2, none⟩ = some (.int .i64 (nth o.f4 i).f2) ∧ w'.cell? ⟨(ad.add (i * 4)).block, (ad.add (i * 4)).off + 3, none⟩ = some (.slice A3 (nth o.f4 i).f3.length c3)) (ds := [10]) #[false, false, false, false, false, false, false, false, false, false, false] (by kernel_rfl) rfl rfl ⟨b3, e0, e1, e2, e3⟩ (fun hHeld => ?_); refine with_tabW edit_copied.r6.tab edit_copied.r6.bits (fun HT_ HW_ => ?_)
      have HR2 : Aside0 (CpRel w o P (.slice AV o.f1.length cV) (some ad) c1 wr.drew) := ⟨CpRel_drew HR.out⟩
      clear HR b3 e0 e1 e2 e3 Hcells
      generalize hw2 : wr.drew = w2 at HR2 hHeld ⊢
      refine pure_ (i := 0) (N := some 18) (v := ?_) (a' := ?_) #[true, false, false, false, false, false, false, false, false, false, false] rfl rfl (any_of HT_.out (by kernel_rfl)) (fun _ _ _ h => h) (Or.inl ⟨by rfl, ?_⟩) ?_ ?_
      rotate_left
      · intro w'
        go_simp
        with_reducible rfl
      rotate_left
      · simp only [Act.put, List.setIfInBounds_toArray, List.set_cons_zero, List.set_cons_succ, i64_w, i32_w]
        rfl
      refine pure_ (i := 2) (N := some 20) (v := ?_) (a' := ?_) #[true, false, true, false, false, false, false, false, false, false, false] rfl rfl (any_of HT_.out (by kernel_rfl)) (fun _ _ _ h => h) (Or.inl ⟨by rfl, ?_⟩) ?_ ?_
      rotate_left
      · intro w'
        go_simp
        with_reducible rfl
      rotate_left
      · simp only [Act.put, List.setIfInBounds_toArray, List.set_cons_zero, List.set_cons_succ, i64_w, i32_w]
        rfl
      refine pure_ (i := 3) (N := some 21) (v := ?_) (a' := ?_) #[true, false, true, true, false, false, false, false, false, false, false] rfl rfl (any_of HT_.out (by kernel_rfl)) (fun _ _ _ h => h) (Or.inl ⟨by rfl, ?_⟩) ?_ ?_
      rotate_left
      · intro w'
        go_simp
        with_reducible rfl
      rotate_left
      · simp only [Act.put, List.setIfInBounds_toArray, List.set_cons_zero, List.set_cons_succ, i64_w, i32_w]
        rfl
      refine pure_ (i := 5) (N := some 23) (v := ?_) (a' := ?_) #[true, false, true, true, false, true, false, false, false, false, false] rfl rfl (any_of HT_.out (by kernel_rfl)) (fun _ _ _ h => h) (Or.inl ⟨by rfl, ?_⟩) ?_ ?_
      rotate_left
      · intro w'
        go_simp
        with_reducible rfl
      rotate_left
      · simp only [Act.put, List.setIfInBounds_toArray, List.set_cons_zero, List.set_cons_succ, i64_w, i32_w]
        rfl
      refine take_ (i := 1) (N := some 19) (v := ?_) (a' := ?_) #[true, true, true, true, false, true, false, false, false, false, false] rfl rfl (take_ofW HT_.out HW_.out (by kernel_rfl)) (fun _ _ _ h => h) (Or.inl ⟨by rfl, ?_⟩) hHeld ?_ ?_
      rotate_left
      · rintro w' ⟨s3, t0, t1, t2, t3⟩
        go_simp
        with_reducible rfl
      rotate_left
      · simp only [Act.put, List.setIfInBounds_toArray, List.set_cons_zero, List.set_cons_succ, i64_w, i32_w]
        rfl
      refine take_ (i := 4) (N := some 22) (v := ?_) (a' := ?_) #[true, true, true, true, true, true, false, false, false, false, false] rfl rfl (take_ofW HT_.out HW_.out (by kernel_rfl)) (fun _ _ _ h => h) (Or.inl ⟨by rfl, ?_⟩) hHeld ?_ ?_
      rotate_left
      · rintro w' ⟨s3, t0, t1, t2, t3⟩
        go_simp
        with_reducible rfl
      rotate_left
      · simp only [Act.put, List.setIfInBounds_toArray, List.set_cons_zero, List.set_cons_succ, i64_w, i32_w]
        rfl
      refine pure_ (i := 6) (N := some 24) (v := ?_) (a' := ?_) #[true, true, true, true, true, true, true, false, false, false, false] rfl rfl (any_of HT_.out (by kernel_rfl)) (fun _ _ _ h => h) (Or.inl ⟨by rfl, ?_⟩) ?_ ?_
      rotate_left
      · intro w'
        go_simp
        with_reducible rfl
      rotate_left
      · simp only [Act.put, List.setIfInBounds_toArray, List.set_cons_zero, List.set_cons_succ, i64_w, i32_w]
        rfl
      refine take_ (i := 7) (N := some 25) (v := ?_) (a' := ?_) #[true, true, true, true, true, true, true, true, false, false, false] rfl rfl (take_ofW HT_.out HW_.out (by kernel_rfl)) (fun _ _ _ h => h) (Or.inl ⟨by rfl, ?_⟩) hHeld ?_ ?_
      rotate_left
      · rintro w' ⟨s3, t0, t1, t2, t3⟩
        go_simp
        with_reducible rfl
      rotate_left
      · simp only [Act.put, List.setIfInBounds_toArray, List.set_cons_zero, List.set_cons_succ, i64_w, i32_w]
        rfl
      refine one_ (i := 8) (N := some 26) #[true, true, true, true, true, true, true, true, true, false, false] rfl rfl (one_of HT_.out (by kernel_rfl)) (by decide) (fun K hK => ?_)
      refine goes_ Tryd.func37 (by kernel_rfl) rfl #[.agg #[.int .i64 (nth o.f4 i).f0, .string (nth o.f4 i).f1, .int .i64 (nth o.f4 i).f2, .slice A3 (nth o.f4 i).f3.length c3]] (by rfl) rfl rfl (by (try simp only [List.map_toArray, List.map_cons, List.map_nil]); first | done | rfl | (simp only [List.length_drop, List.length_take]; rfl)) ?_
      have hcg := cntL_get (l := o.f4) (j := i) (x := nth o.f4 i) (nth_some hlt)
      with_reducible refine (edit_clone.fresh 1000000 (nth o.f4 i) A3 c3 w2 (by omega) (by omega) hl3 ?hC).mono ?_
      (case hC => exact Kd.C_below (Kd.F_now HF3.out) (by rw [← hw2]; exact below_drew (Below.refl _ _)))
      rintro e w3 ⟨v, rfl, hv, hb⟩
      refine ⟨_, rfl, ?_⟩
      obtain ⟨rfl⟩ := Had
      have hcells : ∃ cells, w3.heap[g]? = some (.cells cells 24 (0, 0)) := by
        obtain ⟨cells, hcs⟩ := Kd.N_typed HR2.out.2.2.2.2 g (by simp [Value.ownBlock])
        exact ⟨cells, (hb.block _ (blk_lt hcs)).trans hcs⟩
      obtain ⟨cells, hcells⟩ := hcells
      have z0 : w3.frozen? ⟨g, i * 4, none⟩ = false := blk_frozen hcells _
      have z1 : w3.frozen? ⟨g, i * 4 + 1, none⟩ = false := blk_frozen hcells _
      have z2 : w3.frozen? ⟨g, i * 4 + 2, none⟩ = false := blk_frozen hcells _
      have z3 : w3.frozen? ⟨g, i * 4 + 3, none⟩ = false := blk_frozen hcells _
      have HH := hHeld
      simp only [add_plain] at HH
      obtain ⟨b3, e0, e1, e2, e3⟩ := HH
      have hc := fun {a : Addr} {u : Value} (h : w2.cell? a = some u) => (hb.cell (World.block_lt_of_cell? _ _ h)).trans h
      replace b3 := hc b3
      replace e0 := hc e0
      replace e1 := hc e1
      replace e2 := hc e2
      replace e3 := hc e3
      have h5 := hc hHeld.2.1
      have h6 := hc hHeld.2.2.1
      have h7 := hc hHeld.2.2.2.1
      have h8 := hc hHeld.2.2.2.2
      clear hc
      have HN : Aside0 (CpRel w o P (.slice AV o.f1.length cV) (some ⟨g, 0, none⟩) c1 (w3.setCells g (i * 4) [.int .i64 (nth o.f4 i).f0, .string (nth o.f4 i).f1, .int .i64 (nth o.f4 i).f2, v])) := ⟨CpRel_step HR2.out hlt hb (Kd.S_R hv)⟩
      obtain ⟨A4, c4, rfl⟩ := Kd.R_slice (Kd.S_R hv)
      refine hK.out _ _ ⟨b3, h5, h6, h7, h8⟩ (fun hHeld => ?_)
      clear hK K hv hb hcells HR2 HF3 hw2
      refine norm_ (a' := ?_) ?_ ?_
      rotate_left
      · show Act.put _ (some 26) _ = _
        simp only [Act.put, List.setIfInBounds_toArray, List.set_cons_zero, List.set_cons_succ, i64_w, i32_w]
        rfl
      refine pure_ (i := 9) (N := some 27) (v := ?_) (a' := ?_) #[true, true, true, true, true, true, true, true, true, true, false] rfl rfl (any_of HT_.out (by kernel_rfl)) (fun _ _ _ h => h) (Or.inl ⟨by rfl, ?_⟩) ?_ ?_
      rotate_left
      · intro w'
        go_simp
        with_reducible rfl
      rotate_left
      · simp only [Act.put, List.setIfInBounds_toArray, List.set_cons_zero, List.set_cons_succ, i64_w, i32_w]
        rfl
      refine last_ (i := 10) (N := none) #[true, true, true, true, true, true, true, true, true, true, true] rfl rfl (one_of HT_.out (by kernel_rfl)) (by decide) (fun K hK => ?_)
      refine skip_ (w1 := ?_) (by rfl) rfl ?_ ?_
      rotate_left
      · go_simp
        rfl
      refine hK.out _ _ ?_
      clear hK K
      refine done_ (done_of HT_.out (by kernel_rfl)) ?_
      try go_wp2
      have hkp : ∃ k', gk = k' + 1 := ⟨gk - 1, by have := HK.out; omega⟩
      obtain ⟨k', rfl⟩ := hkp
      go_roundg k'
      case measure => omega
      case rel => exact ⟨i + 1, by go_num, ⟨by have := HK.out; omega⟩, HN⟩
    · have hil : i = o.f4.length := by have := HK.out; omega
      obtain ⟨hB, hb, hr, hRR, hN⟩ := HR.out
      have HHb := Aside0.mk hb
      have HHr := Aside0.mk hr
      have HHB := Aside0.mk hB
      have HHR := Aside0.mk hRR
      have HHN := Aside0.mk hN
      clear hB hb hr hRR hN HR hil
      have b0 := blk_cell HHb.out 0
      have b1 := blk_cell HHb.out 1
      have b2 := blk_cell HHb.out 2
      have b3 := blk_cell HHb.out 3
      have b4 := blk_cell HHb.out 4
      have b5 := blk_cell HHb.out 5
      have b6 := blk_cell HHb.out 6
      have b7 := blk_cell HHb.out 7
      have r0 := blk_cell HHr.out 0
      have r1 := blk_cell HHr.out 1
      have r2 := blk_cell HHr.out 2
      have r3 := blk_cell HHr.out 3
      have r4 := blk_cell HHr.out 4
      have r5 := blk_cell HHr.out 5
      have r6 := blk_cell HHr.out 6
      have r7 := blk_cell HHr.out 7
      have z0 := blk_frozen HHr.out 0
      have z1 := blk_frozen HHr.out 1
      have z2 := blk_frozen HHr.out 2
      have z3 := blk_frozen HHr.out 3
      have z4 := blk_frozen HHr.out 4
      have z5 := blk_frozen HHr.out 5
      have z6 := blk_frozen HHr.out 6
      have z7 := blk_frozen HHr.out 7
      go_wp2
      refine bodyPost_ret (results_cell_row rfl _ _ (w.heap.size + 1) 27 #[.int .i64 o.f0, .slice AV o.f1.length cV, .int .i64 o.f2, .int .i64 o.f3, .slice A1 o.f4.length c1, .int .i64 o.f5, .string o.f6, .string o.f7] (0, 0) _ rfl (blk_put8 HHr.out) Tryd.underlying27 rfl (by kernel_rfl)) rfl ?_
      exact ⟨_, _, rfl, Kd.R_mono (Kd.R_step HHR.out (fun k hk _ => heap_set8 (by omega))) (fun k hk => by omega), Kd.N_mono (Kd.N_step HHN.out (fun k hk _ => heap_set8 (by rcases hk.1 with h | h <;> omega))) (fun k hk => ⟨by rcases hk.1 with h | h; exact .inl h.1; exact .inr (by omega), hk.2⟩), below_set8 HHB.out (by omega)⟩
def edit_copied.f (a0_0 : Int) (l0_1 : List Int) (a0_2 : Int) (a0_3 : Int) (l0_4 : List S24) (a0_5 : Int) (a0_6 : ByteArray) (a0_7 : ByteArray) : Option (Int × List Int × Int × Int × (List S24) × Int × ByteArray × ByteArray) := if cntL l0_4 < 1000000 ∧ l0_1.length * 8 ≤ 140737488355328 then some (a0_0, l0_1, a0_2, a0_3, l0_4, a0_5, a0_6, a0_7) else none
theorem edit_copied.calls (a0_0 : Int) (A0_1 : Option Addr) (c0_1 : Nat) (l0_1 : List Int) (a0_2 : Int) (a0_3 : Int) (P0_4_ : Nat → Prop) (A0_4 : Option Addr) (c0_4 : Nat) (l0_4 : List S24) (a0_5 : Int) (a0_6 : ByteArray) (a0_7 : ByteArray) (r1 : Int) (r2 : List Int) (r3 : Int) (r4 : Int) (r5 : List S24) (r6 : Int) (r7 : ByteArray) (r8 : ByteArray) (w : World) (hr0_1 : Kd.C (Kd.int .i64) w A0_1 l0_1.length l0_1) (hc0_1 : l0_1.length ≤ c0_1) (hs0_4 : Kd.V k24 24 w w.heap.size (fun k_ => P0_4_ k_) (.slice A0_4 l0_4.length c0_4) l0_4) (h : edit_copied.f a0_0 l0_1 a0_2 a0_3 l0_4 a0_5 a0_6 a0_7 = some (r1, r2, r3, r4, r5, r6, r7, r8)) :
    Calls Tryd.prog 32 #[.agg #[.int .i64 a0_0, .slice A0_1 l0_1.length c0_1, .int .i64 a0_2, .int .i64 a0_3, .slice A0_4 l0_4.length c0_4, .int .i64 a0_5, .string a0_6, .string a0_7]] w fun e w' => ∃ v1_ v4_ : Value, e = .returned (.agg #[.int .i64 r1, v1_, .int .i64 r3, .int .i64 r4, v4_, .int .i64 r6, .string r7, .string r8]) ∧ Kd.R (Kd.int .i64) 3 w' w.heap.size (fun k_ => (w.heap.size ≤ k_)) v1_ r2 ∧ Kd.N k24 24 w' w.heap.size (fun k_ => (P0_4_ k_ ∨ w.heap.size ≤ k_) ∧ some k_ ≠ (v1_ : Value).ownBlock) v4_ r5 ∧ Below w.heap.size w w' := by
  unfold edit_copied.f at h
  split at h
  · rename_i hh
    simp only [Option.some.injEq, Prod.mk.injEq] at h
    obtain ⟨rfl, rfl, rfl, rfl, rfl, rfl, rfl, rfl⟩ := h
    exact copied_any ⟨a0_0, l0_1, a0_2, a0_3, l0_4, a0_5, a0_6, a0_7⟩ A0_1 A0_4 c0_1 c0_4 P0_4_ w hh.1 hh.2 hr0_1 (Kd.V_F hs0_4)
  · cases h
end Go.Proofs.YtgcpfelccfnnbaaDoor.X
