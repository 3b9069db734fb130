/-
Part 23 of the texts of this proof: the walks through the program's functions.
-/
import Derived.Test.YtgcpfelccfnnbaaDoorMCounts2
import Derived.Test.YtgcpfelccfnnbaaDoorMCounts18
import Derived.Test.YtgcpfelccfnnbaaDoorMCounts22
namespace Go.Proofs.YtgcpfelccfnnbaaDoor.X
open Go.RowKit Go.Proofs.YtgcpfelccfnnbaaDoorW.PrintWords Go.Proofs.YtgcpfelccfnnbaaDoorW.PrintLast Go.Proofs.YtgcpfelccfnnbaaDoorW.PrintMore
attribute [local go_sem] max2_int min2_int max_two min_two max_three min_three max_four min_four   -- for this text's walks alone
set_option linter.unusedVariables false
set_option linter.unusedSimpArgs false
/-- A row with other items in slot i. -/
def filledL (l : List S24) (i : Nat) (k : List S24) : List S24 := l.set i ⟨(nth l i).f0, (nth l i).f1, (nth l i).f2, k⟩
/-- An element of a row of one's own, the address a letter. -/
theorem elemN {wr : World} {l : List S24} {v : Value} {base i : Nat} {ok : Nat → Prop} (h : Kd.N k24 24 wr base ok v l) (hi : i < l.length) :
    ∃ ad g c A3 c3, v = .slice (some ad) l.length c ∧ Aside0 (ad = ⟨g, 0, none⟩) ∧ Aside0 (base ≤ g ∧ g < wr.heap.size) ∧ l.length ≤ c ∧ (nth l i).f3.length ≤ c3 ∧ Aside0 (Kd.F k24 wr (fun k => ok k ∧ k ≠ g) A3 (nth l i).f3.length (nth l i).f3) ∧
    wr.cell? (ad.add (i * 4)) = some (.int .i64 (nth l i).f0) ∧ wr.cell? ⟨(ad.add (i * 4)).block, (ad.add (i * 4)).off + 1, none⟩ = some (.string (nth l i).f1) ∧ wr.cell? ⟨(ad.add (i * 4)).block, (ad.add (i * 4)).off + 2, none⟩ = some (.int .i64 (nth l i).f2) ∧ wr.cell? ⟨(ad.add (i * 4)).block, (ad.add (i * 4)).off + 3, none⟩ = some (.slice A3 (nth l i).f3.length c3) ∧
    wr.frozen? (ad.add (i * 4)) = false ∧ wr.frozen? ⟨(ad.add (i * 4)).block, (ad.add (i * 4)).off + 1, none⟩ = false ∧ wr.frozen? ⟨(ad.add (i * 4)).block, (ad.add (i * 4)).off + 2, none⟩ = false ∧ wr.frozen? ⟨(ad.add (i * 4)).block, (ad.add (i * 4)).off + 3, none⟩ = false := by
  obtain ⟨A, c, rfl⟩ := Kd.N_slice h
  obtain ⟨g, cap, hg, hge, hgl, hcells⟩ := Kd.N_form h (by omega)
  injection hg with hg1 hg2 hg3
  subst hg1
  obtain ⟨cs, hcl, hK, hcc, hfr⟩ := Kd.N_elem h z24 (i : Int) (by omega) (by omega)
  simp only [Int.toNat_natCast] at hK hcc hfr
  obtain ⟨A3, c3, rfl, hl3, hF3⟩ := k24_openF hK
  have hnx : l.getD i z24 = nth l i := rfl
  rw [hnx] at hcc hl3 hF3
  have hc : l.length ≤ c := (Kd.N_reads' h).2.1
  exact ⟨⟨g, 0, none⟩, g, c, A3, c3, rfl, ⟨rfl⟩, ⟨⟨hge, hgl⟩⟩, hc, hl3, ⟨hF3⟩, by rw [add_plain]; exact hcc 0 _ rfl, by rw [add_plain]; exact hcc 1 _ rfl, by rw [add_plain]; exact hcc 2 _ rfl, by rw [add_plain]; exact hcc 3 _ rfl, by rw [add_plain]; exact hfr 0, by rw [add_plain]; exact hfr 1, by rw [add_plain]; exact hfr 2, by rw [add_plain]; exact hfr 3⟩
/-- Its slot is filled: the world, the row. -/
theorem N_fill {w : World} {l k : List S24} {ad : Addr} {c base i c1 : Nat} {A1 : Option Addr} {ok P : Nat → Prop} (h : Kd.N k24 24 w base ok (.slice (some ad) l.length c) l) (hi : i < l.length)
    (hc1 : k.length ≤ c1) (hF : Kd.F k24 w P A1 k.length k) (hP : ∀ k, P k → ok k ∧ k ≠ ad.block) :
    Kd.N k24 24 (w.setCell ⟨(ad.add (i * 4)).block, (ad.add (i * 4)).off + 3, none⟩ (.slice A1 k.length c1)) base ok (.slice (some ad) l.length c) (filledL l i k) := by
  obtain ⟨g, cap, hg, hge, hgl, hcells⟩ := Kd.N_form h (by omega)
  injection hg with hg1 hg2 hg3
  injection hg1 with hg1
  subst hg1
  obtain ⟨cs, hcl, hK, hcc, hfr⟩ := Kd.N_elem h z24 (i : Int) (by omega) (by omega)
  simp only [Int.toNat_natCast] at hK hcc
  obtain ⟨A3, c3, rfl, hl3, hF3⟩ := k24_openF hK
  have hnx : l.getD i z24 = nth l i := rfl
  rw [hnx] at hcc hl3 hF3
  have h2 := (Kd.N_seg h (i : Int) (by omega) (by omega) (seg := [.slice A1 k.length c1]) (j := 3) (x' := ⟨(nth l i).f0, (nth l i).f1, (nth l i).f2, k⟩) (okp := P) hcl (fun j u h => by simp only [Int.toNat_natCast]; exact hcc j u h) (by show 3 + 1 ≤ 4; omega) (k24_mkF _ _ ⟨(nth l i).f0, (nth l i).f1, (nth l i).f2, k⟩ hc1 hF) hP).1
  simp only [Int.toNat_natCast] at h2
  rw [add_plain]
  exact h2
theorem cells_set {W : World} {g : Nat} {cs : Array Value} {p : Addr} {u : Value} (h : W.heap[g]? = some (.cells cs 24 (0, 0))) (hp : p.block ≠ g) : (W.setCell p u).heap[g]? = some (.cells cs 24 (0, 0)) := by rw [Below.heap_setCell _ _ _ _ (Ne.symm hp)]; exact h
/-- The copy, its slot: what is read and written behind the copying. -/
theorem fillFacts {w w1 : World} {o1 : Obj} {ad : Addr} {g : Nat} {u3 u : Value} {v0 v1 v2 v3 : Value} (i : Nat) (hB : Below ((w.alloc o1).alloc (.cells #[.int .i64 0, .string ⟨#[]⟩, .int .i64 0, .slice none 0 0] 24)).heap.size ((w.alloc o1).alloc (.cells #[.int .i64 0, .string ⟨#[]⟩, .int .i64 0, .slice none 0 0] 24)) w1) (Had : ad = ⟨g, 0, none⟩) (Hg : ((w.alloc o1).alloc (.cells #[.int .i64 0, .string ⟨#[]⟩, .int .i64 0, .slice none 0 0] 24)).heap.size ≤ g ∧ g < w1.heap.size)
    (h3 : w1.cell? ⟨(ad.add (i * 4)).block, (ad.add (i * 4)).off + 3, none⟩ = some u3) (m3 : w1.frozen? ⟨(ad.add (i * 4)).block, (ad.add (i * 4)).off + 3, none⟩ = false) :
    Aside0 (w1.heap[w.heap.size + 1]? = some (.cells #[.int .i64 0, .string ⟨#[]⟩, .int .i64 0, .slice none 0 0] 24 (0, 0))) ∧ Aside0 (w.heap.size + 1 < w1.heap.size) ∧ Aside0 (w.heap.size + 2 ≤ g ∧ g < w1.heap.size) ∧
    (w1.alloc (.cells #[v0, v1, v2, v3] 24)).cell? ⟨(ad.add (i * 4)).block, (ad.add (i * 4)).off + 3, none⟩ = some u3 ∧ (w1.alloc (.cells #[v0, v1, v2, v3] 24)).frozen? ⟨(ad.add (i * 4)).block, (ad.add (i * 4)).off + 3, none⟩ = false ∧
    ∀ W3, W3 = (w1.alloc (.cells #[v0, v1, v2, v3] 24)).setCell ⟨(ad.add (i * 4)).block, (ad.add (i * 4)).off + 3, none⟩ u → W3.heap[w1.heap.size]? = some (.cells #[v0, v1, v2, v3] 24 (0, 0)) ∧ W3.heap[w.heap.size + 1]? = some (.cells #[.int .i64 0, .string ⟨#[]⟩, .int .i64 0, .slice none 0 0] 24 (0, 0)) := by
  subst Had
  have h1 := hB.size
  have h2 := hB.block (w.heap.size + 1) (by rw [size_alloc2]; omega)
  rw [size_alloc2] at h1 Hg
  have h4 : ((⟨g, 0, none⟩ : Addr).add (i * 4)).block = g := by rw [add_plain]
  have h5 := World.block_lt_of_cell? _ _ h3
  refine ⟨⟨h2.trans (alloc2_snd _ _ _)⟩, ⟨by omega⟩, ⟨by omega⟩, ?_, ?_, ?_⟩
  · rw [← h3]; exact (below_alloc (Below.refl _ _) _).cell h5
  · rw [← m3]; exact (below_alloc (Below.refl _ _) _).frozen h5
  · rintro _ rfl
    refine ⟨cells_set (heap_alloc_new _ _) ?_, cells_set ((Below.heap_alloc _ _ _ (by omega)).trans (h2.trans (alloc2_snd _ _ _))) ?_⟩
    · show ((⟨g, 0, none⟩ : Addr).add (i * 4)).block ≠ _
      omega
    · show ((⟨g, 0, none⟩ : Addr).add (i * 4)).block ≠ _
      omega
set_option maxRecDepth 100000 in
set_option maxHeartbeats 2000000 in
theorem filled_any (x : S24) (i : Nat) (k : List S24) (A A1 : Option Addr) (c c1 : Nat) (P : Nat → Prop) (w : World) (hx : cntL x.f3 < 1000000) (hi : i < x.f3.length) (hc : x.f3.length ≤ c) (hc1 : k.length ≤ c1) (hC : Kd.C k24 w A x.f3.length x.f3) (hF : Kd.F k24 w P A1 k.length k) :
    Calls Tryd.prog 50 #[.agg #[.int .i64 x.f0, .string x.f1, .int .i64 x.f2, .slice A x.f3.length c], .int .i64 i, .slice A1 k.length c1] w fun e w' => ∃ (A' : Option Addr) (c' : Nat), e = .returned (.agg #[.int .i64 x.f0, .string x.f1, .int .i64 x.f2, .slice A' x.f3.length c']) ∧ x.f3.length ≤ c' ∧ Kd.F k24 w' (fun j => P j ∨ w.heap.size ≤ j) A' (filledL x.f3 i k).length (filledL x.f3 i k) ∧ Below w.heap.size w w' := by
  have HF := Aside0.mk (Kd.F_bound hF)
  have HC := Aside0.mk hC
  clear hF hC
  go_enter Tryd.func50, Tryd.ntmps50
  go_wp2_with (go_at_call 37; go_loud ((with_reducible refine (edit_clone.fresh 1000000 x A c _ (by rw [cnt_eq]; omega) (by rw [cnt_eq]; omega) hc ?hC).mono ?_); (case hC => exact Kd.C_below HC.out (below_alloc (below_alloc (Below.refl _ _) _) _)); rintro e w1 ⟨v, rfl, hS, hB⟩; obtain ⟨ad, g, c2, A3, c3, rfl, Had, Hg, hc2, hc3, HF3, e0, e1, e2, e3, m0, m1, m2, m3⟩ := elemN (Kd.R_N (Kd.S_R hS)) hi; have HN := Aside0.mk (Kd.R_N (Kd.S_R hS)); have HB := Aside0.mk hB; obtain ⟨HRk, hsz0, Hg2, f3, q3, HW⟩ := fillFacts (v0 := .int .i64 x.f0) (v1 := .string x.f1) (v2 := .int .i64 x.f2) (v3 := .slice (some ad) x.f3.length c2) (u := .slice A1 k.length c1) i hB Had.out Hg.out e3 m3; obtain ⟨HW1, HW2⟩ := HW _ rfl; replace HW1 := Aside0.mk HW1; replace HW2 := Aside0.mk HW2; clear HW; have y3 := blk_cell HW1.out 3; have r0 := blk_cell HW2.out 0; have r1 := blk_cell HW2.out 1; have r2 := blk_cell HW2.out 2; have r3 := blk_cell HW2.out 3; have z0 := blk_frozen HW2.out 0; have z1 := blk_frozen HW2.out 1; have z2 := blk_frozen HW2.out 2; have z3 := blk_frozen HW2.out 3; clear e0 e1 e2 e3 m0 m1 m2 m3 hS hB))
  have HB3 : Aside0 (Below w.heap.size w w1) := ⟨below_then (below_alloc (below_alloc (Below.refl _ _) _) _) (by rw [size_alloc2]; omega) HB.out⟩
  have HE := Aside0.mk (Kd.N_F (N_fill (i := i) (c1 := c1) (ok := fun j => (P j ∧ j < w.heap.size) ∨ w.heap.size + 2 ≤ j) (Kd.N_mono (Kd.N_alloc HN.out (.cells #[.int .i64 x.f0, .string x.f1, .int .i64 x.f2, .slice (some ad) x.f3.length c2] 24)) (fun j hj => .inr (by rw [size_alloc2] at hj; exact hj))) hi hc1 (Kd.F_step HF.out (fun j hj _ => (below_alloc HB3.out _).block j hj.2)) (fun j hj => ⟨.inl hj, by rw [Had.out]; have h8 := Hg2.out.1; have h9 := hj.2; show j ≠ g; omega⟩)))
  have hfl : (filledL x.f3 i k).length = x.f3.length := List.length_set
  have hb1 : (ad.add (i * 4)).block = g := by rw [Had.out, add_plain]
  refine bodyPost_ret (results_cell_row rfl _ _ (w.heap.size + 1) 24 #[.int .i64 x.f0, .string x.f1, .int .i64 x.f2, .slice (some ad) x.f3.length c2] (0, 0) _ rfl (blk_put4 HW2.out) Tryd.underlying24 rfl (by kernel_rfl)) rfl ?_
  refine ⟨some ad, c2, rfl, hc2, ?_, below_set4 ((below_alloc HB3.out _).setCell (by show _ ≤ (ad.add (i * 4)).block; rw [hb1]; have h8 := Hg2.out.1; omega) _) (by omega)⟩
  rw [hfl]
  exact Kd.F_mono (F_set4 HE.out (fun j hj => by rcases hj with hj | hj <;> omega)) (fun j hj => by rcases hj with hj | hj; exact .inl hj.1; exact .inr (by omega))
end Go.Proofs.YtgcpfelccfnnbaaDoor.X
