/-
Part 22 of the texts of this proof: the walks through the program's functions.
-/
import Derived.Test.YtgcpfelccfnnbaaDoorMCounts2
import Derived.Test.YtgcpfelccfnnbaaDoorMCounts21
namespace Go.Proofs.YtgcpfelccfnnbaaDoor.X
open Go.RowKit Go.Proofs.YtgcpfelccfnnbaaDoorW.PrintWords Go.Proofs.YtgcpfelccfnnbaaDoorW.PrintLast Go.Proofs.YtgcpfelccfnnbaaDoorW.PrintMore
attribute [local go_sem] max2_int min2_int max_two min_two max_three min_three max_four min_four   -- for this text's walks alone
set_option linter.unusedVariables false
set_option linter.unusedSimpArgs false
def edit_clone.T5 : Bool × List (List Nat × List Nat) := (true, [([], []), ([0], [0]), ([], []), ([], []), ([3], [3]), ([], []), ([4, 5], [4, 5]), ([6], [6]), ([7], [7]), ([1, 2, 0, 1, 2, 3, 4, 5, 6, 7, 8], [1, 2]), ([9, 8, 8, 0, 1, 2, 3, 4, 5, 6, 7, 8], [8, 9])])
def edit_clone.B5 : List Nat := [0, 1, 0, 0, 8, 0, 56, 120, 248, 511, 1023]
theorem edit_clone.tab5 : rtab .any (opsOf Tryd.f37 5) = edit_clone.T5 := by kernel_rfl
theorem edit_clone.bits5 : waitsOk edit_clone.T5.2 edit_clone.B5 = true := by kernel_rfl
set_option maxRecDepth 100000 in
set_option maxHeartbeats 2000000 in
theorem edit_clone.fresh (m : Nat) : ∀ (x : S24) (A : Option Addr) (c : Nat) (w : World), cnt x ≤ m → cnt x ≤ 1000000 → x.f3.length ≤ c → Kd.C k24 w A x.f3.length x.f3 →
    Calls Tryd.prog 37 #[.agg #[.int .i64 x.f0, .string x.f1, .int .i64 x.f2, .slice A x.f3.length c]] w fun e w' => ∃ v : Value, e = .returned (.agg #[.int .i64 x.f0, .string x.f1, .int .i64 x.f2, v]) ∧ Kd.S k24 24 w' w.heap.size (fun k => w.heap.size ≤ k) v x.f3 ∧ Below w.heap.size w w' := by
  induction m with
  | zero => intro x A c w h; have := cnt_pos x; omega
  | succ m ih =>
  intro x A c w hm hM hc hC
  have hlen : x.f3.length * 56 ≤ 140737488355328 := by
    have := cntL_len x.f3; rw [cnt_eq] at hM; omega
  have hcnt := cnt_eq x
  obtain ⟨f0, f1, f2, l⟩ := x
  simp only at hc hC hlen hcnt ⊢
  have hsub : ∀ i, i < l.length → cnt (nth l i) ≤ m ∧ cnt (nth l i) ≤ 1000000 := fun i hi => by
    have := cntL_get (l := l) (j := i) (x := nth l i) (nth_some hi)
    omega
  have HS := Aside0.mk hsub
  clear hsub
  have HC := Aside0.mk hcnt
  clear hcnt
  have hlen2 : l.length ≤ 2513169434917 := by omega
  go_enter Tryd.func37, Tryd.ntmps37
  go_wp2_with (go_at_call 54; (with_reducible refine (api_Node_54.fresh (fun k => k < w.heap.size) A c l _ ?hF hlen).mono ?_); (case hF => exact Kd.F_below (Kd.C_F k24_heap hC) (below_alloc (below_alloc (Below.refl _ _) _) _)); rintro e w1 ⟨v, rfl, hR, hB⟩; obtain ⟨A1, c1, rfl⟩ := Kd.R_slice hR; have hBk : w1.heap[w.heap.size]? = some (.cells #[.int .i64 f0, .string f1, .int .i64 f2, .slice A l.length c] 24 (0, 0)) := (hB.block _ (by simp; omega)).trans (alloc2_fst _ _ _); have hRk : w1.heap[w.heap.size + 1]? = some (.cells #[.int .i64 0, .string ⟨#[]⟩, .int .i64 0, .slice none 0 0] 24 (0, 0)) := (hB.block _ (by simp)).trans (alloc2_snd _ _ _); have c3 := blk_cell hBk 3; have z3 := blk_frozen hBk 3)
  go_loopg [11] l.length (fun kq v11 w' => ∃ i : Nat, v11 = .int .i64 i ∧ Aside0 (i + kq = l.length) ∧ Aside0 (CRel w l f0 f1 f2 A1 c1 i w'))
  case atStart =>
    refine ⟨0, rfl, ⟨by omega⟩, ⟨?_⟩⟩
    have hsz := hB.size
    rw [size_alloc2] at hsz
    have hR2 := held_back hR (below_alloc (below_alloc (Below.refl _ _) _) _) (fun k hk => hk)
    rw [size_alloc2] at hR2
    refine CRel_start (o1 := .cells #[] 0) (by simpa using hsz) (Kd.R_far (p := ⟨w.heap.size, 3, none⟩) hR2 (fun k hk => by show k ≠ w.heap.size; omega) _) ?_ ?_ ?_
    · exact Below.setCell ((below_alloc (below_alloc (Below.refl _ _) _) _).trans ⟨hB.os, hB.tape, hB.output, hB.size, fun k hk => hB.block k (by rw [size_alloc2]; omega)⟩) (Nat.le_refl _) _
    · exact blk_put hBk 3 _ rfl
    · exact blk_far hRk (by show w.heap.size + 1 ≠ w.heap.size; omega) _
  case round =>
    clear hR hB hBk hRk c3 z3
    obtain ⟨i, rfl, HK, HR⟩ := hrel
    by_cases hlt : i < l.length
    · obtain ⟨ad, g, A3, c3, rfl, Had, Hge, Hcells, hl3, HC3, e0, e1, e2, e3⟩ := CRel_elemA HR.out hlt
      have b3 : wr.cell? ⟨w.heap.size, 3, none⟩ = some (.slice (some ad) l.length c1) := blk_cell HR.out.2.1 3
      go_wp2
      refine start_ (n := 11) (S := fun w' => w'.cell? ⟨w.heap.size, 3, none⟩ = some (.slice (some ad) l.length c1) ∧ w'.cell? (ad.add (i * 4)) = some (.int .i64 (nth l i).f0) ∧ w'.cell? ⟨(ad.add (i * 4)).block, (ad.add (i * 4)).off + 1, none⟩ = some (.string (nth l i).f1) ∧ w'.cell? ⟨(ad.add (i * 4)).block, (ad.add (i * 4)).off + 2, none⟩ = some (.int .i64 (nth l i).f2) ∧ w'.cell? ⟨(ad.add (i * 4)).block, (ad.add (i * 4)).off + 3, none⟩ = some (.slice A3 (nth l i).f3.length c3)) (ds := [10]) #[false, false, false, false, false, false, false, false, false, false, false] (by kernel_rfl) rfl rfl ⟨b3, e0, e1, e2, e3⟩ (fun hHeld => ?_); refine with_tabW edit_clone.tab5 edit_clone.bits5 (fun HT_ HW_ => ?_)
      have HR2 : Aside0 (CRel w l f0 f1 f2 (some ad) c1 i wr.drew) := ⟨CRel_drew HR.out⟩
      clear HR b3 e0 e1 e2 e3 Hcells
      generalize wr.drew = w2 at HR2 hHeld ⊢
      refine pure_ (i := 0) (N := some 14) (v := ?_) (a' := ?_) #[true, false, false, false, false, false, false, false, false, false, false] rfl rfl (any_of HT_.out (by kernel_rfl)) (fun _ _ _ h => h) (Or.inl ⟨by rfl, ?_⟩) ?_ ?_
      rotate_left
      · intro w'
        go_simp
        with_reducible rfl
      rotate_left
      · simp only [Act.put, List.setIfInBounds_toArray, List.set_cons_zero, List.set_cons_succ, i64_w, i32_w]
        rfl
      refine pure_ (i := 2) (N := some 16) (v := ?_) (a' := ?_) #[true, false, true, false, false, false, false, false, false, false, false] rfl rfl (any_of HT_.out (by kernel_rfl)) (fun _ _ _ h => h) (Or.inl ⟨by rfl, ?_⟩) ?_ ?_
      rotate_left
      · intro w'
        go_simp
        with_reducible rfl
      rotate_left
      · simp only [Act.put, List.setIfInBounds_toArray, List.set_cons_zero, List.set_cons_succ, i64_w, i32_w]
        rfl
      refine pure_ (i := 3) (N := some 17) (v := ?_) (a' := ?_) #[true, false, true, true, false, false, false, false, false, false, false] rfl rfl (any_of HT_.out (by kernel_rfl)) (fun _ _ _ h => h) (Or.inl ⟨by rfl, ?_⟩) ?_ ?_
      rotate_left
      · intro w'
        go_simp
        with_reducible rfl
      rotate_left
      · simp only [Act.put, List.setIfInBounds_toArray, List.set_cons_zero, List.set_cons_succ, i64_w, i32_w]
        rfl
      refine pure_ (i := 5) (N := some 19) (v := ?_) (a' := ?_) #[true, false, true, true, false, true, false, false, false, false, false] rfl rfl (any_of HT_.out (by kernel_rfl)) (fun _ _ _ h => h) (Or.inl ⟨by rfl, ?_⟩) ?_ ?_
      rotate_left
      · intro w'
        go_simp
        with_reducible rfl
      rotate_left
      · simp only [Act.put, List.setIfInBounds_toArray, List.set_cons_zero, List.set_cons_succ, i64_w, i32_w]
        rfl
      refine take_ (i := 1) (N := some 15) (v := ?_) (a' := ?_) #[true, true, true, true, false, true, false, false, false, false, false] rfl rfl (take_ofW HT_.out HW_.out (by kernel_rfl)) (fun _ _ _ h => h) (Or.inl ⟨by rfl, ?_⟩) hHeld ?_ ?_
      rotate_left
      · rintro w' ⟨s3, t0, t1, t2, t3⟩
        go_simp
        with_reducible rfl
      rotate_left
      · simp only [Act.put, List.setIfInBounds_toArray, List.set_cons_zero, List.set_cons_succ, i64_w, i32_w]
        rfl
      refine take_ (i := 4) (N := some 18) (v := ?_) (a' := ?_) #[true, true, true, true, true, true, false, false, false, false, false] rfl rfl (take_ofW HT_.out HW_.out (by kernel_rfl)) (fun _ _ _ h => h) (Or.inl ⟨by rfl, ?_⟩) hHeld ?_ ?_
      rotate_left
      · rintro w' ⟨s3, t0, t1, t2, t3⟩
        go_simp
        with_reducible rfl
      rotate_left
      · simp only [Act.put, List.setIfInBounds_toArray, List.set_cons_zero, List.set_cons_succ, i64_w, i32_w]
        rfl
      refine pure_ (i := 6) (N := some 20) (v := ?_) (a' := ?_) #[true, true, true, true, true, true, true, false, false, false, false] rfl rfl (any_of HT_.out (by kernel_rfl)) (fun _ _ _ h => h) (Or.inl ⟨by rfl, ?_⟩) ?_ ?_
      rotate_left
      · intro w'
        go_simp
        with_reducible rfl
      rotate_left
      · simp only [Act.put, List.setIfInBounds_toArray, List.set_cons_zero, List.set_cons_succ, i64_w, i32_w]
        rfl
      refine take_ (i := 7) (N := some 21) (v := ?_) (a' := ?_) #[true, true, true, true, true, true, true, true, false, false, false] rfl rfl (take_ofW HT_.out HW_.out (by kernel_rfl)) (fun _ _ _ h => h) (Or.inl ⟨by rfl, ?_⟩) hHeld ?_ ?_
      rotate_left
      · rintro w' ⟨s3, t0, t1, t2, t3⟩
        go_simp
        with_reducible rfl
      rotate_left
      · simp only [Act.put, List.setIfInBounds_toArray, List.set_cons_zero, List.set_cons_succ, i64_w, i32_w]
        rfl
      refine one_ (i := 8) (N := some 22) #[true, true, true, true, true, true, true, true, true, false, false] rfl rfl (one_of HT_.out (by kernel_rfl)) (by decide) (fun K hK => ?_)
      refine goes_ Tryd.func37 (by kernel_rfl) rfl #[.agg #[.int .i64 (nth l i).f0, .string (nth l i).f1, .int .i64 (nth l i).f2, .slice A3 (nth l i).f3.length c3]] (by rfl) rfl rfl (by (try simp only [List.map_toArray, List.map_cons, List.map_nil]); first | done | rfl | (simp only [List.length_drop, List.length_take]; rfl)) ?_
      with_reducible refine (ih (nth l i) A3 c3 w2 (HS.out i hlt).1 (HS.out i hlt).2 hl3 ?hC).mono ?_
      (case hC => exact Kd.C_below HC3.out HR2.out.1)
      rintro e w3 ⟨v, rfl, hv, hb⟩
      refine ⟨_, rfl, ?_⟩
      obtain ⟨rfl⟩ := Had
      have hcells : ∃ cells, w3.heap[g]? = some (.cells cells 24 (0, 0)) := by
        obtain ⟨g', A3', c3', hA, _, hcs, _⟩ := CRel_elem HR2.out hlt
        injection hA with hA
        injection hA with hA
        subst hA
        obtain ⟨cells, hcs⟩ := hcs
        exact ⟨cells, (hb.block _ (blk_lt hcs)).trans hcs⟩
      obtain ⟨cells, hcells⟩ := hcells
      have z0 : w3.frozen? ⟨g, i * 4, none⟩ = false := blk_frozen hcells _
      have z1 : w3.frozen? ⟨g, i * 4 + 1, none⟩ = false := blk_frozen hcells _
      have z2 : w3.frozen? ⟨g, i * 4 + 2, none⟩ = false := blk_frozen hcells _
      have z3 : w3.frozen? ⟨g, i * 4 + 3, none⟩ = false := blk_frozen hcells _
      have HH := hHeld
      simp only [add_plain] at HH
      obtain ⟨b3, e0, e1, e2, e3⟩ := HH
      have hc := fun {a : Addr} {u : Value} (h : w2.cell? a = some u) => (hb.cell (World.block_lt_of_cell? _ _ h)).trans h
      replace b3 := hc b3
      replace e0 := hc e0
      replace e1 := hc e1
      replace e2 := hc e2
      replace e3 := hc e3
      have h5 := hc hHeld.2.1
      have h6 := hc hHeld.2.2.1
      have h7 := hc hHeld.2.2.2.1
      have h8 := hc hHeld.2.2.2.2
      clear hc
      have HN : Aside0 (CRel w l f0 f1 f2 (some ⟨g, 0, none⟩) c1 (i + 1) (w3.setCells g (i * 4) [.int .i64 (nth l i).f0, .string (nth l i).f1, .int .i64 (nth l i).f2, v])) := ⟨CRel_step HR2.out hlt hb (Kd.S_R hv)⟩
      obtain ⟨A4, c4, rfl⟩ := Kd.R_slice (Kd.S_R hv)
      refine hK.out _ _ ⟨b3, h5, h6, h7, h8⟩ (fun hHeld => ?_)
      clear hK K hv hb hcells HR2
      refine norm_ (a' := ?_) ?_ ?_
      rotate_left
      · show Act.put _ (some 22) _ = _
        simp only [Act.put, List.setIfInBounds_toArray, List.set_cons_zero, List.set_cons_succ, i64_w, i32_w]
        rfl
      refine pure_ (i := 9) (N := some 23) (v := ?_) (a' := ?_) #[true, true, true, true, true, true, true, true, true, true, false] rfl rfl (any_of HT_.out (by kernel_rfl)) (fun _ _ _ h => h) (Or.inl ⟨by rfl, ?_⟩) ?_ ?_
      rotate_left
      · intro w'
        go_simp
        with_reducible rfl
      rotate_left
      · simp only [Act.put, List.setIfInBounds_toArray, List.set_cons_zero, List.set_cons_succ, i64_w, i32_w]
        rfl
      refine last_ (i := 10) (N := none) #[true, true, true, true, true, true, true, true, true, true, true] rfl rfl (one_of HT_.out (by kernel_rfl)) (by decide) (fun K hK => ?_)
      refine skip_ (w1 := ?_) (by rfl) rfl ?_ ?_
      rotate_left
      · go_simp
        rfl
      refine hK.out _ _ ?_
      clear hK K
      refine done_ (done_of HT_.out (by kernel_rfl)) ?_
      try go_wp2
      have hkp : ∃ k', gk = k' + 1 := ⟨gk - 1, by have := HK.out; omega⟩
      obtain ⟨k', rfl⟩ := hkp
      go_roundg k'
      case measure => omega
      case rel => exact ⟨i + 1, by go_num, ⟨by have := HK.out; omega⟩, HN⟩
    · have hil : i = l.length := by have := HK.out; omega
      have BK := HR.out.2.1
      have RK := HR.out.2.2.1
      have HE : Aside0 (Kd.S k24 24 wr w.heap.size (fun k => w.heap.size + 2 ≤ k) (.slice A1 l.length c1) l) := ⟨by have h := HR.out; rw [hil] at h; exact CRel_end h⟩
      have HB := HR.out.1
      clear hil
      have b0 := blk_cell BK 0
      have b1 := blk_cell BK 1
      have b2 := blk_cell BK 2
      have b3 := blk_cell BK 3
      have r0 := blk_cell RK 0
      have r1 := blk_cell RK 1
      have r2 := blk_cell RK 2
      have r3 := blk_cell RK 3
      have z0 := blk_frozen RK 0
      have z1 := blk_frozen RK 1
      have z2 := blk_frozen RK 2
      have z3 := blk_frozen RK 3
      go_wp2
      refine bodyPost_ret (results_cell_row rfl _ _ (w.heap.size + 1) 24 #[.int .i64 f0, .string f1, .int .i64 f2, .slice A1 l.length c1] (0, 0) _ rfl (by refine blk_put (cs := #[.int .i64 f0, .string f1, .int .i64 f2, .slice none 0 0]) ?_ 3 _ rfl; refine blk_put (cs := #[.int .i64 f0, .string f1, .int .i64 0, .slice none 0 0]) ?_ 2 _ rfl; refine blk_put (cs := #[.int .i64 f0, .string ⟨#[]⟩, .int .i64 0, .slice none 0 0]) ?_ 1 _ rfl; refine blk_put (cs := #[.int .i64 0, .string ⟨#[]⟩, .int .i64 0, .slice none 0 0]) ?_ 0 _ rfl; exact RK) Tryd.underlying24 rfl (by kernel_rfl)) rfl ?_
      have hne : ∀ k, w.heap.size + 2 ≤ k → k ≠ w.heap.size + 1 := fun k hk => by omega
      exact ⟨_, rfl, Kd.S_mono (Kd.S_far (p := ⟨w.heap.size + 1, 3, none⟩) (Kd.S_far (p := ⟨w.heap.size + 1, 2, none⟩) (Kd.S_far (p := ⟨w.heap.size + 1, 1, none⟩) (Kd.S_far (p := ⟨w.heap.size + 1, 0, none⟩) HE.out hne _) hne _) hne _) hne _) (fun k hk => by omega), (((HB.setCell (by simp) _).setCell (by simp) _).setCell (by simp) _).setCell (by simp) _⟩
def edit_clone.f (a0_0 : Int) (a0_1 : ByteArray) (a0_2 : Int) (l0_3 : List S24) : Option (Int × ByteArray × Int × List S24) := if cntL l0_3 < 1000000 then some (a0_0, a0_1, a0_2, l0_3) else none
theorem edit_clone.calls (a0_0 : Int) (a0_1 : ByteArray) (a0_2 : Int) (A0_3 : Option Addr) (c0_3 : Nat) (l0_3 : List S24) (r1 : Int) (r2 : ByteArray) (r3 : Int) (r4 : List S24) (w : World) (hr0_3 : Kd.C k24 w A0_3 l0_3.length l0_3) (hc0_3 : l0_3.length ≤ c0_3) (h : edit_clone.f a0_0 a0_1 a0_2 l0_3 = some (r1, r2, r3, r4)) :
    Calls Tryd.prog 37 #[.agg #[.int .i64 a0_0, .string a0_1, .int .i64 a0_2, .slice A0_3 l0_3.length c0_3]] w fun e w' => ∃ v3_ : Value, e = .returned (.agg #[.int .i64 r1, .string r2, .int .i64 r3, v3_]) ∧ Kd.R k24 24 w' w.heap.size (fun _ => True) v3_ r4 ∧ Below w.heap.size w w' := by
  unfold edit_clone.f at h
  split at h
  · simp only [Option.some.injEq, Prod.mk.injEq] at h
    obtain ⟨rfl, rfl, rfl, rfl⟩ := h
    refine (edit_clone.fresh 1000000 ⟨a0_0, a0_1, a0_2, l0_3⟩ A0_3 c0_3 w (by rw [cnt_eq]; simp only; omega) (by rw [cnt_eq]; simp only; omega) hc0_3 hr0_3).mono ?_
    rintro e w' ⟨v, rfl, hv, hb⟩
    exact ⟨v, rfl, Kd.R_mono (Kd.S_R hv) (fun _ _ => trivial), hb⟩
  · cases h
end Go.Proofs.YtgcpfelccfnnbaaDoor.X
