/-
Part 31 of the texts of this proof: the walks through the program's functions.
-/
import Derived.StillTailTactics
import Derived.Test.YtgcpfelccfnnbaaDoorMCounts2
import Derived.Test.YtgcpfelccfnnbaaDoorMCounts18
import Derived.Test.YtgcpfelccfnnbaaDoorMCounts19
import Derived.Test.YtgcpfelccfnnbaaDoorMCounts23
import Derived.Test.YtgcpfelccfnnbaaDoorMCounts24
import Derived.Test.YtgcpfelccfnnbaaDoorMCounts30
namespace Go.Proofs.YtgcpfelccfnnbaaDoor.X
open Go.RowKit Go.Proofs.YtgcpfelccfnnbaaDoorW.PrintWords Go.Proofs.YtgcpfelccfnnbaaDoorW.PrintLast Go.Proofs.YtgcpfelccfnnbaaDoorW.PrintMore
attribute [local go_sem] max2_int min2_int max_two min_two max_three min_three max_four min_four   -- for this text's walks alone
set_option linter.unusedVariables false
set_option linter.unusedSimpArgs false
/-- A tree with another row at a path. -/
def withG : S24 → List Int → S24 → S24
  | n, i :: s :: path, r => ⟨n.f0, n.f1, n.f2, n.f3.set i.toNat ⟨(nth n.f3 i.toNat).f0, (nth n.f3 i.toNat).f1, (nth n.f3 i.toNat).f2, (nth n.f3 i.toNat).f3.set s.toNat (withG (nth (nth n.f3 i.toNat).f3 s.toNat) path r)⟩⟩
  | _, [_], r => r
  | _, [], r => r
/-- There is a row with the path. -/
def WithOk : S24 → List Int → Prop
  | n, i :: s :: path => 0 ≤ i ∧ i < n.f3.length ∧ 0 ≤ s ∧ s < (nth n.f3 i.toNat).f3.length ∧ WithOk (nth (nth n.f3 i.toNat).f3 s.toNat) path
  | _, [_] => False
  | _, [] => True
/-- The slot of an item of a copied tree: what is read there, what is left when it is written. -/
theorem heap_setCells4 {w : World} {g off k : Nat} {a b c d : Value} (h : k ≠ g) : (w.setCells g off [a, b, c, d]).heap[k]? = w.heap[k]? := by
  show ((((w.setCell ⟨g, off, none⟩ a).setCell ⟨g, off + 1, none⟩ b).setCell ⟨g, off + 1 + 1, none⟩ c).setCell ⟨g, off + 1 + 1 + 1, none⟩ d).heap[k]? = _
  rw [Below.heap_setCell _ _ _ _ h, Below.heap_setCell _ _ _ _ h, Below.heap_setCell _ _ _ _ h, Below.heap_setCell _ _ _ _ h]
theorem below_setCells4 {B : Nat} {w W : World} {g off : Nat} {a b c d : Value} (h : Below B w W) (hg : B ≤ g) : Below B w (W.setCells g off [a, b, c, d]) := by
  show Below B w ((((W.setCell ⟨g, off, none⟩ a).setCell ⟨g, off + 1, none⟩ b).setCell ⟨g, off + 1 + 1, none⟩ c).setCell ⟨g, off + 1 + 1 + 1, none⟩ d)
  exact (((h.setCell hg _).setCell hg _).setCell hg _).setCell hg _
theorem withBoxes {w w1 : World} {o1 o2 o3 : Obj} (hB : Below (((w.alloc o1).alloc o2).alloc o3).heap.size (((w.alloc o1).alloc o2).alloc o3) w1) :
    Aside0 (w1.heap[w.heap.size]? = some o1) ∧ Aside0 (w1.heap[w.heap.size + 1]? = some o2) ∧ Aside0 (w1.heap[w.heap.size + 2]? = some o3) ∧ Aside0 (Below w.heap.size w w1) ∧ Aside0 (w.heap.size + 3 ≤ w1.heap.size) := by
  have hz : (((w.alloc o1).alloc o2).alloc o3).heap.size = w.heap.size + 3 := by simp
  have h2 : ((w.alloc o1).alloc o2).heap.size = w.heap.size + 2 := by simp
  have hB0 : Below w.heap.size w (((w.alloc o1).alloc o2).alloc o3) := below_alloc (below_alloc (below_alloc (Below.refl _ _) _) _) _
  have hs := hB.size
  rw [hz] at hs
  refine ⟨⟨?_⟩, ⟨?_⟩, ⟨?_⟩, ⟨below_then hB0 hB0.size hB⟩, ⟨hs⟩⟩
  · rw [hB.block _ (by omega), Below.heap_alloc _ _ _ (by omega)]; exact alloc2_fst _ _ _
  · rw [hB.block _ (by omega), Below.heap_alloc _ _ _ (by omega)]; exact alloc2_snd _ _ _
  · rw [hB.block _ (by omega), ← h2]; exact heap_alloc_new _ _
theorem S_slot {w1 : World} {l : List S24} {v : Value} {base : Nat} {ok : Nat → Prop} (h : Kd.S k24 24 w1 base ok v l) {i s : Nat} (hi : i < l.length) (hs : s < (nth l i).f3.length) :
    ∃ ad g c1 ad2 g2 c2 A5 c5, v = .slice (some ad) l.length c1 ∧ Aside0 (ad = ⟨g, 0, none⟩) ∧ Aside0 (ad2 = ⟨g2, 0, none⟩) ∧ l.length ≤ c1 ∧ (nth l i).f3.length ≤ c2 ∧
    w1.cell? ⟨(ad.add (i * 4)).block, (ad.add (i * 4)).off + 3, none⟩ = some (.slice (some ad2) (nth l i).f3.length c2) ∧
    w1.cell? (ad2.add (s * 4)) = some (.int .i64 (nth (nth l i).f3 s).f0) ∧ w1.cell? ⟨(ad2.add (s * 4)).block, (ad2.add (s * 4)).off + 1, none⟩ = some (.string (nth (nth l i).f3 s).f1) ∧ w1.cell? ⟨(ad2.add (s * 4)).block, (ad2.add (s * 4)).off + 2, none⟩ = some (.int .i64 (nth (nth l i).f3 s).f2) ∧ w1.cell? ⟨(ad2.add (s * 4)).block, (ad2.add (s * 4)).off + 3, none⟩ = some (.slice A5 (nth (nth l i).f3 s).f3.length c5) ∧
    w1.frozen? (ad2.add (s * 4)) = false ∧ w1.frozen? ⟨(ad2.add (s * 4)).block, (ad2.add (s * 4)).off + 1, none⟩ = false ∧ w1.frozen? ⟨(ad2.add (s * 4)).block, (ad2.add (s * 4)).off + 2, none⟩ = false ∧ w1.frozen? ⟨(ad2.add (s * 4)).block, (ad2.add (s * 4)).off + 3, none⟩ = false ∧
    (nth (nth l i).f3 s).f3.length ≤ c5 ∧ Aside0 (Kd.C k24 w1 A5 (nth (nth l i).f3 s).f3.length (nth (nth l i).f3 s).f3) ∧ Aside0 (ok g2 ∧ g2 < w1.heap.size) ∧
    Aside0 (∀ (w3 : World) (y : S24) (A' : Option Addr) (c' : Nat) (okp : Nat → Prop), Below w1.heap.size w1 w3 → y.f3.length ≤ c' → Kd.F k24 w3 okp A' y.f3.length y.f3 → (∀ k, okp k → ok k ∧ w1.heap.size ≤ k) →
      Kd.N k24 24 (w3.setCells g2 (s * 4) [.int .i64 y.f0, .string y.f1, .int .i64 y.f2, .slice A' y.f3.length c']) base ok v (l.set i ⟨(nth l i).f0, (nth l i).f1, (nth l i).f2, (nth l i).f3.set s y⟩)) := by
  obtain ⟨f, hT⟩ := h
  obtain ⟨A, c1, hv⟩ := Kd.R_slice hT
  rw [List.length_zipIdx] at hv
  subst hv
  have hown := hT.1
  obtain ⟨rows, hl, hraw, hf⟩ := R_raw hT
  rw [List.length_zipIdx] at hl
  have hlen := (Kd.R_reads' hT).2.1
  obtain ⟨g, cap, hg, hge, hgl, hcells⟩ := Kd.R_form hraw (by omega)
  injection hg with hg1 hg2 hg3
  subst hg1
  have hgo : (Value.slice (some ⟨g, 0, none⟩) l.length c1).ownBlock = some g := by simp [Value.ownBlock]
  obtain ⟨c', hcl, hMM, hcc, hfr⟩ := Kd.R_elem hraw [] (i : Int) (by omega) (by omega)
  simp only [Int.toNat_natCast] at hMM hcc
  have hrow : rows[i]? = some c' := by
    have h2 := hMM.1
    rw [List.getD_eq_getElem?_getD, List.getElem?_eq_getElem (by omega)] at h2
    rw [List.getElem?_eq_getElem (by omega)]
    simp at h2
    rw [h2]
  have hx : l[i]? = some (nth l i) := nth_some hi
  have hM : k24.M w1 base (fun k => (ok k ∧ some k ≠ (Value.slice (some ⟨g, 0, none⟩) l.length c1).ownBlock) ∧ f k = i) (nth l i) c' := hf i (nth l i, i) c' (Kd.zip_at hx) hrow
  obtain ⟨v3, rfl, hR3⟩ := k24_openM hM
  obtain ⟨A2, c2, rfl⟩ := Kd.R_slice hR3
  obtain ⟨ad2, g2, c2', A5, c5, hv2, Had2, Hg2, hc2, hc5, HF5, e0, e1, e2, e3, m0, m1, m2, m3⟩ := elemN (Kd.R_N hR3) hs
  injection hv2 with hv2 _ hv2c
  subst hv2
  subst hv2c
  have hok2 := hR3.1 g2 (by rw [Had2.out]; simp [Value.ownBlock])
  have hne : g2 ≠ g := fun he => hok2.1.2 (by rw [hgo, he])
  refine ⟨⟨g, 0, none⟩, g, c1, ad2, g2, c2, A5, c5, rfl, ⟨rfl⟩, Had2, hlen, hc2, by rw [add_plain]; exact hcc 3 _ rfl, e0, e1, e2, e3, m0, m1, m2, m3, hc5, ⟨Kd.F_now HF5.out⟩, ⟨⟨hok2.1.1, Hg2.out.2⟩⟩, ⟨?_⟩⟩
  intro w3 y A' cy okp hb hcy hFy hokp
  have hs1 := hb.size
  obtain ⟨Had2⟩ := Had2
  subst Had2
  have hN3 := Kd.N_below (Kd.R_N hR3) hb
  obtain ⟨cs, hcl2, hK2, hcc2, hfr2⟩ := Kd.N_elem hN3 z24 (s : Int) (by omega) (by omega)
  simp only [Int.toNat_natCast] at hK2 hcc2
  have hlen4 : cs.length = 4 := hcl2
  have hN3' := Kd.N_mono hN3 (ok' := fun k => ((ok k ∧ some k ≠ (Value.slice (some ⟨g, 0, none⟩) l.length c1).ownBlock) ∧ f k = i) ∨ (ok k ∧ w1.heap.size ≤ k)) (fun k hk => .inl hk)
  have hseg := Kd.N_seg hN3' (s : Int) (by omega) (by omega) (c := cs) (seg := [.int .i64 y.f0, .string y.f1, .int .i64 y.f2, .slice A' y.f3.length cy]) (j := 0) (x' := y) (okp := okp) hcl2 (fun j u h => by simp only [Int.toNat_natCast]; exact hcc2 j u h) (by show 0 + 4 ≤ 4; omega)
    (by rw [List.take_zero, List.nil_append, List.drop_eq_nil_of_le (by show cs.length ≤ 0 + 4; omega), List.append_nil]; exact k24_mkF _ _ y hcy hFy)
    (fun k hk => ⟨.inr (hokp k hk), by have := (hokp k hk).2; have := Hg2.out.2; omega⟩)
  simp only [Int.toNat_natCast, Nat.add_zero] at hseg
  obtain ⟨hset, hgrow⟩ := hseg
  have hfar : ∀ k, k < w3.heap.size → k ≠ g2 → (w3.setCells g2 (s * 4) [.int .i64 y.f0, .string y.f1, .int .i64 y.f2, .slice A' y.f3.length cy]).heap[k]? = w3.heap[k]? := fun k hk hne => hgrow.block k hk (fun he => hne (by injection he))
  refine ⟨hown, rows, by rw [List.length_set]; exact hl, Kd.R_step (Kd.R_below hraw hb) (fun k hk hlt => hfar k hlt (fun he => hne (by rw [hgo] at hk; injection hk with hk; omega))), fun j p c hp hc => ?_⟩
  by_cases hji : j = i
  · subst hji
    rw [List.getElem?_set_self hi] at hp
    injection hp with hp
    rw [hrow] at hc
    injection hc with hc
    rw [← hp, ← hc]
    have h9 := Kd.N_F hset
    have hsl : ((nth l j).f3.set s y).length = (nth l j).f3.length := List.length_set
    have h10 := k24_mkF (w3.setCells g2 (s * 4) [.int .i64 y.f0, .string y.f1, .int .i64 y.f2, .slice A' y.f3.length cy]) (fun k => ok k ∧ some k ≠ (Value.slice (some ⟨g, 0, none⟩) l.length c1).ownBlock) ⟨(nth l j).f0, (nth l j).f1, (nth l j).f2, (nth l j).f3.set s y⟩ (A3 := some ⟨g2, 0, none⟩) (c3 := c2) (by rw [hsl]; exact hc2) (by rw [hsl]; exact Kd.F_mono h9 (fun k hk => by rcases hk with hk | hk; exact hk.1; exact ⟨hk.1, fun he => by rw [hgo] at he; injection he with he; omega⟩))
    rw [hsl] at h10
    exact h10
  · rw [List.getElem?_set_ne (Ne.symm hji)] at hp
    have h9 : k24.M w1 base (fun k => (ok k ∧ some k ≠ (Value.slice (some ⟨g, 0, none⟩) l.length c1).ownBlock) ∧ f k = j) p c := hf j (p, j) c (Kd.zip_at hp) hc
    exact Kd.FK_mono (Kd.FK_step (Kd.FK_below (Kd.FK_bound (Kd.FK_of_M h9)) hb) (fun k hk hlt => hfar k hlt (fun he => hji (by rw [← hk.1.2, he]; exact hok2.2)))) (fun k hk => hk.1.1)
def node_with.r5.T : Bool × List (List Nat × List Nat) := (true, [([], []), ([], []), ([1], [1]), ([2], [2]), ([], []), ([4], [4]), ([], []), ([3, 5, 6], [3, 5, 6]), ([0, 0, 1, 2, 3, 4, 5, 6, 7], [0]), ([8, 7, 7, 0, 1, 2, 3, 4, 5, 6, 7], [7, 8])])
def node_with.r5.B : List Nat := [0, 0, 2, 6, 0, 16, 0, 126, 255, 511]
theorem node_with.r5.tab : rtab .any (opsOf Tryd.f56 5) = node_with.r5.T := by kernel_rfl
theorem node_with.r5.bits : waitsOk node_with.r5.T.2 node_with.r5.B = true := by kernel_rfl
set_option maxRecDepth 100000 in
set_option maxHeartbeats 2000000 in
theorem with_nil (x r : S24) (A B AR : Option Addr) (c d cR : Nat) (w : World) (hcr : cnt r ≤ 1000000) (hR : r.f3.length ≤ cR) (hC : Kd.C k24 w AR r.f3.length r.f3) :
    Calls Tryd.prog 56 #[.agg #[.int .i64 x.f0, .string x.f1, .int .i64 x.f2, .slice A x.f3.length c], .slice B ([] : List Int).length d, .agg #[.int .i64 r.f0, .string r.f1, .int .i64 r.f2, .slice AR r.f3.length cR]] w fun e w' => ∃ (A' : Option Addr) (c' : Nat), e = .returned (.agg #[.int .i64 (withG x [] r).f0, .string (withG x [] r).f1, .int .i64 (withG x [] r).f2, .slice A' (withG x [] r).f3.length c']) ∧ (withG x [] r).f3.length ≤ c' ∧ Kd.F k24 w' (fun k => w.heap.size ≤ k) A' (withG x [] r).f3.length (withG x [] r).f3 ∧ Below w.heap.size w w' := by
  have HC := Aside0.mk hC
  clear hC
  rw [withG]
  go_enter Tryd.func56, Tryd.ntmps56
  go_wp2_with (go_at_call 47; go_loud ((with_reducible refine (node_clone.fresh 1000000 r AR cR _ hcr hcr hR ?hC).mono ?_); (case hC => exact Kd.C_below HC.out (below_alloc (below_alloc (below_alloc (Below.refl _ _) _) _) _)); rintro e w1 ⟨v, rfl, hS, hB1⟩; obtain ⟨A1, c1, rfl⟩ := Kd.R_slice (Kd.S_R hS); have HS := Aside0.mk hS; obtain ⟨HX, HR0, HZ, HBW0, HSZ⟩ := withBoxes hB1; clear hS hB1; have r0 : w1.cell? ⟨w.heap.size + 1 + 1, 0, none⟩ = _ := blk_cell HZ.out 0; have r1 : w1.cell? ⟨w.heap.size + 1 + 1, 1, none⟩ = _ := blk_cell HZ.out 1; have r2 : w1.cell? ⟨w.heap.size + 1 + 1, 2, none⟩ = _ := blk_cell HZ.out 2; have r3 : w1.cell? ⟨w.heap.size + 1 + 1, 3, none⟩ = _ := blk_cell HZ.out 3; have z0 : w1.frozen? ⟨w.heap.size + 1 + 1, 0, none⟩ = false := blk_frozen HZ.out 0; have z1 : w1.frozen? ⟨w.heap.size + 1 + 1, 1, none⟩ = false := blk_frozen HZ.out 1; have z2 : w1.frozen? ⟨w.heap.size + 1 + 1, 2, none⟩ = false := blk_frozen HZ.out 2; have z3 : w1.frozen? ⟨w.heap.size + 1 + 1, 3, none⟩ = false := blk_frozen HZ.out 3))
  refine bodyPost_ret (results_cell_row rfl _ _ (w.heap.size + 1 + 1) 24 #[.int .i64 r.f0, .string r.f1, .int .i64 r.f2, .slice A1 r.f3.length c1] (0, 0) _ rfl (blk_put4 HZ.out) Tryd.underlying24 rfl (by kernel_rfl)) rfl ?_
  have hz : (((w.alloc (.cells #[.int .i64 x.f0, .string x.f1, .int .i64 x.f2, .slice A x.f3.length c] 24)).alloc (.cells #[.int .i64 r.f0, .string r.f1, .int .i64 r.f2, .slice AR r.f3.length cR] 24)).alloc (.cells #[.int .i64 0, .string ⟨#[]⟩, .int .i64 0, .slice none 0 0] 24)).heap.size = w.heap.size + 3 := by simp
  have h0 := HS.out
  rw [hz] at h0
  exact ⟨A1, c1, rfl, (Kd.R_reads' (Kd.S_R h0)).2.1, Kd.F_mono (F_set4 (Kd.R_F (Kd.S_R h0)) (fun k hk => by omega)) (fun k hk => by omega), below_set4 HBW0.out (by omega)⟩
set_option maxRecDepth 100000 in
set_option maxHeartbeats 2000000 in
theorem with_any (m : Nat) : ∀ (x : S24) (p : List Int) (r : S24) (A B AR : Option Addr) (c d cR : Nat) (w : World), p.length ≤ m → WithOk x p → cnt x ≤ 1000000 → cnt r ≤ 1000000 → x.f3.length ≤ c → p.length ≤ d → r.f3.length ≤ cR → Kd.C k24 w A x.f3.length x.f3 → Kd.C (Kd.int .i64) w B p.length p → Kd.C k24 w AR r.f3.length r.f3 →
    Calls Tryd.prog 56 #[.agg #[.int .i64 x.f0, .string x.f1, .int .i64 x.f2, .slice A x.f3.length c], .slice B p.length d, .agg #[.int .i64 r.f0, .string r.f1, .int .i64 r.f2, .slice AR r.f3.length cR]] w fun e w' => ∃ (A' : Option Addr) (c' : Nat), e = .returned (.agg #[.int .i64 (withG x p r).f0, .string (withG x p r).f1, .int .i64 (withG x p r).f2, .slice A' (withG x p r).f3.length c']) ∧ (withG x p r).f3.length ≤ c' ∧ Kd.F k24 w' (fun k => w.heap.size ≤ k) A' (withG x p r).f3.length (withG x p r).f3 ∧ Below w.heap.size w w' := by
  induction m with
  | zero =>
    intro x p r A B AR c d cR w hm hok hcx hcr hc hd hR hA hB hC
    have hp : p = [] := List.eq_nil_of_length_eq_zero (by omega)
    subst hp
    exact with_nil x r A B AR c d cR w hcr hR hC
  | succ m ih =>
  intro x p r A B AR c d cR w hm hok hcx hcr hc hd hR hA hB hC
  match p, hm, hok, hd, hB with
  | [], hm, hok, hd, hB => exact with_nil x r A B AR c d cR w hcr hR hC
  | [_], hm, hok, hd, hB => exact hok.elim
  | i :: s :: q, hm, hok, hd, hB =>
    obtain ⟨hi0, hi, hs0, hs, hok⟩ := hok
    obtain ⟨i, rfl⟩ : ∃ j : Nat, i = j := ⟨i.toNat, by omega⟩
    obtain ⟨s, rfl⟩ : ∃ j : Nat, s = j := ⟨s.toNat, by omega⟩
    simp only [Int.toNat_natCast] at hi hs hok
    have hi : i < x.f3.length := by omega
    have hs : s < (nth x.f3 i).f3.length := by omega
    have HPQ := Aside0.mk hB
    have HA := Aside0.mk hA
    have HC := Aside0.mk hC
    have hql := hB.2.1
    obtain ⟨bd, rfl, _⟩ := Kd.at_int hB 0 (by omega) (by simp; omega)
    clear hB hA hC
    go_enter Tryd.func56, Tryd.ntmps56
    go_wp2_with (go_at_call 47; go_loud ((with_reducible refine (node_clone.fresh 1000000 x A c _ hcx hcx hc ?hC).mono ?_); (case hC => exact Kd.C_below HA.out (below_alloc (below_alloc (below_alloc (Below.refl _ _) _) _) _)); rintro e w1 ⟨v, rfl, hS, hB1⟩; obtain ⟨A1, c1, rfl⟩ := Kd.R_slice (Kd.S_R hS); have HS := Aside0.mk hS; obtain ⟨HX, HR0, HZ, HBW0, HSZ⟩ := withBoxes hB1; clear hS hB1; have x0 := blk_cell HX.out 0; have x1 := blk_cell HX.out 1; have x2 := blk_cell HX.out 2; have x3 := blk_cell HX.out 3; have y0 := blk_frozen HX.out 0; have y1 := blk_frozen HX.out 1; have y2 := blk_frozen HX.out 2; have y3 := blk_frozen HX.out 3))
    clear x0 x1 x2 x3 y0 y1 y2 y3
    have HCY : Aside0 (cnt (nth (nth x.f3 i).f3 s) ≤ 1000000) := ⟨by
      have h1 := cntL_get (l := x.f3) (j := i) (x := nth x.f3 i) (nth_some hi)
      have h2 := cntL_get (l := (nth x.f3 i).f3) (j := s) (x := nth (nth x.f3 i).f3 s) (nth_some hs)
      have h3 := cnt_eq x
      have h4 := cnt_eq (nth x.f3 i)
      omega⟩
    obtain ⟨W1, hW1⟩ : ∃ W1, W1 = set4 w1 w.heap.size (.int .i64 x.f0) (.string x.f1) (.int .i64 x.f2) (.slice A1 x.f3.length c1) := ⟨_, rfl⟩
    have hch : set4 w1 w.heap.size (.int .i64 x.f0) (.string x.f1) (.int .i64 x.f2) (.slice A1 x.f3.length c1) = (((w1.setCell ⟨w.heap.size, 0, none⟩ (.int .i64 x.f0)).setCell ⟨w.heap.size, 1, none⟩ (.string x.f1)).setCell ⟨w.heap.size, 2, none⟩ (.int .i64 x.f2)).setCell ⟨w.heap.size, 3, none⟩ (.slice A1 x.f3.length c1) := rfl
    rw [← hch, ← hW1]
    have HX1 : Aside0 (W1.heap[w.heap.size]? = some (.cells #[.int .i64 x.f0, .string x.f1, .int .i64 x.f2, .slice A1 x.f3.length c1] 24 (0, 0))) := ⟨by rw [hW1]; exact blk_put4 HX.out⟩
    have HR1 : Aside0 (W1.heap[w.heap.size + 1]? = some (.cells #[.int .i64 r.f0, .string r.f1, .int .i64 r.f2, .slice AR r.f3.length cR] 24 (0, 0))) := ⟨by rw [hW1, heap_set4 (by omega)]; exact HR0.out⟩
    have HZ1 : Aside0 (W1.heap[w.heap.size + 2]? = some (.cells #[.int .i64 0, .string ⟨#[]⟩, .int .i64 0, .slice none 0 0] 24 (0, 0))) := ⟨by rw [hW1, heap_set4 (by omega)]; exact HZ.out⟩
    have HBW : Aside0 (Below w.heap.size w W1) := ⟨by rw [hW1]; exact below_set4 HBW0.out (Nat.le_refl _)⟩
    have HSZ1 : Aside0 (w.heap.size + 3 ≤ W1.heap.size) := ⟨by rw [hW1, size_set4]; exact HSZ.out⟩
    have HS1 : Aside0 (Kd.S k24 24 W1 (w.heap.size + 3) (fun k => w.heap.size + 3 ≤ k) (.slice A1 x.f3.length c1) x.f3) := ⟨by
      rw [hW1]
      have hz : (((w.alloc (.cells #[.int .i64 x.f0, .string x.f1, .int .i64 x.f2, .slice A x.f3.length c] 24)).alloc (.cells #[.int .i64 r.f0, .string r.f1, .int .i64 r.f2, .slice AR r.f3.length cR] 24)).alloc (.cells #[.int .i64 0, .string ⟨#[]⟩, .int .i64 0, .slice none 0 0] 24)).heap.size = w.heap.size + 3 := by simp
      have h0 := HS.out
      rw [hz] at h0
      have hne : ∀ k, w.heap.size + 3 ≤ k → k ≠ w.heap.size := fun k hk => by omega
      exact Kd.S_far (p := ⟨w.heap.size, 3, none⟩) (Kd.S_far (p := ⟨w.heap.size, 2, none⟩) (Kd.S_far (p := ⟨w.heap.size, 1, none⟩) (Kd.S_far (p := ⟨w.heap.size, 0, none⟩) h0 hne _) hne _) hne _) hne _⟩
    clear hch hW1 HX HR0 HZ HBW0 HSZ HS
    obtain ⟨ad, g, c1', ad2, g2, c2, A5, c5, hv, Had, Had2, hc1, hc2, e3, n0, n1, n2, n3, q0, q1, q2, q3, hc5, HC5, Hg2, HSTEP⟩ := S_slot HS1.out hi hs
    injection hv with hv1 hv2 hv3
    subst hv1
    subst hv3
    obtain ⟨bd', hbd, hp0⟩ := Kd.at_int (Kd.C_below HPQ.out HBW.out) 0 (by omega) (by simp; omega)
    obtain ⟨bd'', hbd2, hp1⟩ := Kd.at_int (Kd.C_below HPQ.out HBW.out) 1 (by omega) (by simp; omega)
    injection hbd with hbd
    injection hbd2 with hbd2
    subst hbd
    subst hbd2
    have p0 : W1.cell? (bd.add 0) = some (.int .i64 i) := hp0
    have p0' : W1.cell? bd = some (.int .i64 i) := by have h := p0; rw [add_zero_] at h; exact h
    have p1 : W1.cell? ⟨bd.block, bd.off + 1, none⟩ = some (.int .i64 s) := hp1
    clear hp0 hp1
    have b3 := blk_cell HX1.out 3
    have hq2 : (2 : Int) ≤ (q.length : Int) + 1 + 1 := by omega
    go_region
    go_wp2
    refine start_ (n := 10) (S := fun w' => w'.cell? (ad2.add (s * 4)) = some (.int .i64 (nth (nth x.f3 i).f3 s).f0) ∧ w'.cell? ⟨(ad2.add (s * 4)).block, (ad2.add (s * 4)).off + 1, none⟩ = some (.string (nth (nth x.f3 i).f3 s).f1) ∧ w'.cell? ⟨(ad2.add (s * 4)).block, (ad2.add (s * 4)).off + 2, none⟩ = some (.int .i64 (nth (nth x.f3 i).f3 s).f2) ∧ w'.cell? ⟨(ad2.add (s * 4)).block, (ad2.add (s * 4)).off + 3, none⟩ = some (.slice A5 (nth (nth x.f3 i).f3 s).f3.length c5) ∧ w'.cell? ⟨w.heap.size + 1, 0, none⟩ = some (.int .i64 r.f0) ∧ w'.cell? ⟨w.heap.size + 1, 1, none⟩ = some (.string r.f1) ∧ w'.cell? ⟨w.heap.size + 1, 2, none⟩ = some (.int .i64 r.f2) ∧ w'.cell? ⟨w.heap.size + 1, 3, none⟩ = some (.slice AR r.f3.length cR)) (ds := [9]) #[false, false, false, false, false, false, false, false, false, false] (by kernel_rfl) rfl rfl ⟨n0, n1, n2, n3, blk_cell HR1.out 0, blk_cell HR1.out 1, blk_cell HR1.out 2, blk_cell HR1.out 3⟩ (fun hHeld => ?_); refine with_tabW node_with.r5.tab node_with.r5.bits (fun HT_ HW_ => ?_)
    refine pure_ (i := 0) (N := some 27) (v := ?_) (a' := ?_) #[true, false, false, false, false, false, false, false, false, false] rfl rfl (any_of HT_.out (by kernel_rfl)) (fun _ _ _ h => h) (Or.inl ⟨by rfl, ?_⟩) ?_ ?_
    rotate_left
    · intro w'
      go_simp
      with_reducible rfl
    rotate_left
    · simp only [Act.put, List.setIfInBounds_toArray, List.set_cons_zero, List.set_cons_succ, i64_w, i32_w]
      rfl
    refine pure_ (i := 1) (N := some 28) (v := ?_) (a' := ?_) #[true, true, false, false, false, false, false, false, false, false] rfl rfl (any_of HT_.out (by kernel_rfl)) (fun _ _ _ h => h) (Or.inl ⟨by rfl, ?_⟩) ?_ ?_
    rotate_left
    · intro w'
      go_simp
      with_reducible rfl
    rotate_left
    · simp only [Act.put, List.setIfInBounds_toArray, List.set_cons_zero, List.set_cons_succ, i64_w, i32_w]
      rfl
    refine pure_ (i := 2) (N := some 29) (v := ?_) (a' := ?_) #[true, true, true, false, false, false, false, false, false, false] rfl rfl (any_of HT_.out (by kernel_rfl)) (fun _ _ _ h => h) (Or.inl ⟨by rfl, ?_⟩) ?_ ?_
    rotate_left
    · intro w'
      go_simp
      with_reducible rfl
    rotate_left
    · simp only [Act.put, List.setIfInBounds_toArray, List.set_cons_zero, List.set_cons_succ, i64_w, i32_w]
      rfl
    refine take_ (i := 3) (N := some 30) (v := ?_) (a' := ?_) #[true, true, true, true, false, false, false, false, false, false] rfl rfl (take_ofW HT_.out HW_.out (by kernel_rfl)) (fun _ _ _ h => h) (Or.inl ⟨by rfl, ?_⟩) hHeld ?_ ?_
    rotate_left
    · rintro w' ⟨t0, t1, t2, t3, t4, t5, t6, t7⟩
      go_simp
      with_reducible rfl
    rotate_left
    · simp only [Act.put, List.setIfInBounds_toArray, List.set_cons_zero, List.set_cons_succ, i64_w, i32_w]
      rfl
    refine pure_ (i := 4) (N := some 31) (v := ?_) (a' := ?_) #[true, true, true, true, true, false, false, false, false, false] rfl rfl (any_of HT_.out (by kernel_rfl)) (fun _ _ _ h => h) (Or.inl ⟨by rfl, ?_⟩) ?_ ?_
    rotate_left
    · intro w'
      go_simp
      with_reducible rfl
    rotate_left
    · simp only [Act.put, List.setIfInBounds_toArray, List.set_cons_zero, List.set_cons_succ, i64_w, i32_w]
      rfl
    refine pure_ (i := 5) (N := some 32) (v := ?_) (a' := ?_) #[true, true, true, true, true, true, false, false, false, false] rfl rfl (any_of HT_.out (by kernel_rfl)) (fun _ _ _ h => h) (Or.inl ⟨by rfl, ?_⟩) ?_ ?_
    rotate_left
    · intro w'
      go_simp
      with_reducible rfl
    rotate_left
    · simp only [Act.put, List.setIfInBounds_toArray, List.set_cons_zero, List.set_cons_succ, i64_w, i32_w]
      rfl
    refine take_ (i := 6) (N := some 33) (v := ?_) (a' := ?_) #[true, true, true, true, true, true, true, false, false, false] rfl rfl (take_ofW HT_.out HW_.out (by kernel_rfl)) (fun _ _ _ h => h) (Or.inl ⟨by rfl, ?_⟩) hHeld ?_ ?_
    rotate_left
    · rintro w' ⟨t0, t1, t2, t3, t4, t5, t6, t7⟩
      go_simp
      with_reducible rfl
    rotate_left
    · simp only [Act.put, List.setIfInBounds_toArray, List.set_cons_zero, List.set_cons_succ, i64_w, i32_w]
      rfl
    refine one_ (i := 7) (N := some 34) #[true, true, true, true, true, true, true, true, false, false] rfl rfl (one_of HT_.out (by kernel_rfl)) (by decide) (fun K hK => ?_)
    refine goes_ Tryd.func56 (by kernel_rfl) rfl #[.agg #[.int .i64 (nth (nth x.f3 i).f3 s).f0, .string (nth (nth x.f3 i).f3 s).f1, .int .i64 (nth (nth x.f3 i).f3 s).f2, .slice A5 (nth (nth x.f3 i).f3 s).f3.length c5], .slice (if d = 2 then some bd else some ⟨bd.block, bd.off + 2, none⟩) q.length (d - 2), .agg #[.int .i64 r.f0, .string r.f1, .int .i64 r.f2, .slice AR r.f3.length cR]] (by rfl) rfl rfl (by (try simp only [List.map_toArray, List.map_cons, List.map_nil]); first | done | rfl | (simp only [List.length_drop, List.length_take]; rfl)) ?_
    have hcy : cnt (nth (nth x.f3 i).f3 s) ≤ 1000000 := HCY.out
    refine (ih (nth (nth x.f3 i).f3 s) q r A5 (if d = 2 then some bd else some ⟨bd.block, bd.off + 2, none⟩) AR c5 (d - 2) cR _ (by simp only [List.length_cons] at hm; omega) hok hcy hcr hc5 (by simp only [List.length_cons] at hd; omega) hR ?hA ?hB ?hC).mono ?_
    (case hA => exact Kd.C_below HC5.out (Below.drew (Below.drew (Below.refl _ _))))
    (case hB => exact Kd.C_drop (m := 2) (Kd.C_below HPQ.out (Below.drew (Below.drew HBW.out))) (by simp) hd)
    (case hC => exact Kd.C_below HC.out (Below.drew (Below.drew HBW.out)))
    rintro e w3 ⟨A7, c7, rfl, hl7, hF7, hb⟩
    have HB3 := Aside0.mk hb
    have HF7 := Aside0.mk hF7
    obtain ⟨t0, t1, t2, t3, t4, t5, t6, t7⟩ := hHeld
    refine ⟨_, rfl, ?_⟩
    refine hK.out _ _ ⟨hold_ hb t0, hold_ hb t1, hold_ hb t2, hold_ hb t3, hold_ hb t4, hold_ hb t5, hold_ hb t6, hold_ hb t7⟩ (fun hHeld => ?_)
    clear hK K
    refine norm_ (a' := ?_) ?_ ?_
    rotate_left
    · show Act.put _ (some 34) _ = _
      simp only [Act.put, List.setIfInBounds_toArray, List.set_cons_zero, List.set_cons_succ, i64_w, i32_w]
      rfl
    refine pure_ (i := 8) (N := some 35) (v := ?_) (a' := ?_) #[true, true, true, true, true, true, true, true, true, false] rfl rfl (any_of HT_.out (by kernel_rfl)) (fun _ _ _ h => h) (Or.inl ⟨by rfl, ?_⟩) ?_ ?_
    rotate_left
    · intro w'
      go_simp
      with_reducible rfl
    rotate_left
    · simp only [Act.put, List.setIfInBounds_toArray, List.set_cons_zero, List.set_cons_succ, i64_w, i32_w]
      rfl
    obtain ⟨Had2⟩ := Had2
    subst Had2
    simp only [add_plain] at hHeld q0 q1 q2 q3
    obtain ⟨t0, t1, t2, t3, _, _, _, _⟩ := hHeld
    have k0 : w3.frozen? ⟨g2, s * 4, none⟩ = false := (HB3.out.frozen Hg2.out.2).trans q0
    have k1 : w3.frozen? ⟨g2, s * 4 + 1, none⟩ = false := (HB3.out.frozen Hg2.out.2).trans q1
    have k2 : w3.frozen? ⟨g2, s * 4 + 2, none⟩ = false := (HB3.out.frozen Hg2.out.2).trans q2
    have k3 : w3.frozen? ⟨g2, s * 4 + 3, none⟩ = false := (HB3.out.frozen Hg2.out.2).trans q3
    refine last_ (i := 9) (N := none) #[true, true, true, true, true, true, true, true, true, true] rfl rfl (one_of HT_.out (by kernel_rfl)) (by decide) (fun K hK => ?_)
    refine skip_ (w1 := w3.setCells g2 (s * 4) [.int .i64 (withG (nth (nth x.f3 i).f3 s) q r).f0, .string (withG (nth (nth x.f3 i).f3 s) q r).f1, .int .i64 (withG (nth (nth x.f3 i).f3 s) q r).f2, .slice A7 (withG (nth (nth x.f3 i).f3 s) q r).f3.length c7]) (by rfl) rfl ?_ ?_
    · go_simp
      rfl
    refine hK.out _ _ ?_
    clear hK K
    
    refine done_ (done_of HT_.out (by kernel_rfl)) ?_
    have HB5 : Aside0 (Below W1.heap.size W1 w3) := ⟨below_then (Below.drew (Below.drew (Below.refl _ _))) (Nat.le_refl _) HB3.out⟩
    have HN4 := Aside0.mk (HSTEP.out w3 (withG (nth (nth x.f3 i).f3 s) q r) A7 c7 (fun k => W1.heap.size ≤ k) HB5.out hl7 HF7.out (fun k hk => ⟨by have := HSZ1.out; omega, hk⟩))
    have hg4 : g2 ≠ w.heap.size ∧ g2 ≠ w.heap.size + 2 ∧ w.heap.size ≤ g2 := by have := Hg2.out.1; omega
    have HX4 : Aside0 ((w3.setCells g2 (s * 4) [.int .i64 (withG (nth (nth x.f3 i).f3 s) q r).f0, .string (withG (nth (nth x.f3 i).f3 s) q r).f1, .int .i64 (withG (nth (nth x.f3 i).f3 s) q r).f2, .slice A7 (withG (nth (nth x.f3 i).f3 s) q r).f3.length c7]).heap[w.heap.size]? = some (.cells #[.int .i64 x.f0, .string x.f1, .int .i64 x.f2, .slice (some ad) x.f3.length c1] 24 (0, 0))) := ⟨by rw [heap_setCells4 (Ne.symm hg4.1), HB5.out.block _ (by have := HSZ1.out; omega)]; exact HX1.out⟩
    have HZ4 : Aside0 ((w3.setCells g2 (s * 4) [.int .i64 (withG (nth (nth x.f3 i).f3 s) q r).f0, .string (withG (nth (nth x.f3 i).f3 s) q r).f1, .int .i64 (withG (nth (nth x.f3 i).f3 s) q r).f2, .slice A7 (withG (nth (nth x.f3 i).f3 s) q r).f3.length c7]).heap[w.heap.size + 1 + 1]? = some (.cells #[.int .i64 0, .string ⟨#[]⟩, .int .i64 0, .slice none 0 0] 24 (0, 0))) := ⟨by rw [heap_setCells4 (by omega), HB5.out.block _ (by have := HSZ1.out; omega)]; exact HZ1.out⟩
    have HB4 : Aside0 (Below w.heap.size w (w3.setCells g2 (s * 4) [.int .i64 (withG (nth (nth x.f3 i).f3 s) q r).f0, .string (withG (nth (nth x.f3 i).f3 s) q r).f1, .int .i64 (withG (nth (nth x.f3 i).f3 s) q r).f2, .slice A7 (withG (nth (nth x.f3 i).f3 s) q r).f3.length c7])) := ⟨below_setCells4 (below_then HBW.out HBW.out.size HB5.out) hg4.2.2⟩
    clear t0 t1 t2 t3 k0 k1 k2 k3 hg4
    generalize hw4 : w3.setCells g2 (s * 4) [.int .i64 (withG (nth (nth x.f3 i).f3 s) q r).f0, .string (withG (nth (nth x.f3 i).f3 s) q r).f1, .int .i64 (withG (nth (nth x.f3 i).f3 s) q r).f2, .slice A7 (withG (nth (nth x.f3 i).f3 s) q r).f3.length c7] = w4 at HN4 HX4 HZ4 HB4 ⊢
    have x0 := blk_cell HX4.out 0
    have x1 := blk_cell HX4.out 1
    have x2 := blk_cell HX4.out 2
    have x3 := blk_cell HX4.out 3
    have r0 := blk_cell HZ4.out 0
    have r1 := blk_cell HZ4.out 1
    have r2 := blk_cell HZ4.out 2
    have r3 := blk_cell HZ4.out 3
    have z0 := blk_frozen HZ4.out 0
    have z1 := blk_frozen HZ4.out 1
    have z2 := blk_frozen HZ4.out 2
    have z3 := blk_frozen HZ4.out 3
    have HW : Aside0 (withG x (↑i :: ↑s :: q) r = ⟨x.f0, x.f1, x.f2, x.f3.set i ⟨(nth x.f3 i).f0, (nth x.f3 i).f1, (nth x.f3 i).f2, (nth x.f3 i).f3.set s (withG (nth (nth x.f3 i).f3 s) q r)⟩⟩) := ⟨by rw [withG]; simp only [Int.toNat_natCast]⟩
    have HL : Aside0 ((x.f3.set i ⟨(nth x.f3 i).f0, (nth x.f3 i).f1, (nth x.f3 i).f2, (nth x.f3 i).f3.set s (withG (nth (nth x.f3 i).f3 s) q r)⟩).length = x.f3.length) := ⟨List.length_set⟩
    go_wp2
    all_goals
      refine bodyPost_ret (results_cell_row rfl _ _ (w.heap.size + 1 + 1) 24 #[.int .i64 x.f0, .string x.f1, .int .i64 x.f2, .slice (some ad) x.f3.length c1] (0, 0) _ rfl (blk_put4 HZ4.out) Tryd.underlying24 rfl (by kernel_rfl)) rfl ?_
      rw [HW.out]
      refine ⟨some ad, c1, by rw [HL.out], by rw [HL.out]; exact hc1, ?_, below_set4 HB4.out (by omega)⟩
      rw [HL.out]
      exact Kd.F_mono (F_set4 (Kd.N_F HN4.out) (fun k hk => by omega)) (fun k hk => by omega)
theorem row_ok : ∀ (m : Nat) (x : S24) (p : List Int), p.length ≤ m → (rowG x p).2 = true → WithOk x p := by
  intro m
  induction m with
  | zero =>
    intro x p hm h
    have hp : p = [] := List.eq_nil_of_length_eq_zero (by omega)
    subst hp
    exact trivial
  | succ m ih =>
    intro x p hm h
    match p, hm, h with
    | [], _, _ => exact trivial
    | [_], _, h => rw [rowG] at h; cases h
    | i :: s :: q, hm, h =>
      rw [rowG] at h
      split at h
      · rename_i hh
        exact ⟨hh.1, hh.2.1, hh.2.2.1, hh.2.2.2, ih _ _ (by simp only [List.length_cons] at hm; omega) h⟩
      · cases h
def node_with.f (a0_0 : Int) (a0_1 : ByteArray) (a0_2 : Int) (l0_3 : List S24) (l1 : List Int) (a2_0 : Int) (a2_1 : ByteArray) (a2_2 : Int) (l2_3 : List S24) : Option (Int × ByteArray × Int × List S24) :=
  if (rowG ⟨a0_0, a0_1, a0_2, l0_3⟩ l1).2 = true ∧ cntL l0_3 < 1000000 ∧ cntL l2_3 < 1000000 then some ((withG ⟨a0_0, a0_1, a0_2, l0_3⟩ l1 ⟨a2_0, a2_1, a2_2, l2_3⟩).f0, (withG ⟨a0_0, a0_1, a0_2, l0_3⟩ l1 ⟨a2_0, a2_1, a2_2, l2_3⟩).f1, (withG ⟨a0_0, a0_1, a0_2, l0_3⟩ l1 ⟨a2_0, a2_1, a2_2, l2_3⟩).f2, (withG ⟨a0_0, a0_1, a0_2, l0_3⟩ l1 ⟨a2_0, a2_1, a2_2, l2_3⟩).f3) else none
theorem node_with.calls (a0_0 : Int) (a0_1 : ByteArray) (a0_2 : Int) (A0_3 : Option Addr) (c0_3 : Nat) (l0_3 : List S24) (P1 : Nat → Prop) (A1 : Option Addr) (c1 : Nat) (l1 : List Int) (a2_0 : Int) (a2_1 : ByteArray) (a2_2 : Int) (A2_3 : Option Addr) (c2_3 : Nat) (l2_3 : List S24) (r1 : Int) (r2 : ByteArray) (r3 : Int) (r4 : List S24) (w : World) (hr0_3 : Kd.C k24 w A0_3 l0_3.length l0_3) (hc0_3 : l0_3.length ≤ c0_3) (hs1 : Kd.V (Kd.int .i64) 3 w w.heap.size (fun k_ => P1 k_) (.slice A1 l1.length c1) l1) (hr2_3 : Kd.C k24 w A2_3 l2_3.length l2_3) (hc2_3 : l2_3.length ≤ c2_3) (h : node_with.f a0_0 a0_1 a0_2 l0_3 l1 a2_0 a2_1 a2_2 l2_3 = some (r1, r2, r3, r4)) :
    Calls Tryd.prog 56 #[.agg #[.int .i64 a0_0, .string a0_1, .int .i64 a0_2, .slice A0_3 l0_3.length c0_3], .slice A1 l1.length c1, .agg #[.int .i64 a2_0, .string a2_1, .int .i64 a2_2, .slice A2_3 l2_3.length c2_3]] w fun e w' => ∃ v3_ : Value, e = .returned (.agg #[.int .i64 r1, .string r2, .int .i64 r3, v3_]) ∧ Kd.V k24 24 w' w.heap.size (fun k_ => P1 k_ ∨ w.heap.size ≤ k_) v3_ r4 ∧ Below w.heap.size w w' := by
  unfold node_with.f at h
  split at h
  · rename_i hh
    simp only [Option.some.injEq, Prod.mk.injEq] at h
    obtain ⟨rfl, rfl, rfl, rfl⟩ := h
    obtain ⟨A4, c4, h1, hl1, hF1⟩ := hs1
    injection h1 with h1a h1b h1c
    subst h1a
    subst h1c
    refine (with_any l1.length ⟨a0_0, a0_1, a0_2, l0_3⟩ l1 ⟨a2_0, a2_1, a2_2, l2_3⟩ A0_3 A1 A2_3 c0_3 c1 c2_3 w (Nat.le_refl _) (row_ok _ _ _ (Nat.le_refl _) hh.1) (by rw [cnt_eq]; have := hh.2.1; simp only; omega) (by rw [cnt_eq]; have := hh.2.2; simp only; omega) hc0_3 hl1 hc2_3 hr0_3 (Kd.F_now hF1) hr2_3).mono ?_
    rintro e w' ⟨A', c', rfl, hl, hF, hb⟩
    exact ⟨_, rfl, ⟨A', c', rfl, hl, Kd.F_mono hF (fun k hk => .inr hk)⟩, hb⟩
  · cases h
end Go.Proofs.YtgcpfelccfnnbaaDoor.X
