/-
Part 3 of the texts of this proof: the walks through the program's functions.
-/
import Derived.StillTailTactics
import Derived.Test.YtgcpfelccfnnbaaDoorMCounts2
namespace Go.Proofs.YtgcpfelccfnnbaaDoor.X
open Go.RowKit Go.Proofs.YtgcpfelccfnnbaaDoorW.PrintWords Go.Proofs.YtgcpfelccfnnbaaDoorW.PrintLast Go.Proofs.YtgcpfelccfnnbaaDoorW.PrintMore
attribute [local go_sem] max2_int min2_int max_two min_two max_three min_three max_four min_four   -- for this text's walks alone
set_option linter.unusedVariables false
set_option linter.unusedSimpArgs false
set_option maxRecDepth 100000 in
set_option maxHeartbeats 1000000 in
theorem equal_any (N : Nat) : EqSpec 49 N := by
  induction N with
  | zero => intro x y A B c d w h; have := cnt_pos x; omega
  | succ N ih =>
  intro x y A B c d w hN hc hd hA hB
  have hsub : cntL x.f3 ≤ N := by rw [cnt_eq] at hN; omega
  obtain ⟨f0, f1, f2, l⟩ := x
  obtain ⟨g0, g1, g2, m⟩ := y
  simp only at hsub hc hd hA hB ⊢
  have hbb : ∀ o1 o2 : Obj, Aside0 (Below w.heap.size w ((w.alloc o1).alloc o2)) := fun o1 o2 => ⟨below_alloc (below_alloc (Below.refl _ _) _) _⟩
  have hstep := fun o1 o2 : Obj => equalFunc_step N ih l m A B c d ((w.alloc o1).alloc o2) hsub hc hd (Kd.C_below hA (hbb o1 o2).out) (Kd.C_below hB (hbb o1 o2).out)
  have HST := Aside0.mk hstep
  clear hstep ih hA hB hN
  by_cases h0 : f0 = g0
  · by_cases h1 : f1.data.toList = g1.data.toList
    · by_cases h2 : f2 = g2
      · have HR : Aside0 (eqN ⟨f0, f1, f2, l⟩ ⟨g0, g1, g2, m⟩ = eqL l m) := ⟨by rw [eqN, decide_eq_true h0, decide_eq_true h1, decide_eq_true h2]; rfl⟩
        have q0 : (f0 == g0) = true := beq_iff_eq.2 h0
        have q1 : (f1.toList == g1.toList) = true := by rw [ba_toList, ba_toList, h1]; simp
        have q2 : (f2 == g2) = true := beq_iff_eq.2 h2
        clear h0 h1 h2
        go_enter Tryd.func49, Tryd.ntmps49
        go_wp2_with (go_at_call 48; go_loud (refine (HST.out _ _).mono ?_; rintro e w3 ⟨rfl, hb3⟩))
        go_ret
        exact ⟨by rw [HR.out]; rfl, below_then (hbb _ _).out (hbb _ _).out.size hb3⟩
      · have HR : Aside0 (eqN ⟨f0, f1, f2, l⟩ ⟨g0, g1, g2, m⟩ = false) := ⟨by rw [eqN, decide_eq_true h0, decide_eq_true h1, decide_eq_false h2]; rfl⟩
        have q0 : (f0 == g0) = true := beq_iff_eq.2 h0
        have q1 : (f1.toList == g1.toList) = true := by rw [ba_toList, ba_toList, h1]; simp
        have q2 : (f2 == g2) = false := beq_eq_false_iff_ne.2 h2
        clear h0 h1 h2
        go_enter Tryd.func49, Tryd.ntmps49
        go_wp2_with fail
        go_ret
        exact ⟨by rw [HR.out]; rfl, (hbb _ _).out⟩
    · have HR : Aside0 (eqN ⟨f0, f1, f2, l⟩ ⟨g0, g1, g2, m⟩ = false) := ⟨by rw [eqN, decide_eq_true h0, decide_eq_false h1]; rfl⟩
      have q0 : (f0 == g0) = true := beq_iff_eq.2 h0
      have q1 : (f1.toList == g1.toList) = false := by rw [ba_toList, ba_toList]; simpa using h1
      clear h0 h1
      go_enter Tryd.func49, Tryd.ntmps49
      go_wp2_with fail
      go_ret
      exact ⟨by rw [HR.out]; rfl, (hbb _ _).out⟩
  · have HR : Aside0 (eqN ⟨f0, f1, f2, l⟩ ⟨g0, g1, g2, m⟩ = false) := ⟨by rw [eqN, decide_eq_false h0]; rfl⟩
    have q0 : (f0 == g0) = false := beq_eq_false_iff_ne.2 h0
    clear h0
    go_enter Tryd.func49, Tryd.ntmps49
    go_wp2_with fail
    go_ret
    exact ⟨by rw [HR.out]; rfl, (hbb _ _).out⟩
def node_Equal.f (a0_0 : Int) (a0_1 : ByteArray) (a0_2 : Int) (l0_3 : List S24) (a1_0 : Int) (a1_1 : ByteArray) (a1_2 : Int) (l1_3 : List S24) : Option Bool := some (eqN ⟨a0_0, a0_1, a0_2, l0_3⟩ ⟨a1_0, a1_1, a1_2, l1_3⟩)
theorem node_Equal.calls (a0_0 : Int) (a0_1 : ByteArray) (a0_2 : Int) (A0_3 : Option Addr) (c0_3 : Nat) (l0_3 : List S24) (a1_0 : Int) (a1_1 : ByteArray) (a1_2 : Int) (A1_3 : Option Addr) (c1_3 : Nat) (l1_3 : List S24) (r : Bool) (w : World) (hr0_3 : Kd.C k24 w A0_3 l0_3.length l0_3) (hc0_3 : l0_3.length ≤ c0_3) (hr1_3 : Kd.C k24 w A1_3 l1_3.length l1_3) (hc1_3 : l1_3.length ≤ c1_3) (h : node_Equal.f a0_0 a0_1 a0_2 l0_3 a1_0 a1_1 a1_2 l1_3 = some r) :
    Calls Tryd.prog 49 #[.agg #[.int .i64 a0_0, .string a0_1, .int .i64 a0_2, .slice A0_3 l0_3.length c0_3], .agg #[.int .i64 a1_0, .string a1_1, .int .i64 a1_2, .slice A1_3 l1_3.length c1_3]] w fun e w' => e = .returned (.bool r) ∧ Below w.heap.size w w' := by
  unfold node_Equal.f at h
  injection h with h
  subst h
  exact equal_any _ ⟨a0_0, a0_1, a0_2, l0_3⟩ ⟨a1_0, a1_1, a1_2, l1_3⟩ A0_3 A1_3 c0_3 c1_3 w (Nat.le_refl _) hc0_3 hc1_3 hr0_3 hr1_3
theorem equalFunc_any (l ys : List S24) (A B : Option Addr) (c d : Nat) (w : World) (hc : l.length ≤ c) (hd : ys.length ≤ d) (hA : Kd.C k24 w A l.length l) (hB : Kd.C k24 w B ys.length ys) :
    Calls Tryd.prog 48 #[.slice A l.length c, .slice B ys.length d, .func (.func 49) #[] #[]] w fun e w' => e = .returned (.bool (eqL l ys)) ∧ Below w.heap.size w w' :=
  equalFunc_step (cntL l) (equal_any _) l ys A B c d w (Nat.le_refl _) hc hd hA hB
def api_Node_48.f (l0 l1 : List S24) : Option Bool := some (eqL l0 l1)
theorem api_Node_48.calls (A0 : Option Addr) (c0 : Nat) (l0 : List S24) (A1 : Option Addr) (c1 : Nat) (l1 : List S24) (r : Bool) (w : World) (hr0 : Kd.C k24 w A0 l0.length l0) (hc0 : l0.length ≤ c0) (hr1 : Kd.C k24 w A1 l1.length l1) (hc1 : l1.length ≤ c1) (h : api_Node_48.f l0 l1 = some r) :
    Calls Tryd.prog 48 #[.slice A0 l0.length c0, .slice A1 l1.length c1, .func (.func 49) #[] #[]] w fun e w' => e = .returned (.bool r) ∧ Below w.heap.size w w' := by
  unfold api_Node_48.f at h
  injection h with h
  subst h
  exact equalFunc_any l0 l1 A0 A1 c0 c1 w hc0 hc1 hr0 hr1
end Go.Proofs.YtgcpfelccfnnbaaDoor.X
namespace Go.Proofs.YtgcpfelccfnnbaaDoor.X
open Go.RowKit Go.Proofs.YtgcpfelccfnnbaaDoorW.PrintWords Go.Proofs.YtgcpfelccfnnbaaDoorW.PrintLast Go.Proofs.YtgcpfelccfnnbaaDoorW.PrintMore
attribute [local go_sem] max2_int min2_int max_two min_two max_three min_three max_four min_four   -- for this text's walks alone
set_option linter.unusedVariables false
set_option linter.unusedSimpArgs false
/-- What holds at the head of round i of the loop over the copied row. -/
def CRel (w0 : World) (l : List S24) (f0 : Int) (f1 : ByteArray) (f2 : Int) (A1 : Option Addr) (c1 : Nat) (i : Nat) (wr : World) : Prop :=
  Below w0.heap.size w0 wr ∧ wr.heap[w0.heap.size]? = some (.cells #[.int .i64 f0, .string f1, .int .i64 f2, .slice A1 l.length c1] 24 (0, 0)) ∧ wr.heap[w0.heap.size + 1]? = some (.cells #[.int .i64 0, .string ⟨#[]⟩, .int .i64 0, .slice none 0 0] 24 (0, 0)) ∧
  ∃ (rows : List (List Value)) (b : Nat → Nat), rows.length = l.length ∧ (Kd.raw 4).R 24 wr w0.heap.size (fun k => some k = (Value.slice A1 l.length c1).ownBlock) (.slice A1 l.length c1) rows ∧ (∀ k, (Value.slice A1 l.length c1).ownBlock = some k → w0.heap.size + 2 ≤ k ∧ k < b 0) ∧ (∀ j, j < i → b j ≤ b (j + 1)) ∧ w0.heap.size + 2 ≤ b 0 ∧ b i ≤ wr.heap.size ∧
  (∀ j x c, j < i → l[j]? = some x → rows[j]? = some c → k24.M wr w0.heap.size (fun k => b j ≤ k ∧ k < b (j + 1)) x c) ∧ (∀ j x c, i ≤ j → l[j]? = some x → rows[j]? = some c → Kd.FK k24 w0 (fun k => k < w0.heap.size) x c)
theorem b_mono {b : Nat → Nat} {i : Nat} (h : ∀ j, j < i → b j ≤ b (j + 1)) : ∀ j, j ≤ i → b 0 ≤ b j := by
  intro j
  induction j with
  | zero => intro _; exact Nat.le_refl _
  | succ j ih => intro hj; exact Nat.le_trans (ih (by omega)) (h j (by omega))
theorem b_mono2 {b : Nat → Nat} {i : Nat} (h : ∀ j, j < i → b j ≤ b (j + 1)) : ∀ j' j, j ≤ j' → j' ≤ i → b j ≤ b j' := by
  intro j'
  induction j' with
  | zero => intro j hj _; have : j = 0 := (by omega); subst this; exact Nat.le_refl _
  | succ j' ih =>
    intro j hj hi
    rcases Nat.lt_or_ge j (j' + 1) with h1 | h1
    · exact Nat.le_trans (ih j (by omega) (by omega)) (h j' (by omega))
    · have : j = j' + 1 := by omega
      subst this
      exact Nat.le_refl _
theorem CRel_drew {w0 wr : World} {l : List S24} {f0 : Int} {f1 : ByteArray} {f2 : Int} {A1 : Option Addr} {c1 i : Nat} (h : CRel w0 l f0 f1 f2 A1 c1 i wr) : CRel w0 l f0 f1 f2 A1 c1 i wr.drew := by
  obtain ⟨hB, hb, hr, rows, b, hl, hraw, hown, hmono, hb0, hbi, hM, hF⟩ := h
  exact ⟨below_drew hB, hb, hr, rows, b, hl, Kd.R_drew hraw, hown, hmono, hb0, hbi, fun j x c hj hx hc => Kd.M_below (hM j x c hj hx hc) (below_drew (Below.refl _ _)), hF⟩
theorem CRel_start {w0 w1 : World} {l : List S24} {f0 : Int} {f1 : ByteArray} {f2 : Int} {A1 : Option Addr} {c1 : Nat} {o1 : Obj} (hlt : w0.heap.size + 2 ≤ w1.heap.size)
    (hR : (held k24 w0 (fun k => k < w0.heap.size)).R 24 w1 (w0.heap.size + 2) (fun k => w0.heap.size + 2 ≤ k) (.slice A1 l.length c1) l) (hB : Below w0.heap.size w0 w1)
    (hb : w1.heap[w0.heap.size]? = some (.cells #[.int .i64 f0, .string f1, .int .i64 f2, .slice A1 l.length c1] 24 (0, 0))) (hr : w1.heap[w0.heap.size + 1]? = some (.cells #[.int .i64 0, .string ⟨#[]⟩, .int .i64 0, .slice none 0 0] 24 (0, 0))) :
    CRel w0 l f0 f1 f2 A1 c1 0 w1 := by
  obtain ⟨rows, hl, hraw, hf⟩ := R_raw hR
  have hlt2 := Kd.R_lt hR
  refine ⟨hB, hb, hr, rows, fun _ => w1.heap.size, hl, Kd.R_lower hraw (by omega), fun k hk => ⟨hR.1 k hk, hlt2 k hk⟩, fun j hj => by omega, hlt, Nat.le_refl _, fun j x c hj => by omega, fun j x c _ hx hc => hf j x c hx hc⟩
/-- Element i of the row: its cells and what they read as. -/
theorem CRel_elem {w0 wr : World} {l : List S24} {f0 : Int} {f1 : ByteArray} {f2 : Int} {A1 : Option Addr} {c1 i : Nat} (h : CRel w0 l f0 f1 f2 A1 c1 i wr) (hi : i < l.length) :
    ∃ g A3 c3, A1 = some ⟨g, 0, none⟩ ∧ w0.heap.size + 2 ≤ g ∧ (∃ cells, wr.heap[g]? = some (.cells cells 24 (0, 0))) ∧ (nth l i).f3.length ≤ c3 ∧ Kd.C k24 w0 A3 (nth l i).f3.length (nth l i).f3 ∧
    wr.cell? ⟨g, i * 4, none⟩ = some (.int .i64 (nth l i).f0) ∧ wr.cell? ⟨g, i * 4 + 1, none⟩ = some (.string (nth l i).f1) ∧ wr.cell? ⟨g, i * 4 + 2, none⟩ = some (.int .i64 (nth l i).f2) ∧ wr.cell? ⟨g, i * 4 + 3, none⟩ = some (.slice A3 (nth l i).f3.length c3) := by
  obtain ⟨hB, hb, hr, rows, b, hl, hraw, hown, hmono, hb0, hbi, hM, hF⟩ := h
  obtain ⟨A, c, hv⟩ := Kd.R_slice hraw
  have hpos : 0 < rows.length := by omega
  obtain ⟨g, cap, hg, hge, hgl, hcells⟩ := Kd.R_form hraw hpos
  injection hg with hg1 hg2 hg3
  subst hg1
  obtain ⟨c', hcl, hMM, hcc, hfr⟩ := Kd.R_elem hraw [] (i : Int) (by omega) (by omega)
  simp only [Int.toNat_natCast] at hMM hcc
  have hrow : rows[i]? = some c' := by
    have h2 := hMM.1
    rw [List.getD_eq_getElem?_getD, List.getElem?_eq_getElem (by omega)] at h2
    rw [List.getElem?_eq_getElem (by omega)]
    simp at h2
    rw [h2]
  have hx : l[i]? = some (nth l i) := nth_some hi
  have hk := hF i _ _ (Nat.le_refl _) hx hrow
  obtain ⟨A3, c3, rfl, l3, g3⟩ := k24_open (Kd.FK_now hk)
  exact ⟨g, A3, c3, rfl, (hown g (by simp [Value.ownBlock])).1, hcells, l3, g3, hcc 0 _ rfl, hcc 1 _ rfl, hcc 2 _ rfl, hcc 3 _ rfl⟩
/-- The same, the address a letter. -/
theorem CRel_elemA {w0 wr : World} {l : List S24} {f0 : Int} {f1 : ByteArray} {f2 : Int} {A1 : Option Addr} {c1 i : Nat} (h : CRel w0 l f0 f1 f2 A1 c1 i wr) (hi : i < l.length) :
    ∃ ad g A3 c3, A1 = some ad ∧ Aside0 (ad = ⟨g, 0, none⟩) ∧ Aside0 (w0.heap.size + 2 ≤ g) ∧ Aside0 (∃ cells, wr.heap[g]? = some (.cells cells 24 (0, 0))) ∧ (nth l i).f3.length ≤ c3 ∧ Aside0 (Kd.C k24 w0 A3 (nth l i).f3.length (nth l i).f3) ∧
    wr.cell? (ad.add (i * 4)) = some (.int .i64 (nth l i).f0) ∧ wr.cell? ⟨(ad.add (i * 4)).block, (ad.add (i * 4)).off + 1, none⟩ = some (.string (nth l i).f1) ∧ wr.cell? ⟨(ad.add (i * 4)).block, (ad.add (i * 4)).off + 2, none⟩ = some (.int .i64 (nth l i).f2) ∧ wr.cell? ⟨(ad.add (i * 4)).block, (ad.add (i * 4)).off + 3, none⟩ = some (.slice A3 (nth l i).f3.length c3) := by
  obtain ⟨g, A3, c3, hA, hg, hcells, h1, h2, e0, e1, e2, e3⟩ := CRel_elem h hi
  exact ⟨⟨g, 0, none⟩, g, A3, c3, hA, ⟨rfl⟩, ⟨hg⟩, ⟨hcells⟩, h1, ⟨h2⟩, by rw [add_plain]; exact e0, by rw [add_plain]; exact e1, by rw [add_plain]; exact e2, by rw [add_plain]; exact e3⟩
/-- The round: element i has been copied (the call), its cells are stored. -/
theorem CRel_step {w0 wr w2 : World} {l : List S24} {f0 : Int} {f1 : ByteArray} {f2 : Int} {g c1 i : Nat} {v : Value} (h : CRel w0 l f0 f1 f2 (some ⟨g, 0, none⟩) c1 i wr) (hi : i < l.length) (hb2 : Below wr.heap.size wr w2)
    (hv : Kd.R k24 24 w2 wr.heap.size (fun k => wr.heap.size ≤ k) v (nth l i).f3) :
    CRel w0 l f0 f1 f2 (some ⟨g, 0, none⟩) c1 (i + 1) (w2.setCells g (i * 4) [.int .i64 (nth l i).f0, .string (nth l i).f1, .int .i64 (nth l i).f2, v]) := by
  obtain ⟨hB, hb, hr, rows, b, hl, hraw, hown, hmono, hb0, hbi, hM, hF⟩ := h
  have hx : l[i]? = some (nth l i) := nth_some hi
  have hg := hown g (by simp [Value.ownBlock])
  have hsz := hB.size
  have hraw2 := Kd.R_below hraw hb2
  obtain ⟨c', hcl, hMM, hcc, hfr⟩ := Kd.R_elem hraw2 [] (i : Int) (by omega) (by omega)
  have hone : ∀ u ∈ ([.int .i64 (nth l i).f0, .string (nth l i).f1, .int .i64 (nth l i).f2, v] : List Value), u.oneCell' = true := by
    intro u hu
    simp only [List.mem_cons, List.mem_nil_iff, or_false] at hu
    rcases hu with rfl | rfl | rfl | rfl
    · rfl
    · rfl
    · rfl
    · obtain ⟨A, c, rfl⟩ := Kd.R_slice hv; rfl
  have hcat : c'.take 0 ++ [Value.int .i64 (nth l i).f0, .string (nth l i).f1, .int .i64 (nth l i).f2, v] ++ c'.drop (0 + 4) = [Value.int .i64 (nth l i).f0, .string (nth l i).f1, .int .i64 (nth l i).f2, v] := by
    have h4 : c'.length = 4 := hcl
    rw [List.take_zero, List.nil_append, List.drop_eq_nil_of_le (by omega), List.append_nil]
  obtain ⟨hset, hgrow⟩ := Kd.R_seg hraw2 (i : Int) (by omega) (by omega) (seg := [.int .i64 (nth l i).f0, .string (nth l i).f1, .int .i64 (nth l i).f2, v]) (j := 0) (x' := [.int .i64 (nth l i).f0, .string (nth l i).f1, .int .i64 (nth l i).f2, v]) (okp := fun _ => False) hcl hcc (by show 0 + 4 ≤ 4; omega) (by show (Kd.raw 4).M _ _ _ _ (c'.take 0 ++ _ ++ c'.drop (0 + 4)); rw [hcat]; exact ⟨rfl, rfl, hone⟩) (fun _ h => h.elim)
  simp only [Int.toNat_natCast, Nat.add_zero] at hset hgrow
  have hszg : w2.heap.size ≤ (w2.setCells g (i * 4) [.int .i64 (nth l i).f0, .string (nth l i).f1, .int .i64 (nth l i).f2, v]).heap.size := hgrow.size
  have hfar : ∀ k, k < w2.heap.size → k ≠ g → (w2.setCells g (i * 4) [.int .i64 (nth l i).f0, .string (nth l i).f1, .int .i64 (nth l i).f2, v]).heap[k]? = w2.heap[k]? := fun k hk hne => hgrow.block k hk (fun he => hne (by injection he))
  have hw2 : wr.heap.size ≤ w2.heap.size := hb2.size
  obtain ⟨b', hbe, hbs⟩ : ∃ b' : Nat → Nat, (∀ j, j ≤ i → b' j = b j) ∧ b' (i + 1) = w2.heap.size := ⟨fun j => if j ≤ i then b j else w2.heap.size, fun j hj => if_pos hj, if_neg (by omega)⟩
  have hbz := hbe 0 (Nat.zero_le _)
  have hbb := b_mono hmono i (Nat.le_refl _)
  refine ⟨(below_then hB hsz hb2).grown hgrow (by omega) (fun k hk => by injection hk with hk; omega), ?_, ?_, rows.set i _, b', by rw [List.length_set]; exact hl, hset, fun k hk => ⟨(hown k hk).1, by rw [hbz]; exact (hown k hk).2⟩, fun j hj => ?_, by rw [hbz]; exact hb0, by rw [hbs]; exact hszg, ?_, ?_⟩
  · rw [hfar _ (by omega) (by omega), hb2.block _ (by omega)]; exact hb
  · rw [hfar _ (by omega) (by omega), hb2.block _ (by omega)]; exact hr
  · rw [hbe j (by omega)]
    by_cases h1 : j < i
    · rw [hbe (j + 1) (by omega)]; exact hmono j h1
    · have : j = i := by omega
      subst this
      rw [hbs]
      omega
  · intro j x c hj hxj hcj
    rw [hbe j (by omega)]
    by_cases h1 : j < i
    · rw [List.getElem?_set_ne (by omega)] at hcj
      rw [hbe (j + 1) (by omega)]
      have h3 := hM j x c h1 hxj hcj
      have hb1 := b_mono2 hmono i (j + 1) (by omega) (Nat.le_refl _)
      have hbj := b_mono hmono j (by omega)
      exact k24.M_move (fun k hk => hfar k (by omega) (by omega)) (Kd.M_below h3 hb2)
    · have : j = i := by omega
      subst this
      rw [List.getElem?_set_self (by omega)] at hcj
      injection hcj with hcj
      rw [hx] at hxj
      injection hxj with hxj
      subst hcj
      rw [hbs, ← hxj]
      have h4 := Kd.R_mono (Kd.R_bound hv) (ok' := fun k => b j ≤ k ∧ k < w2.heap.size) (fun k hk => ⟨by have := hk.1; omega, hk.2.2.1⟩)
      have hbj := b_mono hmono j (by omega)
      have h5 := Kd.R_step (w1 := w2.setCells g (j * 4) [.int .i64 (nth l j).f0, .string (nth l j).f1, .int .i64 (nth l j).f2, v]) h4 (fun k hk hlt => hfar k hlt (by omega))
      exact k24.M_lower (by omega) (k24_mkM _ _ _ _ h5)
  · intro j x c hj hxj hcj
    rw [List.getElem?_set_ne (by omega)] at hcj
    exact hF j x c (by omega) hxj hcj
/-- Behind the loop: the row, its elements apart. -/
theorem CRel_end {w0 wr : World} {l : List S24} {f0 : Int} {f1 : ByteArray} {f2 : Int} {A1 : Option Addr} {c1 : Nat} (h : CRel w0 l f0 f1 f2 A1 c1 l.length wr) : Kd.S k24 24 wr w0.heap.size (fun k => w0.heap.size + 2 ≤ k) (.slice A1 l.length c1) l := by
  obtain ⟨hB, hb, hr, rows, b, hl, hraw, hown, hmono, hb0, hbi, hM, hF⟩ := h
  have hex : ∃ f : Nat → Nat, ∀ j k, j < l.length → b j ≤ k → k < b (j + 1) → f k = j := by
    refine ⟨fun k => if h : ∃ j, j < l.length ∧ b j ≤ k ∧ k < b (j + 1) then h.choose else 0, fun j k hj h1 h2 => ?_⟩
    have h3 : ∃ j, j < l.length ∧ b j ≤ k ∧ k < b (j + 1) := ⟨j, hj, h1, h2⟩
    simp only [dif_pos h3]
    obtain ⟨h4, h5, h6⟩ := h3.choose_spec
    rcases Nat.lt_trichotomy h3.choose j with hlt | heq | hgt
    · have := b_mono2 hmono j (h3.choose + 1) hlt (by omega); omega
    · exact heq
    · have := b_mono2 hmono h3.choose (j + 1) hgt (by omega); omega
  obtain ⟨f, hf⟩ := hex
  refine ⟨f, raw_R_of (d := Kd.tag f k24) hraw (by rw [List.length_zipIdx]; exact hl) (fun k hk => (hown k hk).1) (fun j p c hp hc => ?_)⟩
  have hjl : j < l.length := by have := (List.getElem?_eq_some_iff.1 hc).1; omega
  rw [List.getElem?_zipIdx, List.getElem?_eq_getElem hjl] at hp
  simp only [Option.map_some, Option.some.injEq, Nat.zero_add] at hp
  subst hp
  have h3 := hM j _ c hjl (List.getElem?_eq_getElem hjl) hc
  have hbj := b_mono hmono j (by omega)
  refine k24.M_mono (fun k hk => ⟨⟨?_, fun he => ?_⟩, hf j k hjl hk.1 hk.2⟩) h3
  · have := hk.1; omega
  · have := (hown k he.symm).2; omega
end Go.Proofs.YtgcpfelccfnnbaaDoor.X
namespace Go.Proofs.YtgcpfelccfnnbaaDoor.X
open Go.RowKit Go.Proofs.YtgcpfelccfnnbaaDoorW.PrintWords Go.Proofs.YtgcpfelccfnnbaaDoorW.PrintLast Go.Proofs.YtgcpfelccfnnbaaDoorW.PrintMore
attribute [local go_sem] max2_int min2_int max_two min_two max_three min_three max_four min_four   -- for this text's walks alone
set_option linter.unusedVariables false
set_option linter.unusedSimpArgs false
def api_Node_54.f (l0 : List S24) : Option (List S24) := if l0.length * 56 ≤ 140737488355328 then some l0 else none
set_option maxRecDepth 100000 in
set_option maxHeartbeats 400000 in
theorem api_Node_54.fresh (P : Nat → Prop) (A0 : Option Addr) (c0 : Nat) (l0 : List S24) (w : World) (hr0 : Kd.F k24 w P A0 l0.length l0) (hlen : l0.length * 56 ≤ 140737488355328) :
    Calls Tryd.prog 54 #[.slice A0 l0.length c0] w fun e w' => ∃ v_ : Value, e = .returned v_ ∧ (held k24 w P).R 24 w' w.heap.size (fun k => w.heap.size ≤ k) v_ l0 ∧ Below w.heap.size w w' := by
  have hu24 := Tryd.underlying22
  cases A0 with
  | none =>
    have hl : l0 = [] := C_nil_list (Kd.F_now hr0)
    subst hl
    have hq : ∀ w, Sem.run Tryd.prog (binOp BinOp.eql 22 (Value.slice none 0 c0) (Value.slice none 0 0)) w = Result.ok (Value.bool true) w := fun w => Lib.run_eql_slice_nil (P:=Tryd.prog) w 22 24 none 0 c0 0 0 Tryd.underlying22
    go_enter Tryd.func54, Tryd.ntmps54
    go_wp2_with fail
    go_ret
    exact ⟨_, rfl, Kd.R_nil _ _ _ _ _, Below.refl _ _⟩
  | some ad =>
    have hq := fun w => Lib.run_eql_slice_nil (P:=Tryd.prog) w 22 24 (some ad) l0.length c0 0 0 Tryd.underlying22
    go_enter Tryd.func54, Tryd.ntmps54
    go_wp2_with (at_builtin; go_loud (refine Kd.R_append_rows (held k24 w P) (Rr := Kd.FK k24 w P) (w0 := w) w.heap.size rfl (.tmp 5) (.tmp 6) 22 24 _ 56 rfl Tryd.underlying22 infoN rfl (show 0 < 4 from by decide) (by omega) (.slice (some ⟨w.heap.size, 0, none⟩) 0 0) [] l0 (some ad) l0.length c0 (fun k => w.heap.size ≤ k) (fun _ => False) rfl rfl ?aO ?aR (fun _ _ h => h) (fun _ h => h.elim) ?aF ?aB ?aS ?aL ?_; (case aO => exact R_lit0 _ _ _ _ _ (Nat.le_refl _) (Nat.le_refl _)); (case aR => exact (Kd.F_rows hr0).imp_ (below_alloc (Below.refl _ _) _) (fun _ _ h => h)); (case aF => exact fun k hk => (Nat.le_trans (by simp) hk)); (case aB => exact (Below.refl _ _).alloc (Nat.le_refl _) _); (case aS => simp); (case aL => simpa using hlen); intro v1 w1 HN HB HG HA))
    go_ret
    exact ⟨_, rfl, by simpa using HN, HB⟩
theorem api_Node_54.calls (P0_ : Nat → Prop) (A0 : Option Addr) (c0 : Nat) (l0 : List S24) (r : List S24) (w : World) (hs0 : Kd.V k24 24 w w.heap.size (fun k_ => P0_ k_) (.slice A0 l0.length c0) l0) (h : api_Node_54.f l0 = some r) :
    Calls Tryd.prog 54 #[.slice A0 l0.length c0] w fun e w' => ∃ v_ : Value, e = .returned v_ ∧ Kd.N k24 24 w' w.heap.size (fun k_ => (P0_ k_ ∨ w.heap.size ≤ k_)) v_ r ∧ Below w.heap.size w w' := by
  have hlen : l0.length * 56 ≤ 140737488355328 := by
    unfold api_Node_54.f at h; split at h; assumption; cases h
  have hr : l0 = r := by
    unfold api_Node_54.f at h; rw [if_pos hlen] at h; injection h
  subst hr
  refine (api_Node_54.fresh P0_ A0 c0 l0 w (Kd.V_F hs0) hlen).mono ?_
  rintro e w' ⟨v_, rfl, hR, hB⟩
  exact ⟨v_, rfl, held_N hR hB (fun k hk => hk) (fun k hk => .inr hk) (fun k hk => .inl hk), hB⟩
end Go.Proofs.YtgcpfelccfnnbaaDoor.X
namespace Go.Proofs.YtgcpfelccfnnbaaDoor.X
open Go.RowKit Go.Proofs.YtgcpfelccfnnbaaDoorW.PrintWords Go.Proofs.YtgcpfelccfnnbaaDoorW.PrintLast Go.Proofs.YtgcpfelccfnnbaaDoorW.PrintMore
attribute [local go_sem] max2_int min2_int max_two min_two max_three min_three max_four min_four   -- for this text's walks alone
set_option linter.unusedVariables false
set_option linter.unusedSimpArgs false
def edit_clone.T5 : Bool × List (List Nat × List Nat) := (true, [([], []), ([0], [0]), ([], []), ([], []), ([3], [3]), ([], []), ([4, 5], [4, 5]), ([6], [6]), ([7], [7]), ([1, 2, 0, 1, 2, 3, 4, 5, 6, 7, 8], [1, 2]), ([9, 8, 8, 0, 1, 2, 3, 4, 5, 6, 7, 8], [8, 9])])
def edit_clone.B5 : List Nat := [0, 1, 0, 0, 8, 0, 56, 120, 248, 511, 1023]
theorem edit_clone.tab5 : rtab .any (opsOf Tryd.f37 5) = edit_clone.T5 := by kernel_rfl
theorem edit_clone.bits5 : waitsOk edit_clone.T5.2 edit_clone.B5 = true := by kernel_rfl
set_option maxRecDepth 100000 in
set_option maxHeartbeats 2000000 in
theorem edit_clone.fresh (m : Nat) : ∀ (x : S24) (A : Option Addr) (c : Nat) (w : World), cnt x ≤ m → cnt x ≤ 1000000 → x.f3.length ≤ c → Kd.C k24 w A x.f3.length x.f3 →
    Calls Tryd.prog 37 #[.agg #[.int .i64 x.f0, .string x.f1, .int .i64 x.f2, .slice A x.f3.length c]] w fun e w' => ∃ v : Value, e = .returned (.agg #[.int .i64 x.f0, .string x.f1, .int .i64 x.f2, v]) ∧ Kd.S k24 24 w' w.heap.size (fun k => w.heap.size ≤ k) v x.f3 ∧ Below w.heap.size w w' := by
  induction m with
  | zero => intro x A c w h; have := cnt_pos x; omega
  | succ m ih =>
  intro x A c w hm hM hc hC
  have hlen : x.f3.length * 56 ≤ 140737488355328 := by
    have := cntL_len x.f3; rw [cnt_eq] at hM; omega
  have hcnt := cnt_eq x
  obtain ⟨f0, f1, f2, l⟩ := x
  simp only at hc hC hlen hcnt ⊢
  have hsub : ∀ i, i < l.length → cnt (nth l i) ≤ m ∧ cnt (nth l i) ≤ 1000000 := fun i hi => by
    have := cntL_get (l := l) (j := i) (x := nth l i) (nth_some hi)
    omega
  have HS := Aside0.mk hsub
  clear hsub
  have HC := Aside0.mk hcnt
  clear hcnt
  have hlen2 : l.length ≤ 2513169434917 := by omega
  go_enter Tryd.func37, Tryd.ntmps37
  go_wp2_with (go_at_call 54; (with_reducible refine (api_Node_54.fresh (fun k => k < w.heap.size) A c l _ ?hF hlen).mono ?_); (case hF => exact Kd.F_below (Kd.C_F k24_heap hC) (below_alloc (below_alloc (Below.refl _ _) _) _)); rintro e w1 ⟨v, rfl, hR, hB⟩; obtain ⟨A1, c1, rfl⟩ := Kd.R_slice hR; have hBk : w1.heap[w.heap.size]? = some (.cells #[.int .i64 f0, .string f1, .int .i64 f2, .slice A l.length c] 24 (0, 0)) := (hB.block _ (by simp; omega)).trans (alloc2_fst _ _ _); have hRk : w1.heap[w.heap.size + 1]? = some (.cells #[.int .i64 0, .string ⟨#[]⟩, .int .i64 0, .slice none 0 0] 24 (0, 0)) := (hB.block _ (by simp)).trans (alloc2_snd _ _ _); have c3 := blk_cell hBk 3; have z3 := blk_frozen hBk 3)
  go_loopg [11] l.length (fun kq v11 w' => ∃ i : Nat, v11 = .int .i64 i ∧ Aside0 (i + kq = l.length) ∧ Aside0 (CRel w l f0 f1 f2 A1 c1 i w'))
  case atStart =>
    refine ⟨0, rfl, ⟨by omega⟩, ⟨?_⟩⟩
    have hsz := hB.size
    rw [size_alloc2] at hsz
    have hR2 := held_back hR (below_alloc (below_alloc (Below.refl _ _) _) _) (fun k hk => hk)
    rw [size_alloc2] at hR2
    refine CRel_start (o1 := .cells #[] 0) (by simpa using hsz) (Kd.R_far (p := ⟨w.heap.size, 3, none⟩) hR2 (fun k hk => by show k ≠ w.heap.size; omega) _) ?_ ?_ ?_
    · exact Below.setCell ((below_alloc (below_alloc (Below.refl _ _) _) _).trans ⟨hB.os, hB.tape, hB.output, hB.size, fun k hk => hB.block k (by rw [size_alloc2]; omega)⟩) (Nat.le_refl _) _
    · exact blk_put hBk 3 _ rfl
    · exact blk_far hRk (by show w.heap.size + 1 ≠ w.heap.size; omega) _
  case round =>
    clear hR hB hBk hRk c3 z3
    obtain ⟨i, rfl, HK, HR⟩ := hrel
    by_cases hlt : i < l.length
    · obtain ⟨ad, g, A3, c3, rfl, Had, Hge, Hcells, hl3, HC3, e0, e1, e2, e3⟩ := CRel_elemA HR.out hlt
      have b3 : wr.cell? ⟨w.heap.size, 3, none⟩ = some (.slice (some ad) l.length c1) := blk_cell HR.out.2.1 3
      go_wp2
      refine start_ (n := 11) (S := fun w' => w'.cell? ⟨w.heap.size, 3, none⟩ = some (.slice (some ad) l.length c1) ∧ w'.cell? (ad.add (i * 4)) = some (.int .i64 (nth l i).f0) ∧ w'.cell? ⟨(ad.add (i * 4)).block, (ad.add (i * 4)).off + 1, none⟩ = some (.string (nth l i).f1) ∧ w'.cell? ⟨(ad.add (i * 4)).block, (ad.add (i * 4)).off + 2, none⟩ = some (.int .i64 (nth l i).f2) ∧ w'.cell? ⟨(ad.add (i * 4)).block, (ad.add (i * 4)).off + 3, none⟩ = some (.slice A3 (nth l i).f3.length c3)) (ds := [10]) #[false, false, false, false, false, false, false, false, false, false, false] (by kernel_rfl) rfl rfl ⟨b3, e0, e1, e2, e3⟩ (fun hHeld => ?_); refine with_tabW edit_clone.tab5 edit_clone.bits5 (fun HT_ HW_ => ?_)
      have HR2 : Aside0 (CRel w l f0 f1 f2 (some ad) c1 i wr.drew) := ⟨CRel_drew HR.out⟩
      clear HR b3 e0 e1 e2 e3 Hcells
      generalize wr.drew = w2 at HR2 hHeld ⊢
      refine pure_ (i := 0) (N := some 14) (v := ?_) (a' := ?_) #[true, false, false, false, false, false, false, false, false, false, false] rfl rfl (any_of HT_.out (by kernel_rfl)) (fun _ _ _ h => h) (Or.inl ⟨by rfl, ?_⟩) ?_ ?_
      rotate_left
      · intro w'
        go_simp
        with_reducible rfl
      rotate_left
      · simp only [Act.put, List.setIfInBounds_toArray, List.set_cons_zero, List.set_cons_succ, i64_w, i32_w]
        rfl
      refine pure_ (i := 2) (N := some 16) (v := ?_) (a' := ?_) #[true, false, true, false, false, false, false, false, false, false, false] rfl rfl (any_of HT_.out (by kernel_rfl)) (fun _ _ _ h => h) (Or.inl ⟨by rfl, ?_⟩) ?_ ?_
      rotate_left
      · intro w'
        go_simp
        with_reducible rfl
      rotate_left
      · simp only [Act.put, List.setIfInBounds_toArray, List.set_cons_zero, List.set_cons_succ, i64_w, i32_w]
        rfl
      refine pure_ (i := 3) (N := some 17) (v := ?_) (a' := ?_) #[true, false, true, true, false, false, false, false, false, false, false] rfl rfl (any_of HT_.out (by kernel_rfl)) (fun _ _ _ h => h) (Or.inl ⟨by rfl, ?_⟩) ?_ ?_
      rotate_left
      · intro w'
        go_simp
        with_reducible rfl
      rotate_left
      · simp only [Act.put, List.setIfInBounds_toArray, List.set_cons_zero, List.set_cons_succ, i64_w, i32_w]
        rfl
      refine pure_ (i := 5) (N := some 19) (v := ?_) (a' := ?_) #[true, false, true, true, false, true, false, false, false, false, false] rfl rfl (any_of HT_.out (by kernel_rfl)) (fun _ _ _ h => h) (Or.inl ⟨by rfl, ?_⟩) ?_ ?_
      rotate_left
      · intro w'
        go_simp
        with_reducible rfl
      rotate_left
      · simp only [Act.put, List.setIfInBounds_toArray, List.set_cons_zero, List.set_cons_succ, i64_w, i32_w]
        rfl
      refine take_ (i := 1) (N := some 15) (v := ?_) (a' := ?_) #[true, true, true, true, false, true, false, false, false, false, false] rfl rfl (take_ofW HT_.out HW_.out (by kernel_rfl)) (fun _ _ _ h => h) (Or.inl ⟨by rfl, ?_⟩) hHeld ?_ ?_
      rotate_left
      · rintro w' ⟨s3, t0, t1, t2, t3⟩
        go_simp
        with_reducible rfl
      rotate_left
      · simp only [Act.put, List.setIfInBounds_toArray, List.set_cons_zero, List.set_cons_succ, i64_w, i32_w]
        rfl
      refine take_ (i := 4) (N := some 18) (v := ?_) (a' := ?_) #[true, true, true, true, true, true, false, false, false, false, false] rfl rfl (take_ofW HT_.out HW_.out (by kernel_rfl)) (fun _ _ _ h => h) (Or.inl ⟨by rfl, ?_⟩) hHeld ?_ ?_
      rotate_left
      · rintro w' ⟨s3, t0, t1, t2, t3⟩
        go_simp
        with_reducible rfl
      rotate_left
      · simp only [Act.put, List.setIfInBounds_toArray, List.set_cons_zero, List.set_cons_succ, i64_w, i32_w]
        rfl
      refine pure_ (i := 6) (N := some 20) (v := ?_) (a' := ?_) #[true, true, true, true, true, true, true, false, false, false, false] rfl rfl (any_of HT_.out (by kernel_rfl)) (fun _ _ _ h => h) (Or.inl ⟨by rfl, ?_⟩) ?_ ?_
      rotate_left
      · intro w'
        go_simp
        with_reducible rfl
      rotate_left
      · simp only [Act.put, List.setIfInBounds_toArray, List.set_cons_zero, List.set_cons_succ, i64_w, i32_w]
        rfl
      refine take_ (i := 7) (N := some 21) (v := ?_) (a' := ?_) #[true, true, true, true, true, true, true, true, false, false, false] rfl rfl (take_ofW HT_.out HW_.out (by kernel_rfl)) (fun _ _ _ h => h) (Or.inl ⟨by rfl, ?_⟩) hHeld ?_ ?_
      rotate_left
      · rintro w' ⟨s3, t0, t1, t2, t3⟩
        go_simp
        with_reducible rfl
      rotate_left
      · simp only [Act.put, List.setIfInBounds_toArray, List.set_cons_zero, List.set_cons_succ, i64_w, i32_w]
        rfl
      refine one_ (i := 8) (N := some 22) #[true, true, true, true, true, true, true, true, true, false, false] rfl rfl (one_of HT_.out (by kernel_rfl)) (by decide) (fun K hK => ?_)
      refine goes_ Tryd.func37 (by kernel_rfl) rfl #[.agg #[.int .i64 (nth l i).f0, .string (nth l i).f1, .int .i64 (nth l i).f2, .slice A3 (nth l i).f3.length c3]] (by rfl) rfl rfl (by (try simp only [List.map_toArray, List.map_cons, List.map_nil]); first | done | rfl | (simp only [List.length_drop, List.length_take]; rfl)) ?_
      with_reducible refine (ih (nth l i) A3 c3 w2 (HS.out i hlt).1 (HS.out i hlt).2 hl3 ?hC).mono ?_
      (case hC => exact Kd.C_below HC3.out HR2.out.1)
      rintro e w3 ⟨v, rfl, hv, hb⟩
      refine ⟨_, rfl, ?_⟩
      obtain ⟨rfl⟩ := Had
      have hcells : ∃ cells, w3.heap[g]? = some (.cells cells 24 (0, 0)) := by
        obtain ⟨g', A3', c3', hA, _, hcs, _⟩ := CRel_elem HR2.out hlt
        injection hA with hA
        injection hA with hA
        subst hA
        obtain ⟨cells, hcs⟩ := hcs
        exact ⟨cells, (hb.block _ (blk_lt hcs)).trans hcs⟩
      obtain ⟨cells, hcells⟩ := hcells
      have z0 : w3.frozen? ⟨g, i * 4, none⟩ = false := blk_frozen hcells _
      have z1 : w3.frozen? ⟨g, i * 4 + 1, none⟩ = false := blk_frozen hcells _
      have z2 : w3.frozen? ⟨g, i * 4 + 2, none⟩ = false := blk_frozen hcells _
      have z3 : w3.frozen? ⟨g, i * 4 + 3, none⟩ = false := blk_frozen hcells _
      have HH := hHeld
      simp only [add_plain] at HH
      obtain ⟨b3, e0, e1, e2, e3⟩ := HH
      have hc := fun {a : Addr} {u : Value} (h : w2.cell? a = some u) => (hb.cell (World.block_lt_of_cell? _ _ h)).trans h
      replace b3 := hc b3
      replace e0 := hc e0
      replace e1 := hc e1
      replace e2 := hc e2
      replace e3 := hc e3
      have h5 := hc hHeld.2.1
      have h6 := hc hHeld.2.2.1
      have h7 := hc hHeld.2.2.2.1
      have h8 := hc hHeld.2.2.2.2
      clear hc
      have HN : Aside0 (CRel w l f0 f1 f2 (some ⟨g, 0, none⟩) c1 (i + 1) (w3.setCells g (i * 4) [.int .i64 (nth l i).f0, .string (nth l i).f1, .int .i64 (nth l i).f2, v])) := ⟨CRel_step HR2.out hlt hb (Kd.S_R hv)⟩
      obtain ⟨A4, c4, rfl⟩ := Kd.R_slice (Kd.S_R hv)
      refine hK.out _ _ ⟨b3, h5, h6, h7, h8⟩ (fun hHeld => ?_)
      clear hK K hv hb hcells HR2
      refine norm_ (a' := ?_) ?_ ?_
      rotate_left
      · show Act.put _ (some 22) _ = _
        simp only [Act.put, List.setIfInBounds_toArray, List.set_cons_zero, List.set_cons_succ, i64_w, i32_w]
        rfl
      refine pure_ (i := 9) (N := some 23) (v := ?_) (a' := ?_) #[true, true, true, true, true, true, true, true, true, true, false] rfl rfl (any_of HT_.out (by kernel_rfl)) (fun _ _ _ h => h) (Or.inl ⟨by rfl, ?_⟩) ?_ ?_
      rotate_left
      · intro w'
        go_simp
        with_reducible rfl
      rotate_left
      · simp only [Act.put, List.setIfInBounds_toArray, List.set_cons_zero, List.set_cons_succ, i64_w, i32_w]
        rfl
      refine last_ (i := 10) (N := none) #[true, true, true, true, true, true, true, true, true, true, true] rfl rfl (one_of HT_.out (by kernel_rfl)) (by decide) (fun K hK => ?_)
      refine skip_ (w1 := ?_) (by rfl) rfl ?_ ?_
      rotate_left
      · go_simp
        rfl
      refine hK.out _ _ ?_
      clear hK K
      refine done_ (done_of HT_.out (by kernel_rfl)) ?_
      try go_wp2
      have hkp : ∃ k', gk = k' + 1 := ⟨gk - 1, by have := HK.out; omega⟩
      obtain ⟨k', rfl⟩ := hkp
      go_roundg k'
      case measure => omega
      case rel => exact ⟨i + 1, by go_num, ⟨by have := HK.out; omega⟩, HN⟩
    · have hil : i = l.length := by have := HK.out; omega
      have BK := HR.out.2.1
      have RK := HR.out.2.2.1
      have HE : Aside0 (Kd.S k24 24 wr w.heap.size (fun k => w.heap.size + 2 ≤ k) (.slice A1 l.length c1) l) := ⟨by have h := HR.out; rw [hil] at h; exact CRel_end h⟩
      have HB := HR.out.1
      clear hil
      have b0 := blk_cell BK 0
      have b1 := blk_cell BK 1
      have b2 := blk_cell BK 2
      have b3 := blk_cell BK 3
      have r0 := blk_cell RK 0
      have r1 := blk_cell RK 1
      have r2 := blk_cell RK 2
      have r3 := blk_cell RK 3
      have z0 := blk_frozen RK 0
      have z1 := blk_frozen RK 1
      have z2 := blk_frozen RK 2
      have z3 := blk_frozen RK 3
      go_wp2
      refine bodyPost_ret (results_cell_row rfl _ _ (w.heap.size + 1) 24 #[.int .i64 f0, .string f1, .int .i64 f2, .slice A1 l.length c1] (0, 0) _ rfl (by refine blk_put (cs := #[.int .i64 f0, .string f1, .int .i64 f2, .slice none 0 0]) ?_ 3 _ rfl; refine blk_put (cs := #[.int .i64 f0, .string f1, .int .i64 0, .slice none 0 0]) ?_ 2 _ rfl; refine blk_put (cs := #[.int .i64 f0, .string ⟨#[]⟩, .int .i64 0, .slice none 0 0]) ?_ 1 _ rfl; refine blk_put (cs := #[.int .i64 0, .string ⟨#[]⟩, .int .i64 0, .slice none 0 0]) ?_ 0 _ rfl; exact RK) Tryd.underlying24 rfl (by kernel_rfl)) rfl ?_
      have hne : ∀ k, w.heap.size + 2 ≤ k → k ≠ w.heap.size + 1 := fun k hk => by omega
      exact ⟨_, rfl, Kd.S_mono (Kd.S_far (p := ⟨w.heap.size + 1, 3, none⟩) (Kd.S_far (p := ⟨w.heap.size + 1, 2, none⟩) (Kd.S_far (p := ⟨w.heap.size + 1, 1, none⟩) (Kd.S_far (p := ⟨w.heap.size + 1, 0, none⟩) HE.out hne _) hne _) hne _) hne _) (fun k hk => by omega), (((HB.setCell (by simp) _).setCell (by simp) _).setCell (by simp) _).setCell (by simp) _⟩
def edit_clone.f (a0_0 : Int) (a0_1 : ByteArray) (a0_2 : Int) (l0_3 : List S24) : Option (Int × ByteArray × Int × List S24) := if cntL l0_3 < 1000000 then some (a0_0, a0_1, a0_2, l0_3) else none
theorem edit_clone.calls (a0_0 : Int) (a0_1 : ByteArray) (a0_2 : Int) (A0_3 : Option Addr) (c0_3 : Nat) (l0_3 : List S24) (r1 : Int) (r2 : ByteArray) (r3 : Int) (r4 : List S24) (w : World) (hr0_3 : Kd.C k24 w A0_3 l0_3.length l0_3) (hc0_3 : l0_3.length ≤ c0_3) (h : edit_clone.f a0_0 a0_1 a0_2 l0_3 = some (r1, r2, r3, r4)) :
    Calls Tryd.prog 37 #[.agg #[.int .i64 a0_0, .string a0_1, .int .i64 a0_2, .slice A0_3 l0_3.length c0_3]] w fun e w' => ∃ v3_ : Value, e = .returned (.agg #[.int .i64 r1, .string r2, .int .i64 r3, v3_]) ∧ Kd.R k24 24 w' w.heap.size (fun _ => True) v3_ r4 ∧ Below w.heap.size w w' := by
  unfold edit_clone.f at h
  split at h
  · simp only [Option.some.injEq, Prod.mk.injEq] at h
    obtain ⟨rfl, rfl, rfl, rfl⟩ := h
    refine (edit_clone.fresh 1000000 ⟨a0_0, a0_1, a0_2, l0_3⟩ A0_3 c0_3 w (by rw [cnt_eq]; simp only; omega) (by rw [cnt_eq]; simp only; omega) hc0_3 hr0_3).mono ?_
    rintro e w' ⟨v, rfl, hv, hb⟩
    exact ⟨v, rfl, Kd.R_mono (Kd.S_R hv) (fun _ _ => trivial), hb⟩
  · cases h
end Go.Proofs.YtgcpfelccfnnbaaDoor.X
namespace Go.Proofs.YtgcpfelccfnnbaaDoor.X
open Go.RowKit Go.Proofs.YtgcpfelccfnnbaaDoorW.PrintWords Go.Proofs.YtgcpfelccfnnbaaDoorW.PrintLast Go.Proofs.YtgcpfelccfnnbaaDoorW.PrintMore
attribute [local go_sem] max2_int min2_int max_two min_two max_three min_three max_four min_four   -- for this text's walks alone
set_option linter.unusedVariables false
set_option linter.unusedSimpArgs false
/-- A row with other items in slot i. -/
def filledL (l : List S24) (i : Nat) (k : List S24) : List S24 := l.set i ⟨(nth l i).f0, (nth l i).f1, (nth l i).f2, k⟩
/-- An element of a row of one's own, the address a letter. -/
theorem elemN {wr : World} {l : List S24} {v : Value} {base i : Nat} {ok : Nat → Prop} (h : Kd.N k24 24 wr base ok v l) (hi : i < l.length) :
    ∃ ad g c A3 c3, v = .slice (some ad) l.length c ∧ Aside0 (ad = ⟨g, 0, none⟩) ∧ Aside0 (base ≤ g ∧ g < wr.heap.size) ∧ l.length ≤ c ∧ (nth l i).f3.length ≤ c3 ∧ Aside0 (Kd.F k24 wr (fun k => ok k ∧ k ≠ g) A3 (nth l i).f3.length (nth l i).f3) ∧
    wr.cell? (ad.add (i * 4)) = some (.int .i64 (nth l i).f0) ∧ wr.cell? ⟨(ad.add (i * 4)).block, (ad.add (i * 4)).off + 1, none⟩ = some (.string (nth l i).f1) ∧ wr.cell? ⟨(ad.add (i * 4)).block, (ad.add (i * 4)).off + 2, none⟩ = some (.int .i64 (nth l i).f2) ∧ wr.cell? ⟨(ad.add (i * 4)).block, (ad.add (i * 4)).off + 3, none⟩ = some (.slice A3 (nth l i).f3.length c3) ∧
    wr.frozen? (ad.add (i * 4)) = false ∧ wr.frozen? ⟨(ad.add (i * 4)).block, (ad.add (i * 4)).off + 1, none⟩ = false ∧ wr.frozen? ⟨(ad.add (i * 4)).block, (ad.add (i * 4)).off + 2, none⟩ = false ∧ wr.frozen? ⟨(ad.add (i * 4)).block, (ad.add (i * 4)).off + 3, none⟩ = false := by
  obtain ⟨A, c, rfl⟩ := Kd.N_slice h
  obtain ⟨g, cap, hg, hge, hgl, hcells⟩ := Kd.N_form h (by omega)
  injection hg with hg1 hg2 hg3
  subst hg1
  obtain ⟨cs, hcl, hK, hcc, hfr⟩ := Kd.N_elem h z24 (i : Int) (by omega) (by omega)
  simp only [Int.toNat_natCast] at hK hcc hfr
  obtain ⟨A3, c3, rfl, hl3, hF3⟩ := k24_openF hK
  have hnx : l.getD i z24 = nth l i := rfl
  rw [hnx] at hcc hl3 hF3
  have hc : l.length ≤ c := (Kd.N_reads' h).2.1
  exact ⟨⟨g, 0, none⟩, g, c, A3, c3, rfl, ⟨rfl⟩, ⟨⟨hge, hgl⟩⟩, hc, hl3, ⟨hF3⟩, by rw [add_plain]; exact hcc 0 _ rfl, by rw [add_plain]; exact hcc 1 _ rfl, by rw [add_plain]; exact hcc 2 _ rfl, by rw [add_plain]; exact hcc 3 _ rfl, by rw [add_plain]; exact hfr 0, by rw [add_plain]; exact hfr 1, by rw [add_plain]; exact hfr 2, by rw [add_plain]; exact hfr 3⟩
/-- Its slot is filled: the world, the row. -/
theorem N_fill {w : World} {l k : List S24} {ad : Addr} {c base i c1 : Nat} {A1 : Option Addr} {ok P : Nat → Prop} (h : Kd.N k24 24 w base ok (.slice (some ad) l.length c) l) (hi : i < l.length)
    (hc1 : k.length ≤ c1) (hF : Kd.F k24 w P A1 k.length k) (hP : ∀ k, P k → ok k ∧ k ≠ ad.block) :
    Kd.N k24 24 (w.setCell ⟨(ad.add (i * 4)).block, (ad.add (i * 4)).off + 3, none⟩ (.slice A1 k.length c1)) base ok (.slice (some ad) l.length c) (filledL l i k) := by
  obtain ⟨g, cap, hg, hge, hgl, hcells⟩ := Kd.N_form h (by omega)
  injection hg with hg1 hg2 hg3
  injection hg1 with hg1
  subst hg1
  obtain ⟨cs, hcl, hK, hcc, hfr⟩ := Kd.N_elem h z24 (i : Int) (by omega) (by omega)
  simp only [Int.toNat_natCast] at hK hcc
  obtain ⟨A3, c3, rfl, hl3, hF3⟩ := k24_openF hK
  have hnx : l.getD i z24 = nth l i := rfl
  rw [hnx] at hcc hl3 hF3
  have h2 := (Kd.N_seg h (i : Int) (by omega) (by omega) (seg := [.slice A1 k.length c1]) (j := 3) (x' := ⟨(nth l i).f0, (nth l i).f1, (nth l i).f2, k⟩) (okp := P) hcl (fun j u h => by simp only [Int.toNat_natCast]; exact hcc j u h) (by show 3 + 1 ≤ 4; omega) (k24_mkF _ _ ⟨(nth l i).f0, (nth l i).f1, (nth l i).f2, k⟩ hc1 hF) hP).1
  simp only [Int.toNat_natCast] at h2
  rw [add_plain]
  exact h2
theorem cells_set {W : World} {g : Nat} {cs : Array Value} {p : Addr} {u : Value} (h : W.heap[g]? = some (.cells cs 24 (0, 0))) (hp : p.block ≠ g) : (W.setCell p u).heap[g]? = some (.cells cs 24 (0, 0)) := by rw [Below.heap_setCell _ _ _ _ (Ne.symm hp)]; exact h
/-- The copy, its slot: what is read and written behind the copying. -/
theorem fillFacts {w w1 : World} {o1 : Obj} {ad : Addr} {g : Nat} {u3 u : Value} {v0 v1 v2 v3 : Value} (i : Nat) (hB : Below ((w.alloc o1).alloc (.cells #[.int .i64 0, .string ⟨#[]⟩, .int .i64 0, .slice none 0 0] 24)).heap.size ((w.alloc o1).alloc (.cells #[.int .i64 0, .string ⟨#[]⟩, .int .i64 0, .slice none 0 0] 24)) w1) (Had : ad = ⟨g, 0, none⟩) (Hg : ((w.alloc o1).alloc (.cells #[.int .i64 0, .string ⟨#[]⟩, .int .i64 0, .slice none 0 0] 24)).heap.size ≤ g ∧ g < w1.heap.size)
    (h3 : w1.cell? ⟨(ad.add (i * 4)).block, (ad.add (i * 4)).off + 3, none⟩ = some u3) (m3 : w1.frozen? ⟨(ad.add (i * 4)).block, (ad.add (i * 4)).off + 3, none⟩ = false) :
    Aside0 (w1.heap[w.heap.size + 1]? = some (.cells #[.int .i64 0, .string ⟨#[]⟩, .int .i64 0, .slice none 0 0] 24 (0, 0))) ∧ Aside0 (w.heap.size + 1 < w1.heap.size) ∧ Aside0 (w.heap.size + 2 ≤ g ∧ g < w1.heap.size) ∧
    (w1.alloc (.cells #[v0, v1, v2, v3] 24)).cell? ⟨(ad.add (i * 4)).block, (ad.add (i * 4)).off + 3, none⟩ = some u3 ∧ (w1.alloc (.cells #[v0, v1, v2, v3] 24)).frozen? ⟨(ad.add (i * 4)).block, (ad.add (i * 4)).off + 3, none⟩ = false ∧
    ∀ W3, W3 = (w1.alloc (.cells #[v0, v1, v2, v3] 24)).setCell ⟨(ad.add (i * 4)).block, (ad.add (i * 4)).off + 3, none⟩ u → W3.heap[w1.heap.size]? = some (.cells #[v0, v1, v2, v3] 24 (0, 0)) ∧ W3.heap[w.heap.size + 1]? = some (.cells #[.int .i64 0, .string ⟨#[]⟩, .int .i64 0, .slice none 0 0] 24 (0, 0)) := by
  subst Had
  have h1 := hB.size
  have h2 := hB.block (w.heap.size + 1) (by rw [size_alloc2]; omega)
  rw [size_alloc2] at h1 Hg
  have h4 : ((⟨g, 0, none⟩ : Addr).add (i * 4)).block = g := by rw [add_plain]
  have h5 := World.block_lt_of_cell? _ _ h3
  refine ⟨⟨h2.trans (alloc2_snd _ _ _)⟩, ⟨by omega⟩, ⟨by omega⟩, ?_, ?_, ?_⟩
  · rw [← h3]; exact (below_alloc (Below.refl _ _) _).cell h5
  · rw [← m3]; exact (below_alloc (Below.refl _ _) _).frozen h5
  · rintro _ rfl
    refine ⟨cells_set (heap_alloc_new _ _) ?_, cells_set ((Below.heap_alloc _ _ _ (by omega)).trans (h2.trans (alloc2_snd _ _ _))) ?_⟩
    · show ((⟨g, 0, none⟩ : Addr).add (i * 4)).block ≠ _
      omega
    · show ((⟨g, 0, none⟩ : Addr).add (i * 4)).block ≠ _
      omega
set_option maxRecDepth 100000 in
set_option maxHeartbeats 2000000 in
theorem filled_any (x : S24) (i : Nat) (k : List S24) (A A1 : Option Addr) (c c1 : Nat) (P : Nat → Prop) (w : World) (hx : cntL x.f3 < 1000000) (hi : i < x.f3.length) (hc : x.f3.length ≤ c) (hc1 : k.length ≤ c1) (hC : Kd.C k24 w A x.f3.length x.f3) (hF : Kd.F k24 w P A1 k.length k) :
    Calls Tryd.prog 50 #[.agg #[.int .i64 x.f0, .string x.f1, .int .i64 x.f2, .slice A x.f3.length c], .int .i64 i, .slice A1 k.length c1] w fun e w' => ∃ (A' : Option Addr) (c' : Nat), e = .returned (.agg #[.int .i64 x.f0, .string x.f1, .int .i64 x.f2, .slice A' x.f3.length c']) ∧ x.f3.length ≤ c' ∧ Kd.F k24 w' (fun j => P j ∨ w.heap.size ≤ j) A' (filledL x.f3 i k).length (filledL x.f3 i k) ∧ Below w.heap.size w w' := by
  have HF := Aside0.mk (Kd.F_bound hF)
  have HC := Aside0.mk hC
  clear hF hC
  go_enter Tryd.func50, Tryd.ntmps50
  go_wp2_with (go_at_call 37; go_loud ((with_reducible refine (edit_clone.fresh 1000000 x A c _ (by rw [cnt_eq]; omega) (by rw [cnt_eq]; omega) hc ?hC).mono ?_); (case hC => exact Kd.C_below HC.out (below_alloc (below_alloc (Below.refl _ _) _) _)); rintro e w1 ⟨v, rfl, hS, hB⟩; obtain ⟨ad, g, c2, A3, c3, rfl, Had, Hg, hc2, hc3, HF3, e0, e1, e2, e3, m0, m1, m2, m3⟩ := elemN (Kd.R_N (Kd.S_R hS)) hi; have HN := Aside0.mk (Kd.R_N (Kd.S_R hS)); have HB := Aside0.mk hB; obtain ⟨HRk, hsz0, Hg2, f3, q3, HW⟩ := fillFacts (v0 := .int .i64 x.f0) (v1 := .string x.f1) (v2 := .int .i64 x.f2) (v3 := .slice (some ad) x.f3.length c2) (u := .slice A1 k.length c1) i hB Had.out Hg.out e3 m3; obtain ⟨HW1, HW2⟩ := HW _ rfl; replace HW1 := Aside0.mk HW1; replace HW2 := Aside0.mk HW2; clear HW; have y3 := blk_cell HW1.out 3; have r0 := blk_cell HW2.out 0; have r1 := blk_cell HW2.out 1; have r2 := blk_cell HW2.out 2; have r3 := blk_cell HW2.out 3; have z0 := blk_frozen HW2.out 0; have z1 := blk_frozen HW2.out 1; have z2 := blk_frozen HW2.out 2; have z3 := blk_frozen HW2.out 3; clear e0 e1 e2 e3 m0 m1 m2 m3 hS hB))
  have HB3 : Aside0 (Below w.heap.size w w1) := ⟨below_then (below_alloc (below_alloc (Below.refl _ _) _) _) (by rw [size_alloc2]; omega) HB.out⟩
  have HE := Aside0.mk (Kd.N_F (N_fill (i := i) (c1 := c1) (ok := fun j => (P j ∧ j < w.heap.size) ∨ w.heap.size + 2 ≤ j) (Kd.N_mono (Kd.N_alloc HN.out (.cells #[.int .i64 x.f0, .string x.f1, .int .i64 x.f2, .slice (some ad) x.f3.length c2] 24)) (fun j hj => .inr (by rw [size_alloc2] at hj; exact hj))) hi hc1 (Kd.F_step HF.out (fun j hj _ => (below_alloc HB3.out _).block j hj.2)) (fun j hj => ⟨.inl hj, by rw [Had.out]; have h8 := Hg2.out.1; have h9 := hj.2; show j ≠ g; omega⟩)))
  have hfl : (filledL x.f3 i k).length = x.f3.length := List.length_set
  have hb1 : (ad.add (i * 4)).block = g := by rw [Had.out, add_plain]
  refine bodyPost_ret (results_cell_row rfl _ _ (w.heap.size + 1) 24 #[.int .i64 x.f0, .string x.f1, .int .i64 x.f2, .slice (some ad) x.f3.length c2] (0, 0) _ rfl (blk_put4 HW2.out) Tryd.underlying24 rfl (by kernel_rfl)) rfl ?_
  refine ⟨some ad, c2, rfl, hc2, ?_, below_set4 ((below_alloc HB3.out _).setCell (by show _ ≤ (ad.add (i * 4)).block; rw [hb1]; have h8 := Hg2.out.1; omega) _) (by omega)⟩
  rw [hfl]
  exact Kd.F_mono (F_set4 HE.out (fun j hj => by rcases hj with hj | hj <;> omega)) (fun j hj => by rcases hj with hj | hj; exact .inl hj.1; exact .inr (by omega))
end Go.Proofs.YtgcpfelccfnnbaaDoor.X
namespace Go.Proofs.YtgcpfelccfnnbaaDoor.X
open Go.RowKit Go.Proofs.YtgcpfelccfnnbaaDoorW.PrintWords Go.Proofs.YtgcpfelccfnnbaaDoorW.PrintLast Go.Proofs.YtgcpfelccfnnbaaDoorW.PrintMore
attribute [local go_sem] max2_int min2_int max_two min_two max_three min_three max_four min_four   -- for this text's walks alone
set_option linter.unusedVariables false
set_option linter.unusedSimpArgs false
/-- The items that come out of an item; false: it is not as the operation requires. -/
def unwrappedG (x : S24) (o : S27) : List S24 × Bool :=
  if (x.f3.length : Int) ≤ o.f5 ∨ ((nth x.f3 o.f5.toNat).f3.length : Int) ≠ o.f3 then ([], false)
  else ((nth x.f3 o.f5.toNat).f3, eqN ⟨x.f0, x.f1, x.f2, filledL x.f3 o.f5.toNat []⟩ (nth o.f4 0))
def edit_unwrapped.r3.T : Bool × List (List Nat × List Nat) := (true, [([], []), ([], []), ([1], [1]), ([0, 2], [0, 2]), ([], []), ([4], [4]), ([5], [5]), ([6], [6]), ([3, 7, 3], [3, 7]), ([8, 8, 0, 1, 2, 3, 4, 5, 6, 7, 8], [8])])
def edit_unwrapped.r3.B : List Nat := [0, 0, 2, 7, 0, 16, 48, 112, 255, 511]
theorem edit_unwrapped.r3.tab : rtab .any (opsOf Tryd.f51 3) = edit_unwrapped.r3.T := by kernel_rfl
theorem edit_unwrapped.r3.bits : waitsOk edit_unwrapped.r3.T.2 edit_unwrapped.r3.B = true := by kernel_rfl
theorem hold_ {W W3 : World} {a : Addr} {u : Value} (hb : Below W.heap.size W W3) (h : W.cell? a = some u) : W3.cell? a = some u := (hb.cell (World.block_lt_of_cell? _ _ h)).trans h
set_option maxRecDepth 100000 in
set_option maxHeartbeats 2000000 in
theorem unwrapped_any (x : S24) (o : S27) (A AR AN : Option Addr) (c cR cN : Nat) (P : Nat → Prop) (w : World) (hx : cntL x.f3 < 1000000) (h0 : 0 ≤ o.f5) (hn : 0 < o.f4.length) (hc : x.f3.length ≤ c) (hcN : o.f4.length ≤ cN) (hF : Kd.F k24 w P A x.f3.length x.f3) (hN : Kd.C k24 w AN o.f4.length o.f4) :
    Calls Tryd.prog 51 #[.agg #[.int .i64 x.f0, .string x.f1, .int .i64 x.f2, .slice A x.f3.length c], .agg #[.int .i64 o.f0, .slice AR o.f1.length cR, .int .i64 o.f2, .int .i64 o.f3, .slice AN o.f4.length cN, .int .i64 o.f5, .string o.f6, .string o.f7]] w fun e w' => ∃ (A' : Option Addr) (c' : Nat), e = .returned (.tuple #[.slice A' (unwrappedG x o).1.length c', .bool (unwrappedG x o).2]) ∧ (unwrappedG x o).1.length ≤ c' ∧ Kd.F k24 w' P A' (unwrappedG x o).1.length (unwrappedG x o).1 ∧ Below w.heap.size w w' := by
  have HF := Aside0.mk (Kd.F_bound hF)
  have HN := Aside0.mk hN
  have HC := Aside0.mk (Kd.F_now hF)
  clear hF hN
  obtain ⟨x0, x1, x2, l⟩ := x
  obtain ⟨o0, o1, o2, o3, o4, o5, o6, o7⟩ := o
  simp only at *
  obtain ⟨s, rfl⟩ : ∃ s : Nat, o5 = s := ⟨o5.toNat, by omega⟩
  by_cases h1 : l.length ≤ s
  · have HR : Aside0 (unwrappedG ⟨x0, x1, x2, l⟩ ⟨o0, o1, o2, o3, o4, s, o6, o7⟩ = ([], false)) := ⟨by unfold unwrappedG; simp only [Int.toNat_natCast]; rw [if_pos (by left; omega)]⟩
    go_enter Tryd.func51, Tryd.ntmps51
    go_wp2_with fail
    go_region
    go_wp2
    refine bodyPost_ret (results_tmp2 rfl _ _ _) rfl ?_
    exact ⟨none, 0, by rw [HR.out]; rfl, by rw [HR.out]; exact Nat.le_refl _, by rw [HR.out]; exact Kd.F_nil _ _ _, Below.drew (below_alloc (below_alloc (Below.refl _ _) _) _)⟩
  · have hs : s < l.length := by omega
    have HB0 : ∀ o1 o2 : Obj, Aside0 (Below w.heap.size w ((w.alloc o1).alloc o2)) := fun o1 o2 => ⟨below_alloc (below_alloc (Below.refl _ _) _) _⟩
    have HFl := fun o1 o2 : Obj => Kd.F_step (W1 := (w.alloc o1).alloc o2) HF.out (fun k hk _ => (HB0 o1 o2).out.block k hk.2)
    obtain ⟨ad, A3, c3, rfl, HC3, HF3, g0, g1, g2, g3⟩ := elemF (HFl (.cells #[.int .i64 x0, .string x1, .int .i64 x2, .slice A l.length c] 24) (.cells #[.int .i64 o0, .slice AR o1.length cR, .int .i64 o2, .int .i64 o3, .slice AN o4.length cN, .int .i64 s, .string o6, .string o7] 27)) hs
    have HFl := Aside0.mk HFl
    by_cases h2 : ((nth l s).f3.length : Int) = o3
    · subst h2
      have HR : Aside0 (unwrappedG ⟨x0, x1, x2, l⟩ ⟨o0, o1, o2, (nth l s).f3.length, o4, s, o6, o7⟩ = ((nth l s).f3, eqN ⟨x0, x1, x2, filledL l s []⟩ (nth o4 0))) := ⟨by unfold unwrappedG; simp only [Int.toNat_natCast]; rw [if_neg (by omega)]⟩
      have HNF := fun a b : Obj => Kd.F_step (W1 := (w.alloc a).alloc b) (Kd.C_F k24_heap HN.out) (fun k hk _ => (HB0 a b).out.block k hk)
      obtain ⟨ad4, A5, c5, rfl, HC5, HF5, n0, n1, n2, n3⟩ := elemF (HNF (.cells #[.int .i64 x0, .string x1, .int .i64 x2, .slice (some ad) l.length c] 24) (.cells #[.int .i64 o0, .slice AR o1.length cR, .int .i64 o2, .int .i64 (nth l s).f3.length, .slice AN o4.length cN, .int .i64 s, .string o6, .string o7] 27)) hn
      have HNF := Aside0.mk HNF
      have hz0 : ad4.add (0 * 4) = ad4 := by rw [Nat.zero_mul]; exact add_zero_ ad4
      rw [hz0] at n0 n1 n2 n3
      go_enter Tryd.func51, Tryd.ntmps51
      go_wp2_with fail
      go_region
      go_wp2
      refine start_ (n := 10) (S := fun w' => w'.cell? ⟨w.heap.size, 0, none⟩ = some (.int .i64 x0) ∧ w'.cell? ⟨w.heap.size, 1, none⟩ = some (.string x1) ∧ w'.cell? ⟨w.heap.size, 2, none⟩ = some (.int .i64 x2) ∧ w'.cell? ⟨w.heap.size, 3, none⟩ = some (.slice (some ad) l.length c) ∧ w'.cell? ⟨w.heap.size + 1, 4, none⟩ = some (.slice (some ad4) o4.length cN) ∧ w'.cell? ⟨w.heap.size + 1, 5, none⟩ = some (.int .i64 s) ∧ w'.cell? ad4 = some (.int .i64 (nth o4 0).f0) ∧ w'.cell? ⟨ad4.block, ad4.off + 1, none⟩ = some (.string (nth o4 0).f1) ∧ w'.cell? ⟨ad4.block, ad4.off + 2, none⟩ = some (.int .i64 (nth o4 0).f2) ∧ w'.cell? ⟨ad4.block, ad4.off + 3, none⟩ = some (.slice A5 (nth o4 0).f3.length c5) ∧ w'.cell? ⟨(ad.add (s * 4)).block, (ad.add (s * 4)).off + 3, none⟩ = some (.slice A3 (nth l s).f3.length c3)) (ds := []) #[false, false, false, false, false, false, false, false, false, false] (by kernel_rfl) rfl rfl ⟨blk_cell (alloc2_fst _ _ _) 0, blk_cell (alloc2_fst _ _ _) 1, blk_cell (alloc2_fst _ _ _) 2, blk_cell (alloc2_fst _ _ _) 3, blk_cell (alloc2_snd _ _ _) 4, blk_cell (alloc2_snd _ _ _) 5, n0, n1, n2, n3, g3⟩ (fun hHeld => ?_); refine with_tabW edit_unwrapped.r3.tab edit_unwrapped.r3.bits (fun HT_ HW_ => ?_)
      refine pure_ (i := 1) (N := some 27) (v := ?_) (a' := ?_) #[false, true, false, false, false, false, false, false, false, false] rfl rfl (any_of HT_.out (by kernel_rfl)) (fun _ _ _ h => h) (Or.inl ⟨by rfl, ?_⟩) ?_ ?_
      rotate_left
      · intro w'
        go_simp
        with_reducible rfl
      rotate_left
      · simp only [Act.put, List.setIfInBounds_toArray, List.set_cons_zero, List.set_cons_succ, i64_w, i32_w]
        rfl
      refine pure_ (i := 4) (N := some 30) (v := ?_) (a' := ?_) #[false, true, false, false, true, false, false, false, false, false] rfl rfl (any_of HT_.out (by kernel_rfl)) (fun _ _ _ h => h) (Or.inl ⟨by rfl, ?_⟩) ?_ ?_
      rotate_left
      · intro w'
        go_simp
        with_reducible rfl
      rotate_left
      · simp only [Act.put, List.setIfInBounds_toArray, List.set_cons_zero, List.set_cons_succ, i64_w, i32_w]
        rfl
      refine take_ (i := 0) (N := some 26) (v := ?_) (a' := ?_) #[true, true, false, false, true, false, false, false, false, false] rfl rfl (take_ofW HT_.out HW_.out (by kernel_rfl)) (fun _ _ _ h => h) (Or.inl ⟨by rfl, ?_⟩) hHeld ?_ ?_
      rotate_left
      · rintro w' ⟨t0, t1, t2, t3, t4, t5, t6, t7, t8, t9, t10⟩
        go_simp
        with_reducible rfl
      rotate_left
      · simp only [Act.put, List.setIfInBounds_toArray, List.set_cons_zero, List.set_cons_succ, i64_w, i32_w]
        rfl
      refine take_ (i := 2) (N := some 28) (v := ?_) (a' := ?_) #[true, true, true, false, true, false, false, false, false, false] rfl rfl (take_ofW HT_.out HW_.out (by kernel_rfl)) (fun _ _ _ h => h) (Or.inl ⟨by rfl, ?_⟩) hHeld ?_ ?_
      rotate_left
      · rintro w' ⟨t0, t1, t2, t3, t4, t5, t6, t7, t8, t9, t10⟩
        go_simp
        with_reducible rfl
      rotate_left
      · simp only [Act.put, List.setIfInBounds_toArray, List.set_cons_zero, List.set_cons_succ, i64_w, i32_w]
        rfl
      refine take_ (i := 5) (N := some 31) (v := ?_) (a' := ?_) #[true, true, true, false, true, true, false, false, false, false] rfl rfl (take_ofW HT_.out HW_.out (by kernel_rfl)) (fun _ _ _ h => h) (Or.inl ⟨by rfl, ?_⟩) hHeld ?_ ?_
      rotate_left
      · rintro w' ⟨t0, t1, t2, t3, t4, t5, t6, t7, t8, t9, t10⟩
        go_simp
        with_reducible rfl
      rotate_left
      · simp only [Act.put, List.setIfInBounds_toArray, List.set_cons_zero, List.set_cons_succ, i64_w, i32_w]
        rfl
      refine pure_ (i := 6) (N := some 32) (v := ?_) (a' := ?_) #[true, true, true, false, true, true, true, false, false, false] rfl rfl (any_of HT_.out (by kernel_rfl)) (fun _ _ _ h => h) (Or.inl ⟨by rfl, ?_⟩) ?_ ?_
      rotate_left
      · intro w'
        go_simp
        with_reducible rfl
      rotate_left
      · simp only [Act.put, List.setIfInBounds_toArray, List.set_cons_zero, List.set_cons_succ, i64_w, i32_w]
        rfl
      refine take_ (i := 7) (N := some 33) (v := ?_) (a' := ?_) #[true, true, true, false, true, true, true, true, false, false] rfl rfl (take_ofW HT_.out HW_.out (by kernel_rfl)) (fun _ _ _ h => h) (Or.inl ⟨by rfl, ?_⟩) hHeld ?_ ?_
      rotate_left
      · rintro w' ⟨t0, t1, t2, t3, t4, t5, t6, t7, t8, t9, t10⟩
        go_simp
        with_reducible rfl
      rotate_left
      · simp only [Act.put, List.setIfInBounds_toArray, List.set_cons_zero, List.set_cons_succ, i64_w, i32_w]
        rfl
      refine one_ (i := 3) (N := some 29) #[true, true, true, true, true, true, true, true, false, false] rfl rfl (one_of HT_.out (by kernel_rfl)) (by decide) (fun K hK => ?_)
      refine goes_ Tryd.func50 (by kernel_rfl) rfl #[.agg #[.int .i64 x0, .string x1, .int .i64 x2, .slice (some ad) l.length c], .int .i64 s, .slice none 0 0] (by rfl) rfl rfl (by (try simp only [List.map_toArray, List.map_cons, List.map_nil]); first | done | rfl | (simp only [List.length_drop, List.length_take]; rfl)) ?_
      refine (filled_any ⟨x0, x1, x2, l⟩ s [] (some ad) none c 0 (fun _ => False) _ hx hs hc (Nat.le_refl 0) (Kd.F_now (ok := fun k => P k ∧ k < w.heap.size) ?hF) (Kd.F_nil _ _ _)).mono ?_
      (case hF => exact HFl.out _ _)
      rintro e w3 ⟨A6, c6, rfl, hl6, hF6, hb⟩
      have HB3 : Aside0 (Below w.heap.size w w3) := ⟨below_then (Below.drew (Below.drew (HB0 _ _).out)) (Below.drew (Below.drew (HB0 _ _).out)).size hb⟩
      have HN3 : Aside0 (Kd.C k24 w3 A5 (nth o4 0).f3.length (nth o4 0).f3) := ⟨Kd.C_below (Kd.C_below (Kd.F_now HF5.out) (Below.drew (Below.drew (Below.refl _ _)))) hb⟩
      have HF6 := Aside0.mk hF6
      obtain ⟨t0, t1, t2, t3, t4, t5, t6, t7, t8, t9, t10⟩ := hHeld
      refine ⟨_, rfl, ?_⟩
      refine hK.out _ _ ⟨hold_ hb t0, hold_ hb t1, hold_ hb t2, hold_ hb t3, hold_ hb t4, hold_ hb t5, hold_ hb t6, hold_ hb t7, hold_ hb t8, hold_ hb t9, hold_ hb t10⟩ (fun hHeld => ?_)
      clear hK K
      refine norm_ (a' := ?_) ?_ ?_
      rotate_left
      · show Act.put _ (some 29) _ = _
        simp only [Act.put, List.setIfInBounds_toArray, List.set_cons_zero, List.set_cons_succ, i64_w, i32_w]
        rfl
      refine one_ (i := 8) (N := some 34) #[true, true, true, true, true, true, true, true, true, false] rfl rfl (one_of HT_.out (by kernel_rfl)) (by decide) (fun K hK => ?_)
      refine goes_ Tryd.func49 (by kernel_rfl) rfl #[.agg #[.int .i64 x0, .string x1, .int .i64 x2, .slice A6 l.length c6], .agg #[.int .i64 (nth o4 0).f0, .string (nth o4 0).f1, .int .i64 (nth o4 0).f2, .slice A5 (nth o4 0).f3.length c5]] (by rfl) rfl rfl (by (try simp only [List.map_toArray, List.map_cons, List.map_nil]); first | done | rfl | (simp only [List.length_drop, List.length_take]; rfl)) ?_
      have hfl : (filledL l s []).length = l.length := List.length_set
      refine (show Calls Tryd.prog 49 _ _ _ from hfl ▸ equal_any _ ⟨x0, x1, x2, filledL l s []⟩ (nth o4 0) A6 A5 c6 c5 w3 (Nat.le_refl _) (by rw [hfl]; exact hl6) HC5 (Kd.F_now HF6.out) HN3.out).mono ?_
      clear hb
      rintro e w4 ⟨rfl, hb⟩
      have HB4 : Aside0 (Below w.heap.size w w4) := ⟨below_then HB3.out HB3.out.size hb⟩
      obtain ⟨t0, t1, t2, t3, t4, t5, t6, t7, t8, t9, t10⟩ := hHeld
      refine ⟨_, rfl, ?_⟩
      refine hK.out _ _ ⟨hold_ hb t0, hold_ hb t1, hold_ hb t2, hold_ hb t3, hold_ hb t4, hold_ hb t5, hold_ hb t6, hold_ hb t7, hold_ hb t8, hold_ hb t9, hold_ hb t10⟩ (fun hHeld => ?_)
      clear hK K
      refine norm_ (a' := ?_) ?_ ?_
      rotate_left
      · show Act.put _ (some 34) _ = _
        simp only [Act.put, List.setIfInBounds_toArray, List.set_cons_zero, List.set_cons_succ, i64_w, i32_w]
        rfl
      refine pure_ (i := 9) (N := some 6) (v := ?_) (a' := ?_) #[true, true, true, true, true, true, true, true, true, true] rfl rfl (any_of HT_.out (by kernel_rfl)) (fun _ _ _ h => h) (Or.inl ⟨by rfl, ?_⟩) ?_ ?_
      rotate_left
      · intro w'
        go_simp
        with_reducible rfl
      rotate_left
      · simp only [Act.put, List.setIfInBounds_toArray, List.set_cons_zero, List.set_cons_succ, i64_w, i32_w]
        rfl
      refine done_ (done_of HT_.out (by kernel_rfl)) ?_
      obtain ⟨t0, t1, t2, t3, t4, t5, t6, t7, t8, t9, t10⟩ := hHeld
      go_wp2
      refine bodyPost_ret (results_tmp2 rfl _ _ _) rfl ?_
      exact ⟨A3, c3, by rw [HR.out]; rfl, by rw [HR.out]; exact HC3, by rw [HR.out]; exact Kd.F_mono (Kd.F_step HF3.out (fun k hk _ => (HB4.out.block k hk.2).trans ((HB0 _ _).out.block k hk.2).symm)) (fun k hk => hk.1), HB4.out⟩
    · have HR : Aside0 (unwrappedG ⟨x0, x1, x2, l⟩ ⟨o0, o1, o2, o3, o4, s, o6, o7⟩ = ([], false)) := ⟨by unfold unwrappedG; simp only [Int.toNat_natCast]; rw [if_pos (by right; exact h2)]⟩
      go_enter Tryd.func51, Tryd.ntmps51
      go_wp2_with fail
      go_region
      go_wp2
      refine bodyPost_ret (results_tmp2 rfl _ _ _) rfl ?_
      exact ⟨none, 0, by rw [HR.out]; rfl, by rw [HR.out]; exact Nat.le_refl _, by rw [HR.out]; exact Kd.F_nil _ _ _, Below.drew (HB0 _ _).out⟩
end Go.Proofs.YtgcpfelccfnnbaaDoor.X
namespace Go.Proofs.YtgcpfelccfnnbaaDoor.X
open Go.RowKit Go.Proofs.YtgcpfelccfnnbaaDoorW.PrintWords Go.Proofs.YtgcpfelccfnnbaaDoorW.PrintLast Go.Proofs.YtgcpfelccfnnbaaDoorW.PrintMore
attribute [local go_sem] max2_int min2_int max_two min_two max_three min_three max_four min_four   -- for this text's walks alone
set_option linter.unusedVariables false
set_option linter.unusedSimpArgs false
def slices_Index_int_int.l0 : Nat → List Int → Int → Int → Int → Option (Int)
  | 0, _, _, _, _ => none
  | k + 1, x0, x1, x7, x8 => if x8 < x7 then (if 0 ≤ x8 then (if x8 < (x0.length : Int) then (if x1 = (rd x0 x8) then (some x8) else (slices_Index_int_int.l0 k x0 x1 x7 (wrap64 (x8 + 1)))) else (none)) else (none)) else (some (-1))
def slices_Index_int_int.f (k : Nat) (l0 : List Int) (a1 : Int) : Option (Int) := slices_Index_int_int.l0 k l0 a1 (l0.length : Int) 0
theorem slices_Index_int_int.mono_l : ∀ k, (∀ y0 y1 y2 y3, LeO (slices_Index_int_int.l0 k y0 y1 y2 y3) (slices_Index_int_int.l0 (k + 1) y0 y1 y2 y3))
  | 0 => fun _ _ _ _ r h => by simp [slices_Index_int_int.l0] at h
  | k + 1 => by
    have ih0 := slices_Index_int_int.mono_l k
    · intro y0 y1 y2 y3
      unfold slices_Index_int_int.l0
      repeat' first
      | (with_reducible exact ih0 _ _ _ _)
      | (with_reducible exact LeO.refl _)
      | (with_reducible exact LeO.none _)
      | (with_reducible refine LeO.ite ?_ ?_)
      | (with_reducible refine LeO.bind ?_ (fun _ => ?_))
      | exact ih0 _ _ _ _
      | exact LeO.none _
      | refine LeO.ite ?_ ?_
      | refine LeO.bind ?_ (fun _ => ?_)
theorem slices_Index_int_int.mono : ∀ a0 a1 k, LeO (slices_Index_int_int.f k a0 a1) (slices_Index_int_int.f (k + 1) a0 a1) := by
  intro a0 a1 k
  have ih0 := slices_Index_int_int.mono_l k
  unfold slices_Index_int_int.f
  repeat' first
      | (with_reducible exact ih0 _ _ _ _)
      | (with_reducible exact LeO.refl _)
      | (with_reducible exact LeO.none _)
      | (with_reducible refine LeO.ite ?_ ?_)
      | (with_reducible refine LeO.bind ?_ (fun _ => ?_))
      | exact ih0 _ _ _ _
      | exact LeO.none _
      | refine LeO.ite ?_ ?_
      | refine LeO.bind ?_ (fun _ => ?_)
set_option maxHeartbeats 8000000 in
set_option maxRecDepth 100000 in
theorem slices_Index_int_int.calls (k : Nat) (A0 : Option Addr) (c0 : Nat) (l0 : List Int) (a1 : Int) (r : Int) (w : World) (hr0 : Kd.C (Kd.int .i64) w A0 l0.length l0) (hc0 : l0.length ≤ c0) (h : slices_Index_int_int.f k l0 a1 = some r) :
    Calls Tryd.prog 78 #[.slice A0 l0.length c0, .int .i64 a1] w fun e w' => e = .returned (.int .i64 r) ∧ Drawn0 w w' := by
  have HR0 := Aside0.mk hr0
  have HC0 := Aside0.mk hc0
  clear hr0 hc0
  have H : (slices_Index_int_int.l0 k l0 a1 (l0.length : Int) 0) = some r := h
  clear h
  have H' := Aside0.mk H
  clear H
  go_enter Tryd.func78, Tryd.ntmps78
  go_wp2
  go_loopg [8] k (fun kq v8 w' => ∃ (x8_1 : Int), v8 = .int .i64 x8_1 ∧ Aside0 (slices_Index_int_int.l0 kq l0 a1 (l0.length : Int) x8_1 = some r) ∧ Aside0 (kq ≤ k) ∧ Drawn0 w w')
  case atStart => exact ⟨(0), (by first | rfl | (simp; done) | (simp [*]; done)), H', ⟨Nat.le_refl _⟩, by repeat (first | exact Drawn0.refl _ | apply Drawn0.step)⟩
  case round =>
    clear H'
    try clear p2
    obtain ⟨x8_1, rfl, HA, HK1, ⟨m1, rfl⟩⟩ := hrel
    cases gk with
    | zero => exact absurd HA.out (by simp [slices_Index_int_int.l0])
    | succ k1 =>
      have H := HA.out
      clear HA
      simp only [slices_Index_int_int.l0] at H
      by_cases c3 : x8_1 < (l0.length : Int)
      · rw [if_pos c3] at H
        have c3b0 : decide (x8_1 < (l0.length : Int)) = true := decide_eq_true c3
        clear c3
        by_cases c4 : 0 ≤ x8_1
        · rw [if_pos c4] at H
          have c4b0 : decide (0 ≤ x8_1) = true := decide_eq_true c4
          clear c4
          by_cases c5 : x8_1 < (l0.length : Int)
          · rw [if_pos c5] at H
            have c5b0 : decide (x8_1 < (l0.length : Int)) = true := decide_eq_true c5
            clear c5
            by_cases c6 : a1 = (rd l0 x8_1)
            · rw [if_pos c6] at H
              have c6b0 : (a1 == (rd l0 x8_1)) = true := beq_iff_eq.mpr c6
              have c6b1 : (a1 != (rd l0 x8_1)) = false := bne_eq_false_iff_eq.mpr c6
              clear c6
              obtain rfl := Option.some.inj H
              have p159 : 0 ≤ (x8_1 : Int) := of_decide_eq_true (by first | (with_reducible assumption) | assumption)
              have q159 : x8_1 < (l0.length : Int) := of_decide_eq_true (by first | (with_reducible assumption) | assumption)
              obtain ⟨ad159, e159, hx159_0⟩ := Kd.at_int HR0.out x8_1 p159 q159
              cases e159
              replace p159 := eq_true p159
              replace q159 := eq_true q159
              go_wp2
              go_ret
              exact ⟨by first | rfl | (simp; done) | (simp [*]; done), by repeat (first | exact Drawn0.refl _ | apply Drawn0.step)⟩
            · rw [if_neg c6] at H
              have c6b0 : (a1 == (rd l0 x8_1)) = false := beq_eq_false_iff_ne.mpr c6
              have c6b1 : (a1 != (rd l0 x8_1)) = true := bne_iff_ne.mpr c6
              have H' := Aside0.mk H
              clear H
              have p159 : 0 ≤ (x8_1 : Int) := of_decide_eq_true (by first | (with_reducible assumption) | assumption)
              have q159 : x8_1 < (l0.length : Int) := of_decide_eq_true (by first | (with_reducible assumption) | assumption)
              obtain ⟨ad159, e159, hx159_0⟩ := Kd.at_int HR0.out x8_1 p159 q159
              cases e159
              replace p159 := eq_true p159
              replace q159 := eq_true q159
              go_wp2
              go_roundg k1
              case measure => have := HK1.out; omega
              case rel => exact ⟨(wrap64 (x8_1 + 1)), (by first | rfl | (simp; done) | (simp [*]; done)), H', ⟨by have := HK1.out; omega⟩, by repeat (first | exact Drawn0.refl _ | apply Drawn0.step)⟩
          · rw [if_neg c5] at H
            exact absurd H (by simp)
        · rw [if_neg c4] at H
          exact absurd H (by simp)
      · rw [if_neg c3] at H
        have c3b0 : decide (x8_1 < (l0.length : Int)) = false := decide_eq_false c3
        clear c3
        obtain rfl := Option.some.inj H
        go_wp2
        go_ret
        exact ⟨by first | rfl | (simp; done) | (simp [*]; done), by repeat (first | exact Drawn0.refl _ | apply Drawn0.step)⟩
end Go.Proofs.YtgcpfelccfnnbaaDoor.X
namespace Go.Proofs.YtgcpfelccfnnbaaDoor.X
open Go.RowKit Go.Proofs.YtgcpfelccfnnbaaDoorW.PrintWords Go.Proofs.YtgcpfelccfnnbaaDoorW.PrintLast Go.Proofs.YtgcpfelccfnnbaaDoorW.PrintMore
attribute [local go_sem] max2_int min2_int max_two min_two max_three min_three max_four min_four   -- for this text's walks alone
set_option linter.unusedVariables false
set_option linter.unusedSimpArgs false
def slices_Contains_int_int.f (k : Nat) (l0 : List Int) (a1 : Int) : Option (Bool) := (slices_Index_int_int.f k l0 a1).bind fun t160 => (some (decide (t160 ≥ 0)))
theorem slices_Contains_int_int.mono : ∀ a0 a1 k, LeO (slices_Contains_int_int.f k a0 a1) (slices_Contains_int_int.f (k + 1) a0 a1) := by
  intro a0 a1 k
  unfold slices_Contains_int_int.f
  repeat' first
      | (with_reducible exact slices_Index_int_int.mono _ _ _)
      | (with_reducible exact LeO.refl _)
      | (with_reducible exact LeO.none _)
      | (with_reducible refine LeO.ite ?_ ?_)
      | (with_reducible refine LeO.bind ?_ (fun _ => ?_))
      | exact slices_Index_int_int.mono _ _ _
      | exact LeO.none _
      | refine LeO.ite ?_ ?_
      | refine LeO.bind ?_ (fun _ => ?_)
set_option maxHeartbeats 8000000 in
set_option maxRecDepth 100000 in
theorem slices_Contains_int_int.calls (k : Nat) (A0 : Option Addr) (c0 : Nat) (l0 : List Int) (a1 : Int) (r : Bool) (w : World) (hr0 : Kd.C (Kd.int .i64) w A0 l0.length l0) (hc0 : l0.length ≤ c0) (h : slices_Contains_int_int.f k l0 a1 = some r) :
    Calls Tryd.prog 66 #[.slice A0 l0.length c0, .int .i64 a1] w fun e w' => e = .returned (.bool r) ∧ Drawn0 w w' := by
  have HR0 := Aside0.mk hr0
  have HC0 := Aside0.mk hc0
  clear hr0 hc0
  have H : ((slices_Index_int_int.f k l0 a1).bind fun t160 => (some (decide (t160 ≥ 0)))) = some r := h
  clear h
  replace H := Option.bind_eq_some_iff.mp H
  obtain ⟨t160, A30, H⟩ := H
  replace H : (some (decide (t160 ≥ 0))) = some r := H
  have A3 := Aside0.mk A30
  clear A30
  obtain rfl := Option.some.inj H
  go_enter Tryd.func66, Tryd.ntmps66
  go_wp2_with (first | ((with_reducible refine gate_callee (f := 78) rfl ?_); refine goesL_ (some 7) rfl rfl Tryd.func78 (by kernel_rfl) rfl #[.slice A0 l0.length c0, .int .i64 a1] rfl (by (try simp only [List.map_toArray, List.map_cons, List.map_nil]); first | done | rfl | (simp only [List.length_drop, List.length_take]; rfl)) ?_; (with_reducible refine (slices_Index_int_int.calls k _ _ l0 a1 t160 _ ?side1 ?side2 A3.out).mono ?_); (case side1 => repeat (first | exact HR0.out | (with_reducible refine Kd.C_alloc ?_ _) | (with_reducible refine Kd.C_drewN ?_ _) | (with_reducible refine Kd.C_drew ?_))); (case side2 => exact HC0.out); rintro e w' ⟨rfl, ⟨nd, rfl⟩⟩; refine ⟨_, rfl, ?_⟩))
  go_ret
  exact ⟨by first | rfl | (simp; done) | (simp [*]; done), by repeat (first | exact Drawn0.refl _ | apply Drawn0.step)⟩
end Go.Proofs.YtgcpfelccfnnbaaDoor.X
namespace Go.Proofs.YtgcpfelccfnnbaaDoor.X
open Go.RowKit Go.Proofs.YtgcpfelccfnnbaaDoorW.PrintWords Go.Proofs.YtgcpfelccfnnbaaDoorW.PrintLast Go.Proofs.YtgcpfelccfnnbaaDoorW.PrintMore
attribute [local go_sem] max2_int min2_int max_two min_two max_three min_three max_four min_four   -- for this text's walks alone
set_option linter.unusedVariables false
set_option linter.unusedSimpArgs false
def edit_settable.f (k : Nat) (a0_0 : Int) (a0_1 : ByteArray) (a0_2 : Int) (l0_3 : List (S24)) : Option (Bool) := (slices_Contains_int_int.f k (([2, 3, 4, 10, 11] : List Int)) a0_0).bind fun t165 => (some t165)
theorem edit_settable.mono : ∀ a0 a1 a2 a3 k, LeO (edit_settable.f k a0 a1 a2 a3) (edit_settable.f (k + 1) a0 a1 a2 a3) := by
  intro a0 a1 a2 a3 k
  unfold edit_settable.f
  repeat' first
      | (with_reducible exact slices_Contains_int_int.mono _ _ _)
      | (with_reducible exact LeO.refl _)
      | (with_reducible exact LeO.none _)
      | (with_reducible refine LeO.ite ?_ ?_)
      | (with_reducible refine LeO.bind ?_ (fun _ => ?_))
      | exact slices_Contains_int_int.mono _ _ _
      | exact LeO.none _
      | refine LeO.ite ?_ ?_
      | refine LeO.bind ?_ (fun _ => ?_)
set_option maxHeartbeats 8000000 in
set_option maxRecDepth 100000 in
theorem edit_settable.calls (k : Nat) (a0_0 : Int) (a0_1 : ByteArray) (a0_2 : Int) (A0_3 : Option Addr) (c0_3 : Nat) (l0_3 : List (S24)) (r : Bool) (w : World) (hr0_3 : Kd.C k24 w A0_3 l0_3.length l0_3) (hc0_3 : l0_3.length ≤ c0_3) (h : edit_settable.f k a0_0 a0_1 a0_2 l0_3 = some r) :
    Calls Tryd.prog 52 #[.agg #[.int .i64 a0_0, .string a0_1, .int .i64 a0_2, .slice A0_3 l0_3.length c0_3]] w fun e w' => e = .returned (.bool r) ∧ Below w.heap.size w w' := by
  have hu24 := Tryd.underlying24
  have HR0_3 := Aside0.mk hr0_3
  have HC0_3 := Aside0.mk hc0_3
  clear hr0_3 hc0_3
  have HB := Aside0.mk (Below.refl w.heap.size w)
  have H : ((slices_Contains_int_int.f k (([2, 3, 4, 10, 11] : List Int)) a0_0).bind fun t165 => (some t165)) = some r := h
  clear h
  obtain ⟨y162, hy162⟩ : ∃ y_ : List Int, y_ = (([2, 3, 4, 10, 11] : List Int)) := ⟨_, rfl⟩
  replace H : ((slices_Contains_int_int.f k y162 a0_0).bind fun t165 => (some t165)) = some r := by first | (rw [hy162]; with_reducible exact H) | (have H2_ := (Option.bind_some _ _).symm.trans H; rw [hy162]; with_reducible exact H2_) | (have H2_ := (Option.bind_some _ _).symm.trans H; with_reducible exact H2_) | with_reducible exact H | (rw [hy162]; exact H) | exact H
  have Ny162 := Aside0.mk hy162
  clear hy162
  replace H := Option.bind_eq_some_iff.mp H
  obtain ⟨t165, A20, H⟩ := H
  replace H : (some t165) = some r := H
  have A2 := Aside0.mk A20
  clear A20
  obtain rfl := Option.some.inj H
  go_enter Tryd.func52, Tryd.ntmps52
  go_wp2_with (first | ((with_reducible refine gate_dst (N := 1) rfl ?_); refine box_event ?hg (N := 1) ?hd (cs := #[.int .i64 a0_0, .string a0_1, .int .i64 a0_2, .slice A0_3 l0_3.length c0_3]) (t := 24) ?hr ?_; (case hd => rfl); (case hg => rfl); (case hr => first | (go_simp; done) | (go_simp; rfl)); intro gb161 hg w3 hbox hb; have n0_ := Aside0.mk (below_step (by repeat (first | (with_reducible first | exact HB.out | apply below_alloc | apply pw_below_drewN | apply below_drew1) | exact HB.out)) hb); have n1_ := Aside0.mk (hbox); have n2_ := Aside0.mk ((by rw [hg]; exact (below_size (by repeat (first | (with_reducible first | exact HB.out | apply below_alloc | apply pw_below_drewN | apply below_drew1) | exact HB.out))) : w.heap.size ≤ gb161)); have n3_ := Aside0.mk ((by rw [hg]; exact (below_size (by repeat (first | (with_reducible first | exact HB.out | apply below_alloc | apply pw_below_drewN | apply below_drew1) | exact HB.out))) : w.heap.size ≤ gb161)); clear HB; have HB := n0_; have BK161 := n1_; have GW161 := n2_; have GE161 := n3_; clear n0_ n1_ n2_ n3_; clear hb hbox hg) | ((with_reducible refine gate_dst (N := 3) rfl ?_); refine Kd.R_lit (Kd.int .i64) _ 3 ?hg (N := 3) ?hd (xs := ([2, 3, 4, 10, 11] : List Int)) (inner := [.int .i64 2, .int .i64 3, .int .i64 4, .int .i64 10, .int .i64 11]) (ok := fun _ => True) (okp := fun _ => True) ?hr ?hp (fun _ hk => hk) trivial (Below.refl _ _) (Nat.le_refl _) (by simp) ?_; (case hd => rfl); (case hg => rfl); (case hr => first | (go_simp; done) | (go_simp; rfl)); (case hp => exact (Reps.one (show Kd.M (Kd.int .i64) _ _ _ 2 [.int .i64 2] from rfl) (Reps.one (show Kd.M (Kd.int .i64) _ _ _ 3 [.int .i64 3] from rfl) (Reps.one (show Kd.M (Kd.int .i64) _ _ _ 4 [.int .i64 4] from rfl) (Reps.one (show Kd.M (Kd.int .i64) _ _ _ 10 [.int .i64 10] from rfl) (Reps.one (show Kd.M (Kd.int .i64) _ _ _ 11 [.int .i64 11] from rfl) (Reps.none _ _))))))); intro v163 w4 ho5 hb hg_ hnew_; clear hg_ hnew_; (first | rw [← Ny162.out] at ho5 | (simp only [Int.reduceToNat] at ho5; rw [← Ny162.out] at ho5)); have n0_ := Aside0.mk (Kd.R_lower ho5 (below_size (by repeat (first | (with_reducible first | exact HB.out | apply below_alloc | apply pw_below_drewN | apply below_drew1 | refine below_set ?_ GE161.out) | exact HB.out)))); have n1_ := Aside0.mk (blk_below (g := gb161) (o := .cells #[.int .i64 a0_0, .string a0_1, .int .i64 a0_2, .slice A0_3 l0_3.length c0_3] 24 (0, 0)) (by (with_reducible repeat (first | refine blk_drewN ?_ _ | refine blk_drew ?_ | refine blk_alloc ?_ _)); exact BK161.out) hb); have n2_ := Aside0.mk (below_step (by repeat (first | (with_reducible first | exact HB.out | apply below_alloc | apply pw_below_drewN | apply below_drew1 | refine below_set ?_ GE161.out) | exact HB.out)) hb); clear BK161; clear HB; have HO164 := n0_; have BK161 := n1_; have HB := n2_; clear n0_ n1_ n2_; clear hb ho5; have hcz6_0 : w4.cell? ⟨gb161, 0, none⟩ = some (.int .i64 a0_0) := (blk_cell BK161.out 0).trans rfl; have hcz6_1 : w4.cell? ⟨gb161, 1, none⟩ = some (.string a0_1) := (blk_cell BK161.out 1).trans rfl; have hcz6_2 : w4.cell? ⟨gb161, 2, none⟩ = some (.int .i64 a0_2) := (blk_cell BK161.out 2).trans rfl; have hcz6_3 : w4.cell? ⟨gb161, 3, none⟩ = some (.slice A0_3 l0_3.length c0_3) := (blk_cell BK161.out 3).trans rfl; have hfz6_0 := blk_frozen BK161.out 0; have hfz6_1 := blk_frozen BK161.out 1; have hfz6_2 := blk_frozen BK161.out 2; have hfz6_3 := blk_frozen BK161.out 3; obtain ⟨Ao7, co7, eo7⟩ := Kd.R_slice HO164.out; subst eo7) | ((with_reducible refine gate_callee (f := 66) rfl ?_); refine goesL_ (some 6) rfl rfl Tryd.func66 (by kernel_rfl) rfl #[.slice Ao7 y162.length co7, .int .i64 a0_0] rfl (by (try simp only [List.map_toArray, List.map_cons, List.map_nil]); first | done | rfl | (simp only [List.length_drop, List.length_take]; rfl)) ?_; (with_reducible refine (slices_Contains_int_int.calls k _ _ y162 a0_0 t165 _ ?side1 ?side2 A2.out).mono ?_); (case side1 => repeat (first | exact (Kd.R_reads' HO164.out).2.2 | (with_reducible refine Kd.C_alloc ?_ _) | (with_reducible refine Kd.C_drewN ?_ _) | (with_reducible refine Kd.C_drew ?_))); (case side2 => exact (Kd.R_reads' HO164.out).2.1); rintro e w' ⟨rfl, ⟨nd, rfl⟩⟩; refine ⟨_, rfl, ?_⟩))
  go_ret
  exact ⟨by first | rfl | (simp [errW_none, errW_some] <;> rfl) | (simp [*, errW_none, errW_some] <;> rfl), by repeat (first | (with_reducible first | exact HB.out | apply below_alloc | apply pw_below_drewN | apply below_drew1 | refine below_set ?_ GE161.out) | exact HB.out)⟩
end Go.Proofs.YtgcpfelccfnnbaaDoor.X
namespace Go.Proofs.YtgcpfelccfnnbaaDoor.X
open Go.RowKit Go.Proofs.YtgcpfelccfnnbaaDoorW.PrintWords Go.Proofs.YtgcpfelccfnnbaaDoorW.PrintLast Go.Proofs.YtgcpfelccfnnbaaDoorW.PrintMore
attribute [local go_sem] max2_int min2_int max_two min_two max_three min_three max_four min_four   -- for this text's walks alone
set_option linter.unusedVariables false
set_option linter.unusedSimpArgs false
def settableB (a : Int) : Bool := a == 2 || a == 3 || a == 4 || a == 10 || a == 11
theorem oneF {W : World} {x : S24} {A3 : Option Addr} {c3 : Nat} {ok : Nat → Prop} (h3 : x.f3.length ≤ c3) (hF : Kd.F k24 W ok A3 x.f3.length x.f3) :
    Kd.F k24 (W.alloc (.cells #[.int .i64 x.f0, .string x.f1, .int .i64 x.f2, .slice A3 x.f3.length c3] 24)) (fun j => ok j ∨ j = W.heap.size) (some ⟨W.heap.size, 0, none⟩) 1 [x] := by
  intro W' hW
  have hb : W'.heap[W.heap.size]? = some (.cells #[.int .i64 x.f0, .string x.f1, .int .i64 x.f2, .slice A3 x.f3.length c3] 24 (0, 0)) := (hW _ (.inr rfl) (by simp)).trans (heap_alloc_new W _)
  have hK : k24.K W' x [.int .i64 x.f0, .string x.f1, .int .i64 x.f2, .slice A3 x.f3.length c3] := k24_mk W' x h3 (hF W' (fun k hk hlt => (hW k (.inl hk) (by simp; omega)).trans (Below.heap_alloc _ _ _ hlt)))
  refine ⟨rfl, by simp, fun _ => ⟨_, rfl, fun j p hj => ?_⟩⟩
  match j, hj with
  | 0, hj =>
    simp only [List.getElem?_cons_zero, Option.some.injEq] at hj
    subst hj
    refine ⟨_, rfl, hK, fun i u hu => ?_⟩
    rw [add_plain, Nat.zero_mul, Nat.zero_add, blk_cell hb i]
    simpa using hu
def edit_change.r7.T : Bool × List (List Nat × List Nat) := (true, [([], []), ([0], [0]), ([1], [1]), ([2], [2]), ([], []), ([4], [4]), ([], []), ([3, 5, 6], [3, 5, 6]), ([7], [7]), ([8, 7, 0, 1, 2, 3, 4, 5, 6, 7, 8], [8]), ([9, 0, 1, 2, 3, 4, 5, 6, 7, 8, 9], [])])
def edit_change.r7.B : List Nat := [0, 1, 3, 7, 0, 16, 0, 127, 255, 511, 1023]
theorem edit_change.r7.tab : rtab .any (opsOf Tryd.f31 7) = edit_change.r7.T := by kernel_rfl
theorem edit_change.r7.bits : waitsOk edit_change.r7.T.2 edit_change.r7.B = true := by kernel_rfl
def edit_change.r9.T : Bool × List (List Nat × List Nat) := (true, [([], []), ([0], [0]), ([1], [1]), ([], []), ([2, 3], [2, 3]), ([4], [4]), ([4], [4]), ([5, 4, 0, 1, 2, 3, 4, 5, 6], [5]), ([6, 7, 0, 1, 2, 3, 4, 5, 6, 7], [6])])
def edit_change.r9.B : List Nat := [0, 1, 3, 0, 15, 31, 31, 127, 255]
theorem edit_change.r9.tab : rtab .any (opsOf Tryd.f31 9) = edit_change.r9.T := by kernel_rfl
theorem edit_change.r9.bits : waitsOk edit_change.r9.T.2 edit_change.r9.B = true := by kernel_rfl
set_option maxRecDepth 10000 in
theorem settable_f (a0 : Int) (a1 : ByteArray) (a2 : Int) (l : List S24) : edit_settable.f 6 a0 a1 a2 l = some (settableB a0) := by
  have e0 : rd [2, 3, 4, 10, 11] 0 = 2 := rfl
  have e1 : rd [2, 3, 4, 10, 11] 1 = 3 := rfl
  have e2 : rd [2, 3, 4, 10, 11] 2 = 4 := rfl
  have e3 : rd [2, 3, 4, 10, 11] 3 = 10 := rfl
  have e4 : rd [2, 3, 4, 10, 11] 4 = 11 := rfl
  have w1 : wrap64 1 = 1 := by kernel_rfl
  have w2 : wrap64 2 = 2 := by kernel_rfl
  have w3 : wrap64 3 = 3 := by kernel_rfl
  have w4 : wrap64 4 = 4 := by kernel_rfl
  have w5 : wrap64 5 = 5 := by kernel_rfl
  unfold settableB edit_settable.f slices_Contains_int_int.f slices_Index_int_int.f
  by_cases h2 : a0 = 2
  · subst h2; simp [slices_Index_int_int.l0, w1, w2, w3, w4, w5, e0]
  by_cases h3 : a0 = 3
  · subst h3; simp [slices_Index_int_int.l0, w1, w2, w3, w4, w5, e0, e1]
  by_cases h4 : a0 = 4
  · subst h4; simp [slices_Index_int_int.l0, w1, w2, w3, w4, w5, e0, e1, e2]
  by_cases h10 : a0 = 10
  · subst h10; simp [slices_Index_int_int.l0, w1, w2, w3, w4, w5, e0, e1, e2, e3]
  by_cases h11 : a0 = 11
  · subst h11; simp [slices_Index_int_int.l0, w1, w2, w3, w4, w5, e0, e1, e2, e3, e4]
  simp [slices_Index_int_int.l0, w1, w2, w3, w4, w5, e0, e1, e2, e3, e4, h2, h3, h4, h10, h11, Ne.symm h2, Ne.symm h3, Ne.symm h4, Ne.symm h10, Ne.symm h11]
/-- The items that take the place of some items; false: those are not as required. -/
def changeG (o : S27) (old : List S24) : List S24 × Bool :=
  if o.f0 = 1 then (o.f4, true)
  else if o.f0 = 2 then ([], eqL old o.f4)
  else if o.f0 = 3 then ([⟨(nth o.f4 0).f0, (nth o.f4 0).f1, (nth o.f4 0).f2, filledL (nth o.f4 0).f3 o.f5.toNat old⟩], true)
  else if o.f0 = 4 then unwrappedG (nth old 0) o
  else ([⟨(nth old 0).f0, o.f7, (nth old 0).f2, (nth old 0).f3⟩], settableB (nth old 0).f0 && decide ((nth old 0).f1.data.toList = o.f6.data.toList))
/-- What change needs. -/
def ChangeOk (o : S27) (old : List S24) : Prop :=
  if o.f0 = 1 then True
  else if o.f0 = 2 then True
  else if o.f0 = 3 then 0 < o.f4.length ∧ 0 ≤ o.f5 ∧ o.f5 < (nth o.f4 0).f3.length ∧ cntL (nth o.f4 0).f3 < 1000000
  else if o.f0 = 4 then 0 < o.f4.length ∧ 0 ≤ o.f5 ∧ 0 < old.length ∧ cntL (nth old 0).f3 < 1000000
  else 0 < old.length
set_option maxRecDepth 100000 in
set_option maxHeartbeats 2000000 in
theorem change_any (o : S27) (l : List S24) (A AR AN : Option Addr) (c cR cN : Nat) (P : Nat → Prop) (w : World) (hok : ChangeOk o l) (hc : l.length ≤ c) (hcN : o.f4.length ≤ cN) (hF : Kd.F k24 w P A l.length l) (hN : Kd.F k24 w P AN o.f4.length o.f4) :
    Calls Tryd.prog 31 #[.agg #[.int .i64 o.f0, .slice AR o.f1.length cR, .int .i64 o.f2, .int .i64 o.f3, .slice AN o.f4.length cN, .int .i64 o.f5, .string o.f6, .string o.f7], .slice A l.length c] w fun e w' => ∃ (A' : Option Addr) (c' : Nat), e = .returned (.tuple #[.slice A' (changeG o l).1.length c', .bool (changeG o l).2]) ∧ (changeG o l).1.length ≤ c' ∧ Kd.F k24 w' (fun j => P j ∨ w.heap.size ≤ j) A' (changeG o l).1.length (changeG o l).1 ∧ Below w.heap.size w w' := by
  have HF := Aside0.mk (Kd.F_bound hF)
  have HN := Aside0.mk (Kd.F_bound hN)
  clear hF hN
  have HB1 : ∀ o1 : Obj, Aside0 (Below w.heap.size w (w.alloc o1)) := fun o1 => ⟨below_alloc (Below.refl _ _) _⟩
  obtain ⟨o0, o1, o2, o3, o4, o5, o6, o7⟩ := o
  simp only at *
  by_cases h1 : o0 = 1
  · subst h1
    have HR : Aside0 (changeG ⟨1, o1, o2, o3, o4, o5, o6, o7⟩ l = (o4, true)) := ⟨by unfold changeG; rw [if_pos rfl]⟩
    clear hok
    go_enter Tryd.func31, Tryd.ntmps31
    go_wp2_with fail
    refine bodyPost_ret (results_tmp2 rfl _ _ _) rfl ?_
    exact ⟨AN, cN, by rw [HR.out]; rfl, by rw [HR.out]; exact hcN, by rw [HR.out]; exact Kd.F_mono (Kd.F_step HN.out (fun k hk _ => (HB1 _).out.block k hk.2)) (fun k hk => .inl hk.1), (HB1 _).out⟩
  by_cases h2 : o0 = 2
  · subst h2
    have HR : Aside0 (changeG ⟨2, o1, o2, o3, o4, o5, o6, o7⟩ l = ([], eqL l o4)) := ⟨by unfold changeG; simp⟩
    clear hok
    go_enter Tryd.func31, Tryd.ntmps31
    go_wp2_with (go_at_call 48; go_loud (refine (equalFunc_any l o4 A AN c cN _ hc hcN (Kd.C_below (Kd.F_now HF.out) (HB1 _).out) (Kd.C_below (Kd.F_now HN.out) (HB1 _).out)).mono ?_; rintro e w3 ⟨rfl, hb3⟩))
    refine bodyPost_ret (results_tmp2 rfl _ _ _) rfl ?_
    exact ⟨none, 0, by rw [HR.out]; rfl, by rw [HR.out]; exact Nat.le_refl _, by rw [HR.out]; exact Kd.F_nil _ _ _, below_then (HB1 _).out (HB1 _).out.size hb3⟩
  by_cases h3 : o0 = 3
  · subst h3
    have hok3 : 0 < o4.length ∧ 0 ≤ o5 ∧ o5 < (nth o4 0).f3.length ∧ cntL (nth o4 0).f3 < 1000000 := by simpa [ChangeOk] using hok
    obtain ⟨hn, h0, hs, hx⟩ := hok3
    obtain ⟨s, rfl⟩ : ∃ s : Nat, o5 = s := ⟨o5.toNat, by omega⟩
    have hs : s < (nth o4 0).f3.length := by omega
    have HR : Aside0 (changeG ⟨3, o1, o2, o3, o4, s, o6, o7⟩ l = ([⟨(nth o4 0).f0, (nth o4 0).f1, (nth o4 0).f2, filledL (nth o4 0).f3 s l⟩], true)) := ⟨by simp [changeG]⟩
    clear hok h1 h2
    have HFl := fun o1 : Obj => Kd.F_step (W1 := w.alloc o1) HF.out (fun k hk _ => (HB1 o1).out.block k hk.2)
    have HNF := fun o1 : Obj => Kd.F_step (W1 := w.alloc o1) HN.out (fun k hk _ => (HB1 o1).out.block k hk.2)
    obtain ⟨ad4, A5, c5, rfl, HC5, HF5, n0, n1, n2, n3⟩ := elemF (HNF (.cells #[.int .i64 3, .slice AR o1.length cR, .int .i64 o2, .int .i64 o3, .slice AN o4.length cN, .int .i64 s, .string o6, .string o7] 27)) hn
    have HFl := Aside0.mk HFl
    have HNF := Aside0.mk HNF
    have hz0 : ad4.add (0 * 4) = ad4 := by rw [Nat.zero_mul]; exact add_zero_ ad4
    rw [hz0] at n0 n1 n2 n3
    have hfl : (filledL (nth o4 0).f3 s l).length = (nth o4 0).f3.length := List.length_set
    go_enter Tryd.func31, Tryd.ntmps31
    go_wp2_with fail
    refine start_ (n := 11) (S := fun w' => w'.cell? ⟨w.heap.size, 4, none⟩ = some (.slice (some ad4) o4.length cN) ∧ w'.cell? ⟨w.heap.size, 5, none⟩ = some (.int .i64 s) ∧ w'.cell? ad4 = some (.int .i64 (nth o4 0).f0) ∧ w'.cell? ⟨ad4.block, ad4.off + 1, none⟩ = some (.string (nth o4 0).f1) ∧ w'.cell? ⟨ad4.block, ad4.off + 2, none⟩ = some (.int .i64 (nth o4 0).f2) ∧ w'.cell? ⟨ad4.block, ad4.off + 3, none⟩ = some (.slice A5 (nth o4 0).f3.length c5)) (ds := [8]) #[false, false, false, false, false, false, false, false, false, false, false] (by kernel_rfl) rfl rfl ⟨blk_cell (heap_alloc_new _ _) 4, blk_cell (heap_alloc_new _ _) 5, n0, n1, n2, n3⟩ (fun hHeld => ?_); refine with_tabW edit_change.r7.tab edit_change.r7.bits (fun HT_ HW_ => ?_)
    refine pure_ (i := 0) (N := some 22) (v := ?_) (a' := ?_) #[true, false, false, false, false, false, false, false, false, false, false] rfl rfl (any_of HT_.out (by kernel_rfl)) (fun _ _ _ h => h) (Or.inl ⟨by rfl, ?_⟩) ?_ ?_
    rotate_left
    · intro w'
      go_simp
      with_reducible rfl
    rotate_left
    · simp only [Act.put, List.setIfInBounds_toArray, List.set_cons_zero, List.set_cons_succ, i64_w, i32_w]
      rfl
    refine take_ (i := 1) (N := some 23) (v := ?_) (a' := ?_) #[true, true, false, false, false, false, false, false, false, false, false] rfl rfl (take_ofW HT_.out HW_.out (by kernel_rfl)) (fun _ _ _ h => h) (Or.inl ⟨by rfl, ?_⟩) hHeld ?_ ?_
    rotate_left
    · rintro w' ⟨t0, t1, t2, t3, t4, t5⟩
      go_simp
      with_reducible rfl
    rotate_left
    · simp only [Act.put, List.setIfInBounds_toArray, List.set_cons_zero, List.set_cons_succ, i64_w, i32_w]
      rfl
    refine pure_ (i := 2) (N := some 24) (v := ?_) (a' := ?_) #[true, true, true, false, false, false, false, false, false, false, false] rfl rfl (any_of HT_.out (by kernel_rfl)) (fun _ _ _ h => h) (Or.inl ⟨by rfl, ?_⟩) ?_ ?_
    rotate_left
    · intro w'
      go_simp
      with_reducible rfl
    rotate_left
    · simp only [Act.put, List.setIfInBounds_toArray, List.set_cons_zero, List.set_cons_succ, i64_w, i32_w]
      rfl
    refine take_ (i := 3) (N := some 25) (v := ?_) (a' := ?_) #[true, true, true, true, false, false, false, false, false, false, false] rfl rfl (take_ofW HT_.out HW_.out (by kernel_rfl)) (fun _ _ _ h => h) (Or.inl ⟨by rfl, ?_⟩) hHeld ?_ ?_
    rotate_left
    · rintro w' ⟨t0, t1, t2, t3, t4, t5⟩
      go_simp
      with_reducible rfl
    rotate_left
    · simp only [Act.put, List.setIfInBounds_toArray, List.set_cons_zero, List.set_cons_succ, i64_w, i32_w]
      rfl
    refine pure_ (i := 4) (N := some 26) (v := ?_) (a' := ?_) #[true, true, true, true, true, false, false, false, false, false, false] rfl rfl (any_of HT_.out (by kernel_rfl)) (fun _ _ _ h => h) (Or.inl ⟨by rfl, ?_⟩) ?_ ?_
    rotate_left
    · intro w'
      go_simp
      with_reducible rfl
    rotate_left
    · simp only [Act.put, List.setIfInBounds_toArray, List.set_cons_zero, List.set_cons_succ, i64_w, i32_w]
      rfl
    refine take_ (i := 5) (N := some 27) (v := ?_) (a' := ?_) #[true, true, true, true, true, true, false, false, false, false, false] rfl rfl (take_ofW HT_.out HW_.out (by kernel_rfl)) (fun _ _ _ h => h) (Or.inl ⟨by rfl, ?_⟩) hHeld ?_ ?_
    rotate_left
    · rintro w' ⟨t0, t1, t2, t3, t4, t5⟩
      go_simp
      with_reducible rfl
    rotate_left
    · simp only [Act.put, List.setIfInBounds_toArray, List.set_cons_zero, List.set_cons_succ, i64_w, i32_w]
      rfl
    refine pure_ (i := 6) (N := some 28) (v := ?_) (a' := ?_) #[true, true, true, true, true, true, true, false, false, false, false] rfl rfl (any_of HT_.out (by kernel_rfl)) (fun _ _ _ h => h) (Or.inl ⟨by rfl, ?_⟩) ?_ ?_
    rotate_left
    · intro w'
      go_simp
      with_reducible rfl
    rotate_left
    · simp only [Act.put, List.setIfInBounds_toArray, List.set_cons_zero, List.set_cons_succ, i64_w, i32_w]
      rfl
    refine one_ (i := 7) (N := some 29) #[true, true, true, true, true, true, true, true, false, false, false] rfl rfl (one_of HT_.out (by kernel_rfl)) (by decide) (fun K hK => ?_)
    refine goes_ Tryd.func50 (by kernel_rfl) rfl #[.agg #[.int .i64 (nth o4 0).f0, .string (nth o4 0).f1, .int .i64 (nth o4 0).f2, .slice A5 (nth o4 0).f3.length c5], .int .i64 s, .slice A l.length c] (by rfl) rfl rfl (by (try simp only [List.map_toArray, List.map_cons, List.map_nil]); first | done | rfl | (simp only [List.length_drop, List.length_take]; rfl)) ?_
    refine (filled_any (nth o4 0) s l A5 A c5 c (fun k => P k ∧ k < w.heap.size) _ hx hs HC5 hc (Kd.F_now (ok := fun k => P k ∧ k < w.heap.size) ?hF) ?hG).mono ?_
    (case hF => exact HF5.out)
    (case hG => exact HFl.out _)
    rintro e w3 ⟨A6, c6, rfl, hl6, hF6, hb⟩
    have HB3 : Aside0 (Below w.heap.size w w3) := ⟨below_then (Below.drew (HB1 _).out) (Below.drew (HB1 _).out).size hb⟩
    have HF6 := Aside0.mk hF6
    obtain ⟨t0, t1, t2, t3, t4, t5⟩ := hHeld
    refine ⟨_, rfl, ?_⟩
    refine hK.out _ _ ⟨hold_ hb t0, hold_ hb t1, hold_ hb t2, hold_ hb t3, hold_ hb t4, hold_ hb t5⟩ (fun hHeld => ?_)
    clear hK K
    refine norm_ (a' := ?_) ?_ ?_
    rotate_left
    · show Act.put _ (some 29) _ = _
      simp only [Act.put, List.setIfInBounds_toArray, List.set_cons_zero, List.set_cons_succ, i64_w, i32_w]
      rfl
    refine last_ (i := 8) (N := some 30) #[true, true, true, true, true, true, true, true, true, false, false] rfl rfl (one_of HT_.out (by kernel_rfl)) (by decide) (fun K hK => ?_)
    refine value_ (v := .slice (some ⟨w3.heap.size, 0, none⟩) 1 1) (w1 := w3.alloc (.cells #[.int .i64 (nth o4 0).f0, .string (nth o4 0).f1, .int .i64 (nth o4 0).f2, .slice A6 (nth o4 0).f3.length c6] 24)) (by rfl) rfl ?_ ?_
    · go_simp
    refine hK.out _ _ ?_
    clear hK K
    refine norm_ (a' := ?_) ?_ ?_
    rotate_left
    · show Act.put _ (some 30) _ = _
      simp only [Act.put, List.setIfInBounds_toArray, List.set_cons_zero, List.set_cons_succ, i64_w, i32_w]
      rfl
    
    refine pure_ (i := 9) (N := some 4) (v := ?_) (a' := ?_) #[true, true, true, true, true, true, true, true, true, true, false] rfl rfl (any_of HT_.out (by kernel_rfl)) (fun _ _ _ h => h) (Or.inl ⟨by rfl, ?_⟩) ?_ ?_
    rotate_left
    · intro w'
      go_simp
      with_reducible rfl
    rotate_left
    · simp only [Act.put, List.setIfInBounds_toArray, List.set_cons_zero, List.set_cons_succ, i64_w, i32_w]
      rfl
    refine pure_ (i := 10) (N := some 5) (v := ?_) (a' := ?_) #[true, true, true, true, true, true, true, true, true, true, true] rfl rfl (any_of HT_.out (by kernel_rfl)) (fun _ _ _ h => h) (Or.inl ⟨by rfl, ?_⟩) ?_ ?_
    rotate_left
    · intro w'
      go_simp
      with_reducible rfl
    rotate_left
    · simp only [Act.put, List.setIfInBounds_toArray, List.set_cons_zero, List.set_cons_succ, i64_w, i32_w]
      rfl
    refine done_ (done_of HT_.out (by kernel_rfl)) ?_
    try go_wp2
    refine bodyPost_ret (results_tmp2 rfl _ _ _) rfl ?_
    refine ⟨_, 1, by rw [HR.out]; rfl, by rw [HR.out]; exact Nat.le_refl _, ?_, below_alloc HB3.out _⟩
    rw [HR.out]
    have h9 := oneF (W := w3) (x := ⟨(nth o4 0).f0, (nth o4 0).f1, (nth o4 0).f2, filledL (nth o4 0).f3 s l⟩) (A3 := A6) (c3 := c6) (by rw [hfl]; exact hl6) HF6.out
    rw [hfl] at h9
    exact Kd.F_mono h9 (fun k hk => by rcases hk with (hk | hk) | hk; exact .inl hk.1; exact .inr (Nat.le_trans (Below.drew (HB1 _).out).size hk); exact .inr (by rw [hk]; exact HB3.out.size))
  by_cases h4 : o0 = 4
  · subst h4
    have hok4 : 0 < o4.length ∧ 0 ≤ o5 ∧ 0 < l.length ∧ cntL (nth l 0).f3 < 1000000 := by simpa [ChangeOk] using hok
    obtain ⟨hn, h0, hl0, hx⟩ := hok4
    have HR : Aside0 (changeG ⟨4, o1, o2, o3, o4, o5, o6, o7⟩ l = unwrappedG (nth l 0) ⟨4, o1, o2, o3, o4, o5, o6, o7⟩) := ⟨by simp [changeG]⟩
    clear hok h1 h2 h3
    have HFl := fun o1 : Obj => Kd.F_step (W1 := w.alloc o1) HF.out (fun k hk _ => (HB1 o1).out.block k hk.2)
    have HNF := fun o1 : Obj => Kd.F_step (W1 := w.alloc o1) HN.out (fun k hk _ => (HB1 o1).out.block k hk.2)
    obtain ⟨ad4, A5, c5, rfl, HC5, HF5, n0, n1, n2, n3⟩ := elemF (HFl (.cells #[.int .i64 4, .slice AR o1.length cR, .int .i64 o2, .int .i64 o3, .slice AN o4.length cN, .int .i64 o5, .string o6, .string o7] 27)) hl0
    have HFl := Aside0.mk HFl
    have HNF := Aside0.mk HNF
    have hz0 : ad4.add (0 * 4) = ad4 := by rw [Nat.zero_mul]; exact add_zero_ ad4
    rw [hz0] at n0 n1 n2 n3
    go_enter Tryd.func31, Tryd.ntmps31
    go_wp2_with fail
    refine start_ (n := 9) (S := fun w' => w'.cell? ⟨w.heap.size, 0, none⟩ = some (.int .i64 4) ∧ w'.cell? ⟨w.heap.size, 1, none⟩ = some (.slice AR o1.length cR) ∧ w'.cell? ⟨w.heap.size, 2, none⟩ = some (.int .i64 o2) ∧ w'.cell? ⟨w.heap.size, 3, none⟩ = some (.int .i64 o3) ∧ w'.cell? ⟨w.heap.size, 4, none⟩ = some (.slice AN o4.length cN) ∧ w'.cell? ⟨w.heap.size, 5, none⟩ = some (.int .i64 o5) ∧ w'.cell? ⟨w.heap.size, 6, none⟩ = some (.string o6) ∧ w'.cell? ⟨w.heap.size, 7, none⟩ = some (.string o7) ∧ w'.cell? ad4 = some (.int .i64 (nth l 0).f0) ∧ w'.cell? ⟨ad4.block, ad4.off + 1, none⟩ = some (.string (nth l 0).f1) ∧ w'.cell? ⟨ad4.block, ad4.off + 2, none⟩ = some (.int .i64 (nth l 0).f2) ∧ w'.cell? ⟨ad4.block, ad4.off + 3, none⟩ = some (.slice A5 (nth l 0).f3.length c5)) (ds := []) #[false, false, false, false, false, false, false, false, false] (by kernel_rfl) rfl rfl ⟨blk_cell (heap_alloc_new _ _) 0, blk_cell (heap_alloc_new _ _) 1, blk_cell (heap_alloc_new _ _) 2, blk_cell (heap_alloc_new _ _) 3, blk_cell (heap_alloc_new _ _) 4, blk_cell (heap_alloc_new _ _) 5, blk_cell (heap_alloc_new _ _) 6, blk_cell (heap_alloc_new _ _) 7, n0, n1, n2, n3⟩ (fun hHeld => ?_); refine with_tabW edit_change.r9.tab edit_change.r9.bits (fun HT_ HW_ => ?_)
    refine pure_ (i := 0) (N := some 33) (v := ?_) (a' := ?_) #[true, false, false, false, false, false, false, false, false] rfl rfl (any_of HT_.out (by kernel_rfl)) (fun _ _ _ h => h) (Or.inl ⟨by rfl, ?_⟩) ?_ ?_
    rotate_left
    · intro w'
      go_simp
      with_reducible rfl
    rotate_left
    · simp only [Act.put, List.setIfInBounds_toArray, List.set_cons_zero, List.set_cons_succ, i64_w, i32_w]
      rfl
    refine pure_ (i := 1) (N := some 34) (v := ?_) (a' := ?_) #[true, true, false, false, false, false, false, false, false] rfl rfl (any_of HT_.out (by kernel_rfl)) (fun _ _ _ h => h) (Or.inl ⟨by rfl, ?_⟩) ?_ ?_
    rotate_left
    · intro w'
      go_simp
      with_reducible rfl
    rotate_left
    · simp only [Act.put, List.setIfInBounds_toArray, List.set_cons_zero, List.set_cons_succ, i64_w, i32_w]
      rfl
    refine take_ (i := 2) (N := some 35) (v := ?_) (a' := ?_) #[true, true, true, false, false, false, false, false, false] rfl rfl (take_ofW HT_.out HW_.out (by kernel_rfl)) (fun _ _ _ h => h) (Or.inl ⟨by rfl, ?_⟩) hHeld ?_ ?_
    rotate_left
    · rintro w' ⟨t0, t1, t2, t3, t4, t5, t6, t7, t8, t9, t10, t11⟩
      go_simp
      with_reducible rfl
    rotate_left
    · simp only [Act.put, List.setIfInBounds_toArray, List.set_cons_zero, List.set_cons_succ, i64_w, i32_w]
      rfl
    refine take_ (i := 3) (N := some 36) (v := ?_) (a' := ?_) #[true, true, true, true, false, false, false, false, false] rfl rfl (take_ofW HT_.out HW_.out (by kernel_rfl)) (fun _ _ _ h => h) (Or.inl ⟨by rfl, ?_⟩) hHeld ?_ ?_
    rotate_left
    · rintro w' ⟨t0, t1, t2, t3, t4, t5, t6, t7, t8, t9, t10, t11⟩
      go_simp
      with_reducible rfl
    rotate_left
    · simp only [Act.put, List.setIfInBounds_toArray, List.set_cons_zero, List.set_cons_succ, i64_w, i32_w]
      rfl
    refine one_ (i := 4) (N := some 37) #[true, true, true, true, true, false, false, false, false] rfl rfl (one_of HT_.out (by kernel_rfl)) (by decide) (fun K hK => ?_)
    refine goes_ Tryd.func51 (by kernel_rfl) rfl #[.agg #[.int .i64 (nth l 0).f0, .string (nth l 0).f1, .int .i64 (nth l 0).f2, .slice A5 (nth l 0).f3.length c5], .agg #[.int .i64 4, .slice AR o1.length cR, .int .i64 o2, .int .i64 o3, .slice AN o4.length cN, .int .i64 o5, .string o6, .string o7]] (by rfl) rfl rfl (by (try simp only [List.map_toArray, List.map_cons, List.map_nil]); first | done | rfl | (simp only [List.length_drop, List.length_take]; rfl)) ?_
    refine (unwrapped_any (nth l 0) ⟨4, o1, o2, o3, o4, o5, o6, o7⟩ A5 AR AN c5 cR cN (fun k => P k ∧ k < w.heap.size) _ hx h0 hn HC5 hcN ?hF (Kd.F_now (ok := fun k => P k ∧ k < w.heap.size) ?hG)).mono ?_
    (case hF => exact HF5.out)
    (case hG => exact HNF.out _)
    rintro e w3 ⟨A6, c6, rfl, hl6, hF6, hb⟩
    have HB3 : Aside0 (Below w.heap.size w w3) := ⟨below_then (Below.drew (HB1 _).out) (Below.drew (HB1 _).out).size hb⟩
    have HF6 := Aside0.mk hF6
    obtain ⟨t0, t1, t2, t3, t4, t5, t6, t7, t8, t9, t10, t11⟩ := hHeld
    refine ⟨_, rfl, ?_⟩
    refine hK.out _ _ ⟨hold_ hb t0, hold_ hb t1, hold_ hb t2, hold_ hb t3, hold_ hb t4, hold_ hb t5, hold_ hb t6, hold_ hb t7, hold_ hb t8, hold_ hb t9, hold_ hb t10, hold_ hb t11⟩ (fun hHeld => ?_)
    clear hK K
    refine norm_ (a' := ?_) ?_ ?_
    rotate_left
    · show Act.put _ (some 37) _ = _
      simp only [Act.put, List.setIfInBounds_toArray, List.set_cons_zero, List.set_cons_succ, i64_w, i32_w]
      rfl
    refine pure_ (i := 5) (N := some 38) (v := ?_) (a' := ?_) #[true, true, true, true, true, true, false, false, false] rfl rfl (any_of HT_.out (by kernel_rfl)) (fun _ _ _ h => h) (Or.inl ⟨by rfl, ?_⟩) ?_ ?_
    rotate_left
    · intro w'
      go_simp
      with_reducible rfl
    rotate_left
    · simp only [Act.put, List.setIfInBounds_toArray, List.set_cons_zero, List.set_cons_succ, i64_w, i32_w]
      rfl
    refine pure_ (i := 6) (N := some 39) (v := ?_) (a' := ?_) #[true, true, true, true, true, true, true, false, false] rfl rfl (any_of HT_.out (by kernel_rfl)) (fun _ _ _ h => h) (Or.inl ⟨by rfl, ?_⟩) ?_ ?_
    rotate_left
    · intro w'
      go_simp
      with_reducible rfl
    rotate_left
    · simp only [Act.put, List.setIfInBounds_toArray, List.set_cons_zero, List.set_cons_succ, i64_w, i32_w]
      rfl
    refine pure_ (i := 7) (N := some 4) (v := ?_) (a' := ?_) #[true, true, true, true, true, true, true, true, false] rfl rfl (any_of HT_.out (by kernel_rfl)) (fun _ _ _ h => h) (Or.inl ⟨by rfl, ?_⟩) ?_ ?_
    rotate_left
    · intro w'
      go_simp
      with_reducible rfl
    rotate_left
    · simp only [Act.put, List.setIfInBounds_toArray, List.set_cons_zero, List.set_cons_succ, i64_w, i32_w]
      rfl
    refine pure_ (i := 8) (N := some 5) (v := ?_) (a' := ?_) #[true, true, true, true, true, true, true, true, true] rfl rfl (any_of HT_.out (by kernel_rfl)) (fun _ _ _ h => h) (Or.inl ⟨by rfl, ?_⟩) ?_ ?_
    rotate_left
    · intro w'
      go_simp
      with_reducible rfl
    rotate_left
    · simp only [Act.put, List.setIfInBounds_toArray, List.set_cons_zero, List.set_cons_succ, i64_w, i32_w]
      rfl
    refine done_ (done_of HT_.out (by kernel_rfl)) ?_
    try go_wp2
    refine bodyPost_ret (results_tmp2 rfl _ _ _) rfl ?_
    exact ⟨A6, c6, by rw [HR.out]; rfl, by rw [HR.out]; exact hl6, by rw [HR.out]; exact Kd.F_mono HF6.out (fun k hk => .inl hk.1), HB3.out⟩
  · have hl0 : 0 < l.length := by simpa [ChangeOk, h1, h2, h3, h4] using hok
    have HR : Aside0 (changeG ⟨o0, o1, o2, o3, o4, o5, o6, o7⟩ l = ([⟨(nth l 0).f0, o7, (nth l 0).f2, (nth l 0).f3⟩], settableB (nth l 0).f0 && decide ((nth l 0).f1.data.toList = o6.data.toList))) := ⟨by simp [changeG, h1, h2, h3, h4]⟩
    clear hok
    have HFl := fun o1 : Obj => Kd.F_step (W1 := w.alloc o1) HF.out (fun k hk _ => (HB1 o1).out.block k hk.2)
    obtain ⟨ad4, A5, c5, rfl, HC5, HF5, n0, n1, n2, n3⟩ := elemF (HFl (.cells #[.int .i64 o0, .slice AR o1.length cR, .int .i64 o2, .int .i64 o3, .slice AN o4.length cN, .int .i64 o5, .string o6, .string o7] 27)) hl0
    have HC5 := Aside0.mk HC5
    have hz0 : ad4.add (0 * 4) = ad4 := by rw [Nat.zero_mul]; exact add_zero_ ad4
    rw [hz0] at n0 n1 n2 n3
    have HB2 : ∀ a b : Obj, Aside0 (Below w.heap.size w ((w.alloc a).alloc b)) := fun a b => ⟨below_alloc (below_alloc (Below.refl _ _) _) _⟩
    have hb27 := settable_f (nth l 0).f0 (nth l 0).f1 (nth l 0).f2 (nth l 0).f3
    generalize settableB (nth l 0).f0 = sb at HR hb27
    have HS := Aside0.mk hb27
    clear hb27
    have HV : Aside0 (((nth l 0).f1.toList == o6.toList) = decide ((nth l 0).f1.data.toList = o6.data.toList)) := ⟨by rw [ba_toList, ba_toList]; exact Bool.eq_iff_iff.2 (by simp)⟩
    have HV2 := HV.out
    generalize decide ((nth l 0).f1.data.toList = o6.data.toList) = tb at HR HV HV2
    go_enter Tryd.func31, Tryd.ntmps31
    go_wp2_with (go_at_call 52; go_loud (refine (edit_settable.calls 6 (nth l 0).f0 (nth l 0).f1 (nth l 0).f2 A5 c5 (nth l 0).f3 sb _ (Kd.C_below (Kd.F_now HF5.out) (below_alloc (Below.refl _ _) _)) HC5.out HS.out).mono ?_; rintro e w3 ⟨rfl, hb3⟩; have HX := Aside0.mk ((hb3.block (w.heap.size + 1) (by simp)).trans (alloc2_snd _ _ _)); have HY := Aside0.mk ((hb3.block w.heap.size (by simp; omega)).trans (alloc2_fst _ _ _)); have x0 := blk_cell HX.out 0; have x1 := blk_cell HX.out 1; have x2 := blk_cell HX.out 2; have x3 := blk_cell HX.out 3; have xz := blk_frozen HX.out 1; have y6 := blk_cell HY.out 6; have y7 := blk_cell HY.out 7; have hb3' := Aside0.mk hb3; clear hb3))
    all_goals
      refine bodyPost_ret (results_tmp2 rfl _ _ _) rfl ?_
      refine ⟨some ⟨w3.heap.size, 0, none⟩, 1, by rw [HR.out]; first | rfl | (simp_all; done), by rw [HR.out]; exact Nat.le_refl _, ?_, below_alloc ((below_then (HB2 _ _).out (HB2 _ _).out.size hb3'.out).setCell (by show w.heap.size ≤ w.heap.size + 1; omega) _) _⟩
      rw [HR.out]
      have hz : (w3.setCell ⟨w.heap.size + 1, 1, none⟩ (.string o7)).heap.size = w3.heap.size := by simp [World.setCell]
      have h9 := oneF (W := w3.setCell ⟨w.heap.size + 1, 1, none⟩ (.string o7)) (x := ⟨(nth l 0).f0, o7, (nth l 0).f2, (nth l 0).f3⟩) (A3 := A5) (c3 := c5) HC5.out (Kd.F_far (Kd.F_step HF5.out (fun k hk _ => ((below_then (HB2 _ _).out (HB2 _ _).out.size hb3'.out).block k hk.2).trans ((HB1 _).out.block k hk.2).symm)) (fun k hk => by show k ≠ w.heap.size + 1; omega) _)
      rw [hz] at h9
      exact Kd.F_mono h9 (fun k hk => by rcases hk with hk | hk; exact .inl hk.1; exact .inr (by rw [hk]; exact (below_then (HB2 _ _).out (HB2 _ _).out.size hb3'.out).size))
end Go.Proofs.YtgcpfelccfnnbaaDoor.X
namespace Go.Proofs.YtgcpfelccfnnbaaDoor.X
open Go.RowKit Go.Proofs.YtgcpfelccfnnbaaDoorW.PrintWords Go.Proofs.YtgcpfelccfnnbaaDoorW.PrintLast Go.Proofs.YtgcpfelccfnnbaaDoorW.PrintMore
attribute [local go_sem] max2_int min2_int max_two min_two max_three min_three max_four min_four   -- for this text's walks alone
set_option linter.unusedVariables false
set_option linter.unusedSimpArgs false
def slices_Clone_int_int.f (l0 : List Int) : Option (List Int) := if l0.length * 8 ≤ 140737488355328 then some l0 else none
theorem slices_Clone_int_int.info : (Tryd.prog.info? 3).map (fun i => (i.zero, i.size, i.bytes)) = some (some (.int .i64 0), 1, 8) := by kernel_rfl
set_option maxRecDepth 100000 in
set_option maxHeartbeats 400000 in
theorem slices_Clone_int_int.fresh (A0 : Option Addr) (c0 : Nat) (l0 : List Int) (w : World) (hr0 : Kd.C (Kd.int .i64) w A0 l0.length l0) (hlen : l0.length * 8 ≤ 140737488355328) :
    Calls Tryd.prog 53 #[.slice A0 l0.length c0] w fun e w' => ∃ v_ : Value, e = .returned v_ ∧ (Kd.int .i64).R 3 w' w.heap.size (fun k => w.heap.size ≤ k) v_ l0 ∧ Below w.heap.size w w' := by
  have hu24 := Tryd.underlying25
  cases A0 with
  | none =>
    have hl : l0 = [] := C_nil_list hr0
    subst hl
    have hq : ∀ w, Sem.run Tryd.prog (binOp BinOp.eql 25 (Value.slice none 0 c0) (Value.slice none 0 0)) w = Result.ok (Value.bool true) w := fun w => Lib.run_eql_slice_nil (P:=Tryd.prog) w 25 3 none 0 c0 0 0 Tryd.underlying25
    go_enter Tryd.func53, Tryd.ntmps53
    go_wp2_with fail
    go_ret
    exact ⟨_, rfl, Kd.R_nil _ _ _ _ _, Below.refl _ _⟩
  | some ad =>
    have hq := fun w => Lib.run_eql_slice_nil (P:=Tryd.prog) w 25 3 (some ad) l0.length c0 0 0 Tryd.underlying25
    go_enter Tryd.func53, Tryd.ntmps53
    go_wp2_with (at_builtin; go_loud (refine Kd.R_append_rows (Kd.int .i64) (Rr := fun x cs => (Kd.int .i64).K w x cs) (w0 := w) w.heap.size rfl (.tmp 5) (.tmp 6) 25 3 (.int .i64 0) 8 rfl Tryd.underlying25 slices_Clone_int_int.info rfl (show 0 < 1 from by decide) (by omega) (.slice (some ⟨w.heap.size, 0, none⟩) 0 0) [] l0 (some ad) l0.length c0 (fun k => w.heap.size ≤ k) (fun _ => False) rfl rfl ?aO ?aR (fun _ _ h => h) (fun _ h => h.elim) ?aF ?aB ?aS ?aL ?_; (case aO => exact R_lit0 _ _ _ _ _ (Nat.le_refl _) (Nat.le_refl _)); (case aR => exact ReadsRow.imp_ hr0 (below_alloc (Below.refl _ _) _) (fun _ _ h => h)); (case aF => exact fun k hk => (Nat.le_trans (by simp) hk)); (case aB => exact (Below.refl _ _).alloc (Nat.le_refl _) _); (case aS => simp); (case aL => simpa using hlen); intro v1 w1 HN HB HG HA))
    go_ret
    exact ⟨_, rfl, by simpa using HN, HB⟩
theorem slices_Clone_int_int.calls (A0 : Option Addr) (c0 : Nat) (l0 : List Int) (r : List Int) (w : World) (hr0 : Kd.C (Kd.int .i64) w A0 l0.length l0) (hc0 : l0.length ≤ c0) (h : slices_Clone_int_int.f l0 = some r) :
    Calls Tryd.prog 53 #[.slice A0 l0.length c0] w fun e w' => ∃ v_ : Value, e = .returned v_ ∧ Kd.R (Kd.int .i64) 3 w' w.heap.size (fun _ => True) v_ r ∧ Below w.heap.size w w' := by
  have hlen : l0.length * 8 ≤ 140737488355328 := by
    unfold slices_Clone_int_int.f at h; split at h; assumption; cases h
  have hr : l0 = r := by
    unfold slices_Clone_int_int.f at h; rw [if_pos hlen] at h; injection h
  subst hr
  refine (slices_Clone_int_int.fresh A0 c0 l0 w hr0 hlen).mono ?_
  rintro e w' ⟨v_, rfl, hR, hB⟩
  exact ⟨v_, rfl, Kd.R_mono hR (fun _ _ => trivial), hB⟩
end Go.Proofs.YtgcpfelccfnnbaaDoor.X
namespace Go.Proofs.YtgcpfelccfnnbaaDoor.X
open Go.RowKit Go.Proofs.YtgcpfelccfnnbaaDoorW.PrintWords Go.Proofs.YtgcpfelccfnnbaaDoorW.PrintLast Go.Proofs.YtgcpfelccfnnbaaDoorW.PrintMore
attribute [local go_sem] max2_int min2_int max_two min_two max_three min_three max_four min_four   -- for this text's walks alone
set_option linter.unusedVariables false
set_option linter.unusedSimpArgs false
def set8 (W : World) (g : Nat) (a b c d e f h i : Value) : World := (((((((W.setCell ⟨g, 0, none⟩ a).setCell ⟨g, 1, none⟩ b).setCell ⟨g, 2, none⟩ c).setCell ⟨g, 3, none⟩ d).setCell ⟨g, 4, none⟩ e).setCell ⟨g, 5, none⟩ f).setCell ⟨g, 6, none⟩ h).setCell ⟨g, 7, none⟩ i
theorem blk_put8 {W : World} {g : Nat} {t : TypeId} {z0 z1 z2 z3 z4 z5 z6 z7 a b c d e f h i : Value} (hb : W.heap[g]? = some (.cells #[z0, z1, z2, z3, z4, z5, z6, z7] t (0, 0))) : (set8 W g a b c d e f h i).heap[g]? = some (.cells #[a, b, c, d, e, f, h, i] t (0, 0)) := by
  unfold set8
  refine blk_put (cs := #[a, b, c, d, e, f, h, z7]) ?_ 7 _ rfl
  refine blk_put (cs := #[a, b, c, d, e, f, z6, z7]) ?_ 6 _ rfl
  refine blk_put (cs := #[a, b, c, d, e, z5, z6, z7]) ?_ 5 _ rfl
  refine blk_put (cs := #[a, b, c, d, z4, z5, z6, z7]) ?_ 4 _ rfl
  refine blk_put (cs := #[a, b, c, z3, z4, z5, z6, z7]) ?_ 3 _ rfl
  refine blk_put (cs := #[a, b, z2, z3, z4, z5, z6, z7]) ?_ 2 _ rfl
  refine blk_put (cs := #[a, z1, z2, z3, z4, z5, z6, z7]) ?_ 1 _ rfl
  exact blk_put (cs := #[z0, z1, z2, z3, z4, z5, z6, z7]) hb 0 _ rfl
theorem below_set8 {B : Nat} {w W : World} {g : Nat} {a b c d e f h' i : Value} (h : Below B w W) (hg : B ≤ g) : Below B w (set8 W g a b c d e f h' i) := (((((((h.setCell hg _).setCell hg _).setCell hg _).setCell hg _).setCell hg _).setCell hg _).setCell hg _).setCell hg _
theorem heap_set8 {W : World} {g k : Nat} {a b c d e f h i : Value} (hk : k ≠ g) : (set8 W g a b c d e f h i).heap[k]? = W.heap[k]? := by
  unfold set8
  rw [Below.heap_setCell _ _ _ _ hk, Below.heap_setCell _ _ _ _ hk, Below.heap_setCell _ _ _ _ hk, Below.heap_setCell _ _ _ _ hk, Below.heap_setCell _ _ _ _ hk, Below.heap_setCell _ _ _ _ hk, Below.heap_setCell _ _ _ _ hk, Below.heap_setCell _ _ _ _ hk]
def zero8 : Obj := .cells #[.int .i64 0, .slice none 0 0, .int .i64 0, .int .i64 0, .slice none 0 0, .int .i64 0, .string ⟨#[]⟩, .string ⟨#[]⟩] 27 (0, 0)
/-- What holds at the head of a round of the loop over the operation's items. -/
def CpRel (w : World) (o : S27) (P : Nat → Prop) (VR : Value) (A1 : Option Addr) (c1 : Nat) (wr : World) : Prop :=
  Below w.heap.size w wr ∧ wr.heap[w.heap.size]? = some (.cells #[.int .i64 o.f0, VR, .int .i64 o.f2, .int .i64 o.f3, .slice A1 o.f4.length c1, .int .i64 o.f5, .string o.f6, .string o.f7] 27 (0, 0)) ∧ wr.heap[w.heap.size + 1]? = some zero8 ∧
  (Kd.int .i64).R 3 wr w.heap.size (fun k => w.heap.size + 2 ≤ k) VR o.f1 ∧ Kd.N k24 24 wr w.heap.size (fun k => ((P k ∧ k < w.heap.size) ∨ w.heap.size + 2 ≤ k) ∧ some k ≠ VR.ownBlock) (.slice A1 o.f4.length c1) o.f4
theorem copiedFacts1 {w w1 : World} {a b c d e f h i : Value} {v : Value} {l : List Int} (hB : Below ((w.alloc (.cells #[a, b, c, d, e, f, h, i] 27)).alloc zero8).heap.size ((w.alloc (.cells #[a, b, c, d, e, f, h, i] 27)).alloc zero8) w1) (hV : (Kd.int .i64).R 3 w1 ((w.alloc (.cells #[a, b, c, d, e, f, h, i] 27)).alloc zero8).heap.size (fun k => ((w.alloc (.cells #[a, b, c, d, e, f, h, i] 27)).alloc zero8).heap.size ≤ k) v l) :
    Aside0 (w1.heap[w.heap.size]? = some (.cells #[a, b, c, d, e, f, h, i] 27 (0, 0))) ∧ Aside0 (w1.heap[w.heap.size + 1]? = some zero8) ∧ Aside0 (Below w.heap.size w w1) ∧ Aside0 ((Kd.int .i64).R 3 w1 w.heap.size (fun k => w.heap.size + 2 ≤ k) v l) := by
  have hB0 : Below w.heap.size w ((w.alloc (.cells #[a, b, c, d, e, f, h, i] 27)).alloc zero8) := below_alloc (below_alloc (Below.refl _ _) _) _
  refine ⟨⟨(hB.block w.heap.size (by rw [size_alloc2]; omega)).trans (alloc2_fst _ _ _)⟩, ⟨(hB.block (w.heap.size + 1) (by rw [size_alloc2]; omega)).trans (alloc2_snd _ _ _)⟩, ⟨below_then hB0 hB0.size hB⟩, ⟨?_⟩⟩
  rw [size_alloc2] at hV
  exact Kd.R_lower hV (by omega)
theorem copiedFacts2 {w w1 w2 : World} {a c d e f h i : Value} {b b' v : Value} {P : Nat → Prop} {l : List Int} {xs : List S24} (HX : w1.heap[w.heap.size]? = some (.cells #[a, b, c, d, e, f, h, i] 27 (0, 0))) (HY : w1.heap[w.heap.size + 1]? = some zero8) (HB : Below w.heap.size w w1) (HV : (Kd.int .i64).R 3 w1 w.heap.size (fun k => w.heap.size + 2 ≤ k) b' l)
    (hB : Below (w1.setCell ⟨w.heap.size, 1, none⟩ b').heap.size (w1.setCell ⟨w.heap.size, 1, none⟩ b') w2) (hH : (held k24 (w1.setCell ⟨w.heap.size, 1, none⟩ b') (fun k => P k ∧ k < w.heap.size)).R 24 w2 (w1.setCell ⟨w.heap.size, 1, none⟩ b').heap.size (fun k => (w1.setCell ⟨w.heap.size, 1, none⟩ b').heap.size ≤ k) v xs) :
    Aside0 (w2.heap[w.heap.size]? = some (.cells #[a, b', c, d, e, f, h, i] 27 (0, 0))) ∧ Aside0 (w2.heap[w.heap.size + 1]? = some zero8) ∧ Aside0 (Below w.heap.size w w2) ∧ Aside0 ((Kd.int .i64).R 3 w2 w.heap.size (fun k => w.heap.size + 2 ≤ k) b' l) ∧
    Aside0 (Kd.N k24 24 w2 w.heap.size (fun k => ((P k ∧ k < w.heap.size) ∨ w.heap.size + 2 ≤ k) ∧ some k ≠ b'.ownBlock) v xs) := by
  have hz : (w1.setCell ⟨w.heap.size, 1, none⟩ b').heap.size = w1.heap.size := by simp [World.setCell]
  have hB0 : Below w.heap.size w (w1.setCell ⟨w.heap.size, 1, none⟩ b') := HB.setCell (Nat.le_refl _) _
  have hlt := blk_lt HX
  have hlt2 := blk_lt HY
  have hVl := Kd.R_lt HV
  refine ⟨⟨(hB.block _ (by rw [hz]; exact hlt)).trans (blk_put HX 1 _ rfl)⟩, ⟨(hB.block _ (by rw [hz]; exact hlt2)).trans ?_⟩, ⟨below_then hB0 hB0.size hB⟩, ⟨?_⟩, ⟨?_⟩⟩
  · rw [Below.heap_setCell _ _ _ _ (by show w.heap.size + 1 ≠ w.heap.size; omega)]; exact HY
  · exact Kd.R_below (Kd.R_far HV (fun k hk => by show k ≠ w.heap.size; omega) _) hB
  · have h9 := held_N (ok' := fun k => ((P k ∧ k < w.heap.size) ∨ w.heap.size + 2 ≤ k) ∧ some k ≠ b'.ownBlock) hH hB (fun k hk => hk) (fun k hk => ?_) (fun k hk => ⟨.inl hk, fun he => ?_⟩)
    · exact Kd.N_lower h9 hB0.size
    · rw [hz] at hk
      exact ⟨.inr (by omega), fun he => by have := hVl k he.symm; omega⟩
    · have := HV.1 k he.symm
      have := hk.2
      omega
theorem CpRel_drew {w wr : World} {o : S27} {P : Nat → Prop} {VR : Value} {A1 : Option Addr} {c1 : Nat} (h : CpRel w o P VR A1 c1 wr) : CpRel w o P VR A1 c1 wr.drew := by
  obtain ⟨hB, hb, hr, hR, hN⟩ := h
  exact ⟨below_drew hB, hb, hr, Kd.R_drew hR, Kd.N_drew hN⟩
theorem CpRel_step {w w2 w3 : World} {o : S27} {P : Nat → Prop} {VR : Value} {g c1 i : Nat} {v : Value} (h : CpRel w o P VR (some ⟨g, 0, none⟩) c1 w2) (hi : i < o.f4.length) (hb : Below w2.heap.size w2 w3)
    (hv : Kd.R k24 24 w3 w2.heap.size (fun k => w2.heap.size ≤ k) v (nth o.f4 i).f3) :
    CpRel w o P VR (some ⟨g, 0, none⟩) c1 (w3.setCells g (i * 4) [.int .i64 (nth o.f4 i).f0, .string (nth o.f4 i).f1, .int .i64 (nth o.f4 i).f2, v]) := by
  obtain ⟨hB, hbk, hr, hR, hN⟩ := h
  have hgo : (Value.slice (some ⟨g, 0, none⟩) o.f4.length c1).ownBlock = some g := by simp [Value.ownBlock]
  have hg1 := hN.1 g hgo
  have hg2 := Kd.N_base hN g hgo
  have hg3 := Kd.N_lt hN g hgo
  have hg4 : w.heap.size + 2 ≤ g := by rcases hg1.1 with h | h <;> omega
  have hsz := hb.size
  have hB3 : Below w.heap.size w w3 := below_then hB hB.size hb
  obtain ⟨A3, c3, rfl⟩ := Kd.R_slice hv
  have hN3 := Kd.N_below hN hb
  obtain ⟨cs, hcl, hK, hcc, hfr⟩ := Kd.N_elem hN3 z24 (i : Int) (by omega) (by omega)
  simp only [Int.toNat_natCast] at hK hcc
  have hRlt := Kd.R_lt hR
  have hlen4 : cs.length = 4 := hcl
  have hseg := Kd.N_seg hN3 (i : Int) (by omega) (by omega) (c := cs) (seg := [.int .i64 (nth o.f4 i).f0, .string (nth o.f4 i).f1, .int .i64 (nth o.f4 i).f2, .slice A3 (nth o.f4 i).f3.length c3]) (j := 0) (x' := nth o.f4 i) (okp := fun k => w2.heap.size ≤ k) hcl (fun j u h => by simp only [Int.toNat_natCast]; exact hcc j u h) (by show 0 + 4 ≤ 4; omega)
    (by rw [List.take_zero, List.nil_append, List.drop_eq_nil_of_le (by show cs.length ≤ 0 + 4; omega), List.append_nil]; exact k24_mkF _ _ (nth o.f4 i) (Kd.R_reads' hv).2.1 (Kd.R_F hv))
    (fun k hk => ⟨⟨.inr (by omega), fun he => by have := hRlt k he.symm; omega⟩, by omega⟩)
  simp only [Int.toNat_natCast, Nat.add_zero] at hseg
  obtain ⟨hset, hgrow⟩ := hseg
  have hls : o.f4.set i (nth o.f4 i) = o.f4 := by
    apply List.ext_getElem?
    intro j
    rw [List.getElem?_set]
    split
    · rename_i h; subst h; exact (nth_some hi).symm
    · rfl
  rw [hls] at hset
  have hfar : ∀ k, k < w3.heap.size → k ≠ g → (w3.setCells g (i * 4) [.int .i64 (nth o.f4 i).f0, .string (nth o.f4 i).f1, .int .i64 (nth o.f4 i).f2, .slice A3 (nth o.f4 i).f3.length c3]).heap[k]? = w3.heap[k]? := fun k hk hne => hgrow.block k hk (fun he => hne (by injection he))
  refine ⟨hB3.grown hgrow (by have := hB.size; omega) (fun k hk => by injection hk with hk; omega), ?_, ?_, ?_, hset⟩
  · rw [hfar _ (by omega) (by omega), hb.block _ (by omega)]; exact hbk
  · rw [hfar _ (by omega) (by omega), hb.block _ (by omega)]; exact hr
  · refine Kd.R_mono (Kd.R_step (Kd.R_below (Kd.R_tight2 rfl hR) hb) (fun k hk hlt => hfar k hlt (fun he => hg1.2 (by rw [← he]; exact hk.1)))) (fun k hk => hk.2)
def edit_copied.r6.T : Bool × List (List Nat × List Nat) := (true, [([], []), ([0], [0]), ([], []), ([], []), ([3], [3]), ([], []), ([4, 5], [4, 5]), ([6], [6]), ([7], [7]), ([1, 2, 0, 1, 2, 3, 4, 5, 6, 7, 8], [1, 2]), ([9, 8, 8, 0, 1, 2, 3, 4, 5, 6, 7, 8], [8, 9])])
def edit_copied.r6.B : List Nat := [0, 1, 0, 0, 8, 0, 56, 120, 248, 511, 1023]
theorem edit_copied.r6.tab : rtab .any (opsOf Tryd.f32 6) = edit_copied.r6.T := by kernel_rfl
theorem edit_copied.r6.bits : waitsOk edit_copied.r6.T.2 edit_copied.r6.B = true := by kernel_rfl
set_option maxRecDepth 100000 in
set_option maxHeartbeats 2000000 in
theorem copied_any (o : S27) (AR AN : Option Addr) (cR cN : Nat) (P : Nat → Prop) (w : World) (hcnt : cntL o.f4 < 1000000) (hl1 : o.f1.length * 8 ≤ 140737488355328) (hR : Kd.C (Kd.int .i64) w AR o.f1.length o.f1) (hN : Kd.F k24 w P AN o.f4.length o.f4) :
    Calls Tryd.prog 32 #[.agg #[.int .i64 o.f0, .slice AR o.f1.length cR, .int .i64 o.f2, .int .i64 o.f3, .slice AN o.f4.length cN, .int .i64 o.f5, .string o.f6, .string o.f7]] w fun e w' => ∃ v1 v4 : Value, e = .returned (.agg #[.int .i64 o.f0, v1, .int .i64 o.f2, .int .i64 o.f3, v4, .int .i64 o.f5, .string o.f6, .string o.f7]) ∧ (Kd.int .i64).R 3 w' w.heap.size (fun k => w.heap.size ≤ k) v1 o.f1 ∧ Kd.N k24 24 w' w.heap.size (fun k => (P k ∨ w.heap.size ≤ k) ∧ some k ≠ v1.ownBlock) v4 o.f4 ∧ Below w.heap.size w w' := by
  have hl4 : o.f4.length * 56 ≤ 140737488355328 := by have := cntL_len o.f4; omega
  have HP := Aside0.mk (Kd.F_bound hN)
  have HRR := Aside0.mk hR
  clear hN hR
  have HB2 : ∀ a b : Obj, Aside0 (Below w.heap.size w ((w.alloc a).alloc b)) := fun a b => ⟨below_alloc (below_alloc (Below.refl _ _) _) _⟩
  go_enter Tryd.func32, Tryd.ntmps32
  go_wp2_with (first
    | (go_at_call 53; go_loud (refine (slices_Clone_int_int.fresh AR cR o.f1 _ (Kd.C_below HRR.out (HB2 _ _).out) hl1).mono ?_; rintro e w1 ⟨VR, rfl, hV, hB1⟩; obtain ⟨AV, cV, rfl⟩ := Kd.R_slice hV; obtain ⟨HX, HY, HB3, HV⟩ := copiedFacts1 hB1 hV; clear hB1 hV; have x1 := blk_cell HX.out 1; have xz1 := blk_frozen HX.out 1; have x4 := blk_cell HX.out 4))
    | (go_at_call 54; go_loud (refine (api_Node_54.fresh (fun k => P k ∧ k < w.heap.size) AN cN o.f4 _ (Kd.F_far (Kd.F_step HP.out (fun k hk _ => HB3.out.block k hk.2)) (fun k hk => Nat.ne_of_lt hk.2) _) hl4).mono ?_; rintro e w2 ⟨VN, rfl, hH, hB1⟩; obtain ⟨A1, c1, rfl⟩ := Kd.R_slice hH; obtain ⟨HX2, HY2, HB4, HV2, HN2⟩ := copiedFacts2 HX.out HY.out HB3.out HV.out hB1 hH; clear hB1 hH x1 xz1 x4; have x4 := blk_cell HX2.out 4; have xz4 := blk_frozen HX2.out 4)))
  clear HX HY HB3 HV x4 xz4
  have HC0 : Aside0 (CpRel w o P (.slice AV o.f1.length cV) A1 c1 (w2.setCell ⟨w.heap.size, 4, none⟩ (.slice A1 o.f4.length c1))) := by
    refine ⟨HB4.out.setCell (Nat.le_refl _) _, blk_put HX2.out 4 _ rfl, ?_, Kd.R_far HV2.out (fun k hk => by show k ≠ w.heap.size; omega) _, Kd.N_far HN2.out (fun k hk => by show k ≠ w.heap.size; rcases hk.1 with h | h <;> omega) _⟩
    rw [Below.heap_setCell _ _ _ _ (by show w.heap.size + 1 ≠ w.heap.size; omega)]
    exact HY2.out
  clear HX2 HY2 HB4 HV2 HN2
  go_loopg [15] o.f4.length (fun kq v15 w' => ∃ i : Nat, v15 = .int .i64 i ∧ Aside0 (i + kq = o.f4.length) ∧ Aside0 (CpRel w o P (.slice AV o.f1.length cV) A1 c1 w'))
  case atStart => exact ⟨0, rfl, ⟨by omega⟩, HC0⟩
  case round =>
    clear HC0
    obtain ⟨i, rfl, HK, HR⟩ := hrel
    by_cases hlt : i < o.f4.length
    · obtain ⟨ad, g, c2, A3, c3, hv, Had, Hg, hc2, hl3, HF3, e0, e1, e2, e3, _, _, _, _⟩ := elemN HR.out.2.2.2.2 hlt
      injection hv with hv1 hv2 hv3
      subst hv1
      subst hv3
      have b3 : wr.cell? ⟨w.heap.size, 4, none⟩ = some (.slice (some ad) o.f4.length c1) := blk_cell HR.out.2.1 4
      have Hcells := HK
      go_wp2
      refine start_ (n := 11) (S := fun w' => w'.cell? ⟨w.heap.size, 4, none⟩ = some (.slice (some ad) o.f4.length c1) ∧ w'.cell? (ad.add (i * 4)) = some (.int .i64 (nth o.f4 i).f0) ∧ w'.cell? ⟨(ad.add (i * 4)).block, (ad.add (i * 4)).off + 1, none⟩ = some (.string (nth o.f4 i).f1) ∧ w'.cell? ⟨(ad.add (i * 4)).block, (ad.add (i * 4)).off + 2, none⟩ = some (.int .i64 (nth o.f4 i).f2) ∧ w'.cell? ⟨(ad.add (i * 4)).block, (ad.add (i * 4)).off + 3, none⟩ = some (.slice A3 (nth o.f4 i).f3.length c3)) (ds := [10]) #[false, false, false, false, false, false, false, false, false, false, false] (by kernel_rfl) rfl rfl ⟨b3, e0, e1, e2, e3⟩ (fun hHeld => ?_); refine with_tabW edit_copied.r6.tab edit_copied.r6.bits (fun HT_ HW_ => ?_)
      have HR2 : Aside0 (CpRel w o P (.slice AV o.f1.length cV) (some ad) c1 wr.drew) := ⟨CpRel_drew HR.out⟩
      clear HR b3 e0 e1 e2 e3 Hcells
      generalize hw2 : wr.drew = w2 at HR2 hHeld ⊢
      refine pure_ (i := 0) (N := some 18) (v := ?_) (a' := ?_) #[true, false, false, false, false, false, false, false, false, false, false] rfl rfl (any_of HT_.out (by kernel_rfl)) (fun _ _ _ h => h) (Or.inl ⟨by rfl, ?_⟩) ?_ ?_
      rotate_left
      · intro w'
        go_simp
        with_reducible rfl
      rotate_left
      · simp only [Act.put, List.setIfInBounds_toArray, List.set_cons_zero, List.set_cons_succ, i64_w, i32_w]
        rfl
      refine pure_ (i := 2) (N := some 20) (v := ?_) (a' := ?_) #[true, false, true, false, false, false, false, false, false, false, false] rfl rfl (any_of HT_.out (by kernel_rfl)) (fun _ _ _ h => h) (Or.inl ⟨by rfl, ?_⟩) ?_ ?_
      rotate_left
      · intro w'
        go_simp
        with_reducible rfl
      rotate_left
      · simp only [Act.put, List.setIfInBounds_toArray, List.set_cons_zero, List.set_cons_succ, i64_w, i32_w]
        rfl
      refine pure_ (i := 3) (N := some 21) (v := ?_) (a' := ?_) #[true, false, true, true, false, false, false, false, false, false, false] rfl rfl (any_of HT_.out (by kernel_rfl)) (fun _ _ _ h => h) (Or.inl ⟨by rfl, ?_⟩) ?_ ?_
      rotate_left
      · intro w'
        go_simp
        with_reducible rfl
      rotate_left
      · simp only [Act.put, List.setIfInBounds_toArray, List.set_cons_zero, List.set_cons_succ, i64_w, i32_w]
        rfl
      refine pure_ (i := 5) (N := some 23) (v := ?_) (a' := ?_) #[true, false, true, true, false, true, false, false, false, false, false] rfl rfl (any_of HT_.out (by kernel_rfl)) (fun _ _ _ h => h) (Or.inl ⟨by rfl, ?_⟩) ?_ ?_
      rotate_left
      · intro w'
        go_simp
        with_reducible rfl
      rotate_left
      · simp only [Act.put, List.setIfInBounds_toArray, List.set_cons_zero, List.set_cons_succ, i64_w, i32_w]
        rfl
      refine take_ (i := 1) (N := some 19) (v := ?_) (a' := ?_) #[true, true, true, true, false, true, false, false, false, false, false] rfl rfl (take_ofW HT_.out HW_.out (by kernel_rfl)) (fun _ _ _ h => h) (Or.inl ⟨by rfl, ?_⟩) hHeld ?_ ?_
      rotate_left
      · rintro w' ⟨s3, t0, t1, t2, t3⟩
        go_simp
        with_reducible rfl
      rotate_left
      · simp only [Act.put, List.setIfInBounds_toArray, List.set_cons_zero, List.set_cons_succ, i64_w, i32_w]
        rfl
      refine take_ (i := 4) (N := some 22) (v := ?_) (a' := ?_) #[true, true, true, true, true, true, false, false, false, false, false] rfl rfl (take_ofW HT_.out HW_.out (by kernel_rfl)) (fun _ _ _ h => h) (Or.inl ⟨by rfl, ?_⟩) hHeld ?_ ?_
      rotate_left
      · rintro w' ⟨s3, t0, t1, t2, t3⟩
        go_simp
        with_reducible rfl
      rotate_left
      · simp only [Act.put, List.setIfInBounds_toArray, List.set_cons_zero, List.set_cons_succ, i64_w, i32_w]
        rfl
      refine pure_ (i := 6) (N := some 24) (v := ?_) (a' := ?_) #[true, true, true, true, true, true, true, false, false, false, false] rfl rfl (any_of HT_.out (by kernel_rfl)) (fun _ _ _ h => h) (Or.inl ⟨by rfl, ?_⟩) ?_ ?_
      rotate_left
      · intro w'
        go_simp
        with_reducible rfl
      rotate_left
      · simp only [Act.put, List.setIfInBounds_toArray, List.set_cons_zero, List.set_cons_succ, i64_w, i32_w]
        rfl
      refine take_ (i := 7) (N := some 25) (v := ?_) (a' := ?_) #[true, true, true, true, true, true, true, true, false, false, false] rfl rfl (take_ofW HT_.out HW_.out (by kernel_rfl)) (fun _ _ _ h => h) (Or.inl ⟨by rfl, ?_⟩) hHeld ?_ ?_
      rotate_left
      · rintro w' ⟨s3, t0, t1, t2, t3⟩
        go_simp
        with_reducible rfl
      rotate_left
      · simp only [Act.put, List.setIfInBounds_toArray, List.set_cons_zero, List.set_cons_succ, i64_w, i32_w]
        rfl
      refine one_ (i := 8) (N := some 26) #[true, true, true, true, true, true, true, true, true, false, false] rfl rfl (one_of HT_.out (by kernel_rfl)) (by decide) (fun K hK => ?_)
      refine goes_ Tryd.func37 (by kernel_rfl) rfl #[.agg #[.int .i64 (nth o.f4 i).f0, .string (nth o.f4 i).f1, .int .i64 (nth o.f4 i).f2, .slice A3 (nth o.f4 i).f3.length c3]] (by rfl) rfl rfl (by (try simp only [List.map_toArray, List.map_cons, List.map_nil]); first | done | rfl | (simp only [List.length_drop, List.length_take]; rfl)) ?_
      have hcg := cntL_get (l := o.f4) (j := i) (x := nth o.f4 i) (nth_some hlt)
      with_reducible refine (edit_clone.fresh 1000000 (nth o.f4 i) A3 c3 w2 (by omega) (by omega) hl3 ?hC).mono ?_
      (case hC => exact Kd.C_below (Kd.F_now HF3.out) (by rw [← hw2]; exact below_drew (Below.refl _ _)))
      rintro e w3 ⟨v, rfl, hv, hb⟩
      refine ⟨_, rfl, ?_⟩
      obtain ⟨rfl⟩ := Had
      have hcells : ∃ cells, w3.heap[g]? = some (.cells cells 24 (0, 0)) := by
        obtain ⟨cells, hcs⟩ := Kd.N_typed HR2.out.2.2.2.2 g (by simp [Value.ownBlock])
        exact ⟨cells, (hb.block _ (blk_lt hcs)).trans hcs⟩
      obtain ⟨cells, hcells⟩ := hcells
      have z0 : w3.frozen? ⟨g, i * 4, none⟩ = false := blk_frozen hcells _
      have z1 : w3.frozen? ⟨g, i * 4 + 1, none⟩ = false := blk_frozen hcells _
      have z2 : w3.frozen? ⟨g, i * 4 + 2, none⟩ = false := blk_frozen hcells _
      have z3 : w3.frozen? ⟨g, i * 4 + 3, none⟩ = false := blk_frozen hcells _
      have HH := hHeld
      simp only [add_plain] at HH
      obtain ⟨b3, e0, e1, e2, e3⟩ := HH
      have hc := fun {a : Addr} {u : Value} (h : w2.cell? a = some u) => (hb.cell (World.block_lt_of_cell? _ _ h)).trans h
      replace b3 := hc b3
      replace e0 := hc e0
      replace e1 := hc e1
      replace e2 := hc e2
      replace e3 := hc e3
      have h5 := hc hHeld.2.1
      have h6 := hc hHeld.2.2.1
      have h7 := hc hHeld.2.2.2.1
      have h8 := hc hHeld.2.2.2.2
      clear hc
      have HN : Aside0 (CpRel w o P (.slice AV o.f1.length cV) (some ⟨g, 0, none⟩) c1 (w3.setCells g (i * 4) [.int .i64 (nth o.f4 i).f0, .string (nth o.f4 i).f1, .int .i64 (nth o.f4 i).f2, v])) := ⟨CpRel_step HR2.out hlt hb (Kd.S_R hv)⟩
      obtain ⟨A4, c4, rfl⟩ := Kd.R_slice (Kd.S_R hv)
      refine hK.out _ _ ⟨b3, h5, h6, h7, h8⟩ (fun hHeld => ?_)
      clear hK K hv hb hcells HR2 HF3 hw2
      refine norm_ (a' := ?_) ?_ ?_
      rotate_left
      · show Act.put _ (some 26) _ = _
        simp only [Act.put, List.setIfInBounds_toArray, List.set_cons_zero, List.set_cons_succ, i64_w, i32_w]
        rfl
      refine pure_ (i := 9) (N := some 27) (v := ?_) (a' := ?_) #[true, true, true, true, true, true, true, true, true, true, false] rfl rfl (any_of HT_.out (by kernel_rfl)) (fun _ _ _ h => h) (Or.inl ⟨by rfl, ?_⟩) ?_ ?_
      rotate_left
      · intro w'
        go_simp
        with_reducible rfl
      rotate_left
      · simp only [Act.put, List.setIfInBounds_toArray, List.set_cons_zero, List.set_cons_succ, i64_w, i32_w]
        rfl
      refine last_ (i := 10) (N := none) #[true, true, true, true, true, true, true, true, true, true, true] rfl rfl (one_of HT_.out (by kernel_rfl)) (by decide) (fun K hK => ?_)
      refine skip_ (w1 := ?_) (by rfl) rfl ?_ ?_
      rotate_left
      · go_simp
        rfl
      refine hK.out _ _ ?_
      clear hK K
      refine done_ (done_of HT_.out (by kernel_rfl)) ?_
      try go_wp2
      have hkp : ∃ k', gk = k' + 1 := ⟨gk - 1, by have := HK.out; omega⟩
      obtain ⟨k', rfl⟩ := hkp
      go_roundg k'
      case measure => omega
      case rel => exact ⟨i + 1, by go_num, ⟨by have := HK.out; omega⟩, HN⟩
    · have hil : i = o.f4.length := by have := HK.out; omega
      obtain ⟨hB, hb, hr, hRR, hN⟩ := HR.out
      have HHb := Aside0.mk hb
      have HHr := Aside0.mk hr
      have HHB := Aside0.mk hB
      have HHR := Aside0.mk hRR
      have HHN := Aside0.mk hN
      clear hB hb hr hRR hN HR hil
      have b0 := blk_cell HHb.out 0
      have b1 := blk_cell HHb.out 1
      have b2 := blk_cell HHb.out 2
      have b3 := blk_cell HHb.out 3
      have b4 := blk_cell HHb.out 4
      have b5 := blk_cell HHb.out 5
      have b6 := blk_cell HHb.out 6
      have b7 := blk_cell HHb.out 7
      have r0 := blk_cell HHr.out 0
      have r1 := blk_cell HHr.out 1
      have r2 := blk_cell HHr.out 2
      have r3 := blk_cell HHr.out 3
      have r4 := blk_cell HHr.out 4
      have r5 := blk_cell HHr.out 5
      have r6 := blk_cell HHr.out 6
      have r7 := blk_cell HHr.out 7
      have z0 := blk_frozen HHr.out 0
      have z1 := blk_frozen HHr.out 1
      have z2 := blk_frozen HHr.out 2
      have z3 := blk_frozen HHr.out 3
      have z4 := blk_frozen HHr.out 4
      have z5 := blk_frozen HHr.out 5
      have z6 := blk_frozen HHr.out 6
      have z7 := blk_frozen HHr.out 7
      go_wp2
      refine bodyPost_ret (results_cell_row rfl _ _ (w.heap.size + 1) 27 #[.int .i64 o.f0, .slice AV o.f1.length cV, .int .i64 o.f2, .int .i64 o.f3, .slice A1 o.f4.length c1, .int .i64 o.f5, .string o.f6, .string o.f7] (0, 0) _ rfl (blk_put8 HHr.out) Tryd.underlying27 rfl (by kernel_rfl)) rfl ?_
      exact ⟨_, _, rfl, Kd.R_mono (Kd.R_step HHR.out (fun k hk _ => heap_set8 (by omega))) (fun k hk => by omega), Kd.N_mono (Kd.N_step HHN.out (fun k hk _ => heap_set8 (by rcases hk.1 with h | h <;> omega))) (fun k hk => ⟨by rcases hk.1 with h | h; exact .inl h.1; exact .inr (by omega), hk.2⟩), below_set8 HHB.out (by omega)⟩
def edit_copied.f (a0_0 : Int) (l0_1 : List Int) (a0_2 : Int) (a0_3 : Int) (l0_4 : List S24) (a0_5 : Int) (a0_6 : ByteArray) (a0_7 : ByteArray) : Option (Int × List Int × Int × Int × (List S24) × Int × ByteArray × ByteArray) := if cntL l0_4 < 1000000 ∧ l0_1.length * 8 ≤ 140737488355328 then some (a0_0, l0_1, a0_2, a0_3, l0_4, a0_5, a0_6, a0_7) else none
theorem edit_copied.calls (a0_0 : Int) (A0_1 : Option Addr) (c0_1 : Nat) (l0_1 : List Int) (a0_2 : Int) (a0_3 : Int) (P0_4_ : Nat → Prop) (A0_4 : Option Addr) (c0_4 : Nat) (l0_4 : List S24) (a0_5 : Int) (a0_6 : ByteArray) (a0_7 : ByteArray) (r1 : Int) (r2 : List Int) (r3 : Int) (r4 : Int) (r5 : List S24) (r6 : Int) (r7 : ByteArray) (r8 : ByteArray) (w : World) (hr0_1 : Kd.C (Kd.int .i64) w A0_1 l0_1.length l0_1) (hc0_1 : l0_1.length ≤ c0_1) (hs0_4 : Kd.V k24 24 w w.heap.size (fun k_ => P0_4_ k_) (.slice A0_4 l0_4.length c0_4) l0_4) (h : edit_copied.f a0_0 l0_1 a0_2 a0_3 l0_4 a0_5 a0_6 a0_7 = some (r1, r2, r3, r4, r5, r6, r7, r8)) :
    Calls Tryd.prog 32 #[.agg #[.int .i64 a0_0, .slice A0_1 l0_1.length c0_1, .int .i64 a0_2, .int .i64 a0_3, .slice A0_4 l0_4.length c0_4, .int .i64 a0_5, .string a0_6, .string a0_7]] w fun e w' => ∃ v1_ v4_ : Value, e = .returned (.agg #[.int .i64 r1, v1_, .int .i64 r3, .int .i64 r4, v4_, .int .i64 r6, .string r7, .string r8]) ∧ Kd.R (Kd.int .i64) 3 w' w.heap.size (fun k_ => (w.heap.size ≤ k_)) v1_ r2 ∧ Kd.N k24 24 w' w.heap.size (fun k_ => (P0_4_ k_ ∨ w.heap.size ≤ k_) ∧ some k_ ≠ (v1_ : Value).ownBlock) v4_ r5 ∧ Below w.heap.size w w' := by
  unfold edit_copied.f at h
  split at h
  · rename_i hh
    simp only [Option.some.injEq, Prod.mk.injEq] at h
    obtain ⟨rfl, rfl, rfl, rfl, rfl, rfl, rfl, rfl⟩ := h
    exact copied_any ⟨a0_0, l0_1, a0_2, a0_3, l0_4, a0_5, a0_6, a0_7⟩ A0_1 A0_4 c0_1 c0_4 P0_4_ w hh.1 hh.2 hr0_1 (Kd.V_F hs0_4)
  · cases h
end Go.Proofs.YtgcpfelccfnnbaaDoor.X
namespace Go.Proofs.YtgcpfelccfnnbaaDoor.X
open Go.RowKit Go.Proofs.YtgcpfelccfnnbaaDoorW.PrintWords Go.Proofs.YtgcpfelccfnnbaaDoorW.PrintLast Go.Proofs.YtgcpfelccfnnbaaDoorW.PrintMore
attribute [local go_sem] max2_int min2_int max_two min_two max_three min_three max_four min_four   -- for this text's walks alone
set_option linter.unusedVariables false
set_option linter.unusedSimpArgs false
set_option maxRecDepth 100000 in
set_option maxHeartbeats 1000000 in
theorem grow_any (n : Nat) (w : World) (hn : n * 56 ≤ 140737488355328) :
    Calls Tryd.prog 55 #[.slice none 0 0, .int .i64 n] w fun e w' => ∃ (A' : Option Addr) (c' : Nat), e = .returned (.slice A' 0 c') ∧ Kd.N k24 24 w' w.heap.size (fun k => w.heap.size ≤ k) (.slice A' 0 c') [] ∧ Below w.heap.size w w' := by
  have hu := Tryd.underlying22
  have hzero : ∀ W : World, Kd.FK k24 W (fun _ => False) z24 [.int .i64 0, .string ⟨#[]⟩, .int .i64 0, .slice none 0 0] := fun W => k24_mkF W (fun _ => False) z24 (A3 := none) (c3 := 0) (Nat.le_refl _) (Kd.F_nil _ _ _)
  by_cases h0 : n = 0
  · subst h0
    go_enter Tryd.func55, Tryd.ntmps55
    go_wp2_with fail
    go_ret
    exact ⟨none, 0, rfl, Kd.N_nil _ _ _ _ _, Below.refl _ _⟩
  · have hp : 0 < n := by omega
    go_enter Tryd.func55, Tryd.ntmps55
    go_wp2_with (at_builtin; go_loud (refine Kd.N_append_zeros k24 (w0 := w) w.heap.size rfl (.tmp 20) (.tmp 21) 22 3 24 _ 56 rfl Tryd.underlying22 Tryd.underlying3 infoN rfl (show 0 < 4 from by decide) (by omega) (.slice none 0 0) [] z24 n (fun k => w.heap.size ≤ k) rfl rfl ?aZ (fun k hk => hk) (Kd.N_nil _ _ _ _ _) (by omega) (Below.refl _ _) (Nat.le_refl _) ?aL ?_; (case aZ => exact hzero _); (case aL => simpa using hn); intro v1 w1 HN HB HG HA; obtain ⟨A1, c1, rfl⟩ := Kd.N_slice HN; have hNl := (Kd.N_reads' HN).2.1; simp only [List.nil_append, List.length_replicate, Int.toNat_natCast] at HN hNl; have HT := Aside0.mk (Kd.N_take (m := 0) HN (Nat.zero_le _)); clear HN; have HB' := Aside0.mk HB; clear HB))
    go_ret
    exact ⟨A1, c1, rfl, HT.out, HB'.out⟩
end Go.Proofs.YtgcpfelccfnnbaaDoor.X
namespace Go.Proofs.YtgcpfelccfnnbaaDoor.X
open Go.RowKit Go.Proofs.YtgcpfelccfnnbaaDoorW.PrintWords Go.Proofs.YtgcpfelccfnnbaaDoorW.PrintLast Go.Proofs.YtgcpfelccfnnbaaDoorW.PrintMore
attribute [local go_sem] max2_int min2_int max_two min_two max_three min_three max_four min_four   -- for this text's walks alone
set_option linter.unusedVariables false
set_option linter.unusedSimpArgs false
theorem flat_succ {α : Type} (ls : List (List α)) (i : Nat) (hi : i < ls.length) : (ls.take (i + 1)).flatten = (ls.take i).flatten ++ ls.getD i [] := by
  rw [List.take_succ_eq_append_getElem hi, List.flatten_append, List.flatten_singleton, List.getD_eq_getElem?_getD, List.getElem?_eq_getElem hi]
  rfl
theorem flat_le {α : Type} (ls : List (List α)) (i : Nat) : (ls.take i).flatten.length ≤ ls.flatten.length := by
  have h : ls.flatten = (ls.take i).flatten ++ (ls.drop i).flatten := by rw [← List.flatten_append, List.take_append_drop]
  rw [h, List.length_append]; omega
def rowL (ls : List (List S24)) (i : Nat) : List S24 := ls.getD i []
def flN (ls : List (List S24)) (i : Nat) : Nat := (ls.take i).flatten.length
def flL (ls : List (List S24)) (i : Nat) : List S24 := (ls.take i).flatten
theorem flL_succ (ls : List (List S24)) (i : Nat) (hi : i < ls.length) : flL ls (i + 1) = flL ls i ++ rowL ls i := by unfold flL rowL; exact flat_succ ls i hi
theorem flN_succ (ls : List (List S24)) (i : Nat) (hi : i < ls.length) : flN ls (i + 1) = flN ls i + (rowL ls i).length := by unfold flN rowL; rw [flat_succ ls i hi, List.length_append]
theorem elemL {wr : World} {ls : List (List S24)} {A : Option Addr} {P : Nat → Prop} {i : Nat} (h : Kd.F (Kd.slice 24 k24) wr P A ls.length ls) (hi : i < ls.length) :
    ∃ ad A3 c3, A = some ad ∧ (rowL ls i).length ≤ c3 ∧ Aside0 (Kd.F k24 wr P A3 (rowL ls i).length (rowL ls i)) ∧ wr.cell? (ad.add i) = some (.slice A3 (rowL ls i).length c3) := by
  obtain ⟨ad, cs, rfl, hcl, hK, hcc, _⟩ := Kd.F_get h [] (i : Int) (by omega) (by omega)
  simp only [Int.toNat_natCast] at hK hcc
  rw [show ls.getD i [] = rowL ls i from rfl] at hK
  obtain ⟨A3, c3, rfl, hl3, hF3⟩ := Kd.FK_slice_open hK
  have h0 := hcc 0 _ rfl
  have hz : i * (Kd.slice 24 k24).sz + 0 = i := Nat.mul_one i
  rw [hz] at h0
  exact ⟨ad, A3, c3, rfl, hl3, ⟨hF3⟩, h0⟩
set_option maxRecDepth 100000 in
set_option maxHeartbeats 2000000 in
theorem concat_any (ls : List (List S24)) (A : Option Addr) (c : Nat) (P : Nat → Prop) (w : World) (hF : Kd.F (Kd.slice 24 k24) w P A ls.length ls) (hsum : ls.flatten.length * 56 ≤ 140737488355328) :
    Calls Tryd.prog 33 #[.slice A ls.length c] w fun e w' => ∃ v : Value, e = .returned v ∧ Kd.N k24 24 w' w.heap.size (fun k => P k ∨ w.heap.size ≤ k) v ls.flatten ∧ Below w.heap.size w w' := by
  have hu := Tryd.underlying22
  have HF := Aside0.mk (Kd.F_bound hF)
  have hlm := Kd.F_max hF
  clear hF
  go_enter Tryd.func33, Tryd.ntmps33
  go_wp2_with fail
  go_loopg [3, 11] ls.length (fun kq v3 v11 wr => ∃ i : Nat, v3 = .int .i64 (flN ls i) ∧ v11 = .int .i64 i ∧ Aside0 (i + kq = ls.length) ∧ Aside0 (wr = w))
  case atStart => exact ⟨0, rfl, rfl, ⟨by omega⟩, ⟨rfl⟩⟩
  case round =>
    obtain ⟨i, rfl, rfl, HK, HW⟩ := hrel
    have hW := HW.out.symm
    subst hW
    clear HW
    by_cases hlt : i < ls.length
    · obtain ⟨ad, A3, c3, rfl, HC3, HF3, e0⟩ := elemL HF.out hlt
      have hs1 := flN_succ ls i hlt
      have hs2 : flN ls (i + 1) ≤ ls.flatten.length := flat_le ls (i + 1)
      have hs3 : flN ls i + (rowL ls i).length ≤ 2513169434916 := by omega
      have HS1 := Aside0.mk hs1
      clear hs1 hs2
      go_wp2
      have hkp : ∃ k', gk = k' + 1 := ⟨gk - 1, by have := HK.out; omega⟩
      obtain ⟨k', rfl⟩ := hkp
      go_roundg k'
      case measure => omega
      case rel => exact ⟨i + 1, by rw [HS1.out]; go_num, by go_num, ⟨by have := HK.out; omega⟩, ⟨rfl⟩⟩
    · have hil : i = ls.length := by have := HK.out; omega
      have hfl : flN ls i = ls.flatten.length := by unfold flN; rw [hil, List.take_length]
      rw [hfl]
      have hsz : ls.flatten.length ≤ 2513169434916 := by omega
      generalize hNN : ls.flatten.length = NN at hsum hsz ⊢
      have HNN := Aside0.mk hNN
      clear hNN
      go_wp2_with (go_at_call 55; go_loud (refine (grow_any NN w hsum).mono ?_; rintro e w1 ⟨A6, c6, rfl, hN, hB⟩; have HN := Aside0.mk hN; have HB := Aside0.mk hB; clear hN hB))
      clear hfl hil hlt
      go_loopg [6, 27] ls.length (fun kq v6 v27 wr => ∃ i : Nat, v27 = .int .i64 i ∧ Aside0 (i + kq = ls.length) ∧ Aside0 (Kd.N k24 24 wr w.heap.size (fun k => (P k ∧ k < w.heap.size) ∨ w.heap.size ≤ k) v6 (flL ls i)) ∧ Aside0 (Below w.heap.size w wr))
      case atStart => exact ⟨0, rfl, ⟨by omega⟩, ⟨Kd.N_mono HN.out (fun k hk => .inr hk)⟩, HB⟩
      case round =>
        clear HN HB HK
        obtain ⟨j, rfl, HK, HN, HB⟩ := hrel
        obtain ⟨A7, c7, rfl⟩ := Kd.N_slice HN.out
        by_cases hlt : j < ls.length
        · obtain ⟨ad, A3, c3, rfl, HC3, HF3, e0⟩ := elemL (Kd.F_step HF.out (fun k hk _ => HB.out.block k hk.2)) hlt
          have hs1 := flL_succ ls j hlt
          have hs2 : (flL ls (j + 1)).length ≤ NN := by rw [← HNN.out]; exact flat_le ls (j + 1)
          have hs3 : (flL ls j).length + (rowL ls j).length ≤ 2513169434916 := by rw [hs1, List.length_append] at hs2; omega
          have HS1 := Aside0.mk hs1
          clear hs1 hs2
          go_wp2_with (at_builtin; go_loud (refine Kd.N_append_rows k24 (w0 := w) w.heap.size rfl (.tmp 31) (.tmp 32) 22 24 _ 56 rfl Tryd.underlying22 infoN rfl (show 0 < 4 from by decide) (by omega) (.slice A7 (flL ls j).length c7) (flL ls j) (rowL ls j) A3 (rowL ls j).length c3 (fun k => (P k ∧ k < w.heap.size) ∨ w.heap.size ≤ k) (fun k => P k ∧ k < w.heap.size) rfl rfl HN.out HF3.out ?aO (fun k hk => .inr (Nat.le_trans HB.out.size hk)) HB.out HB.out.size (by omega) ?_; (case aO => exact fun k hk => ⟨.inl hk, fun he => by have h9 := Kd.N_base HN.out k he.symm; have := hk.2; omega⟩); intro v1 w1 HN1 HB1 HG HA; have HN1 := Aside0.mk HN1; have HB1 := Aside0.mk HB1; clear HG HA))
          have hkp : ∃ k', gk = k' + 1 := ⟨gk - 1, by have := HK.out; omega⟩
          obtain ⟨k', rfl⟩ := hkp
          go_roundg k'
          case measure => omega
          case rel => exact ⟨j + 1, by go_num, ⟨by have := HK.out; omega⟩, ⟨by rw [HS1.out]; exact HN1.out⟩, HB1⟩
        · have hil : j = ls.length := by have := HK.out; omega
          have HE : Aside0 (flL ls j = ls.flatten) := ⟨by unfold flL; rw [hil, List.take_length]⟩
          clear hil
          go_wp2
          go_ret
          exact ⟨_, rfl, by rw [← HE.out]; exact Kd.N_mono HN.out (fun k hk => by rcases hk with hk | hk; exact .inl hk.1; exact .inr hk), HB.out⟩
end Go.Proofs.YtgcpfelccfnnbaaDoor.X
namespace Go.Proofs.YtgcpfelccfnnbaaDoor.X
open Go.RowKit Go.Proofs.YtgcpfelccfnnbaaDoorW.PrintWords Go.Proofs.YtgcpfelccfnnbaaDoorW.PrintLast Go.Proofs.YtgcpfelccfnnbaaDoorW.PrintMore
attribute [local go_sem] max2_int min2_int max_two min_two max_three min_three max_four min_four   -- for this text's walks alone
set_option linter.unusedVariables false
set_option linter.unusedSimpArgs false
def node_clone.T5 : Bool × List (List Nat × List Nat) := (true, [([], []), ([0], [0]), ([], []), ([], []), ([3], [3]), ([], []), ([4, 5], [4, 5]), ([6], [6]), ([7], [7]), ([1, 2, 0, 1, 2, 3, 4, 5, 6, 7, 8], [1, 2]), ([9, 8, 8, 0, 1, 2, 3, 4, 5, 6, 7, 8], [8, 9])])
def node_clone.B5 : List Nat := [0, 1, 0, 0, 8, 0, 56, 120, 248, 511, 1023]
theorem node_clone.tab5 : rtab .any (opsOf Tryd.f47 5) = node_clone.T5 := by kernel_rfl
theorem node_clone.bits5 : waitsOk node_clone.T5.2 node_clone.B5 = true := by kernel_rfl
set_option maxRecDepth 100000 in
set_option maxHeartbeats 2000000 in
theorem node_clone.fresh (m : Nat) : ∀ (x : S24) (A : Option Addr) (c : Nat) (w : World), cnt x ≤ m → cnt x ≤ 1000000 → x.f3.length ≤ c → Kd.C k24 w A x.f3.length x.f3 →
    Calls Tryd.prog 47 #[.agg #[.int .i64 x.f0, .string x.f1, .int .i64 x.f2, .slice A x.f3.length c]] w fun e w' => ∃ v : Value, e = .returned (.agg #[.int .i64 x.f0, .string x.f1, .int .i64 x.f2, v]) ∧ Kd.S k24 24 w' w.heap.size (fun k => w.heap.size ≤ k) v x.f3 ∧ Below w.heap.size w w' := by
  induction m with
  | zero => intro x A c w h; have := cnt_pos x; omega
  | succ m ih =>
  intro x A c w hm hM hc hC
  have hlen : x.f3.length * 56 ≤ 140737488355328 := by
    have := cntL_len x.f3; rw [cnt_eq] at hM; omega
  have hcnt := cnt_eq x
  obtain ⟨f0, f1, f2, l⟩ := x
  simp only at hc hC hlen hcnt ⊢
  have hsub : ∀ i, i < l.length → cnt (nth l i) ≤ m ∧ cnt (nth l i) ≤ 1000000 := fun i hi => by
    have := cntL_get (l := l) (j := i) (x := nth l i) (nth_some hi)
    omega
  have HS := Aside0.mk hsub
  clear hsub
  have HC := Aside0.mk hcnt
  clear hcnt
  have hlen2 : l.length ≤ 2513169434917 := by omega
  go_enter Tryd.func47, Tryd.ntmps47
  go_wp2_with (go_at_call 54; (with_reducible refine (api_Node_54.fresh (fun k => k < w.heap.size) A c l _ ?hF hlen).mono ?_); (case hF => exact Kd.F_below (Kd.C_F k24_heap hC) (below_alloc (below_alloc (Below.refl _ _) _) _)); rintro e w1 ⟨v, rfl, hR, hB⟩; obtain ⟨A1, c1, rfl⟩ := Kd.R_slice hR; have hBk : w1.heap[w.heap.size]? = some (.cells #[.int .i64 f0, .string f1, .int .i64 f2, .slice A l.length c] 24 (0, 0)) := (hB.block _ (by simp; omega)).trans (alloc2_fst _ _ _); have hRk : w1.heap[w.heap.size + 1]? = some (.cells #[.int .i64 0, .string ⟨#[]⟩, .int .i64 0, .slice none 0 0] 24 (0, 0)) := (hB.block _ (by simp)).trans (alloc2_snd _ _ _); have c3 := blk_cell hBk 3; have z3 := blk_frozen hBk 3)
  go_loopg [11] l.length (fun kq v11 w' => ∃ i : Nat, v11 = .int .i64 i ∧ Aside0 (i + kq = l.length) ∧ Aside0 (CRel w l f0 f1 f2 A1 c1 i w'))
  case atStart =>
    refine ⟨0, rfl, ⟨by omega⟩, ⟨?_⟩⟩
    have hsz := hB.size
    rw [size_alloc2] at hsz
    have hR2 := held_back hR (below_alloc (below_alloc (Below.refl _ _) _) _) (fun k hk => hk)
    rw [size_alloc2] at hR2
    refine CRel_start (o1 := .cells #[] 0) (by simpa using hsz) (Kd.R_far (p := ⟨w.heap.size, 3, none⟩) hR2 (fun k hk => by show k ≠ w.heap.size; omega) _) ?_ ?_ ?_
    · exact Below.setCell ((below_alloc (below_alloc (Below.refl _ _) _) _).trans ⟨hB.os, hB.tape, hB.output, hB.size, fun k hk => hB.block k (by rw [size_alloc2]; omega)⟩) (Nat.le_refl _) _
    · exact blk_put hBk 3 _ rfl
    · exact blk_far hRk (by show w.heap.size + 1 ≠ w.heap.size; omega) _
  case round =>
    clear hR hB hBk hRk c3 z3
    obtain ⟨i, rfl, HK, HR⟩ := hrel
    by_cases hlt : i < l.length
    · obtain ⟨ad, g, A3, c3, rfl, Had, Hge, Hcells, hl3, HC3, e0, e1, e2, e3⟩ := CRel_elemA HR.out hlt
      have b3 : wr.cell? ⟨w.heap.size, 3, none⟩ = some (.slice (some ad) l.length c1) := blk_cell HR.out.2.1 3
      go_wp2
      refine start_ (n := 11) (S := fun w' => w'.cell? ⟨w.heap.size, 3, none⟩ = some (.slice (some ad) l.length c1) ∧ w'.cell? (ad.add (i * 4)) = some (.int .i64 (nth l i).f0) ∧ w'.cell? ⟨(ad.add (i * 4)).block, (ad.add (i * 4)).off + 1, none⟩ = some (.string (nth l i).f1) ∧ w'.cell? ⟨(ad.add (i * 4)).block, (ad.add (i * 4)).off + 2, none⟩ = some (.int .i64 (nth l i).f2) ∧ w'.cell? ⟨(ad.add (i * 4)).block, (ad.add (i * 4)).off + 3, none⟩ = some (.slice A3 (nth l i).f3.length c3)) (ds := [10]) #[false, false, false, false, false, false, false, false, false, false, false] (by kernel_rfl) rfl rfl ⟨b3, e0, e1, e2, e3⟩ (fun hHeld => ?_); refine with_tabW node_clone.tab5 node_clone.bits5 (fun HT_ HW_ => ?_)
      have HR2 : Aside0 (CRel w l f0 f1 f2 (some ad) c1 i wr.drew) := ⟨CRel_drew HR.out⟩
      clear HR b3 e0 e1 e2 e3 Hcells
      generalize wr.drew = w2 at HR2 hHeld ⊢
      refine pure_ (i := 0) (N := some 14) (v := ?_) (a' := ?_) #[true, false, false, false, false, false, false, false, false, false, false] rfl rfl (any_of HT_.out (by kernel_rfl)) (fun _ _ _ h => h) (Or.inl ⟨by rfl, ?_⟩) ?_ ?_
      rotate_left
      · intro w'
        go_simp
        with_reducible rfl
      rotate_left
      · simp only [Act.put, List.setIfInBounds_toArray, List.set_cons_zero, List.set_cons_succ, i64_w, i32_w]
        rfl
      refine pure_ (i := 2) (N := some 16) (v := ?_) (a' := ?_) #[true, false, true, false, false, false, false, false, false, false, false] rfl rfl (any_of HT_.out (by kernel_rfl)) (fun _ _ _ h => h) (Or.inl ⟨by rfl, ?_⟩) ?_ ?_
      rotate_left
      · intro w'
        go_simp
        with_reducible rfl
      rotate_left
      · simp only [Act.put, List.setIfInBounds_toArray, List.set_cons_zero, List.set_cons_succ, i64_w, i32_w]
        rfl
      refine pure_ (i := 3) (N := some 17) (v := ?_) (a' := ?_) #[true, false, true, true, false, false, false, false, false, false, false] rfl rfl (any_of HT_.out (by kernel_rfl)) (fun _ _ _ h => h) (Or.inl ⟨by rfl, ?_⟩) ?_ ?_
      rotate_left
      · intro w'
        go_simp
        with_reducible rfl
      rotate_left
      · simp only [Act.put, List.setIfInBounds_toArray, List.set_cons_zero, List.set_cons_succ, i64_w, i32_w]
        rfl
      refine pure_ (i := 5) (N := some 19) (v := ?_) (a' := ?_) #[true, false, true, true, false, true, false, false, false, false, false] rfl rfl (any_of HT_.out (by kernel_rfl)) (fun _ _ _ h => h) (Or.inl ⟨by rfl, ?_⟩) ?_ ?_
      rotate_left
      · intro w'
        go_simp
        with_reducible rfl
      rotate_left
      · simp only [Act.put, List.setIfInBounds_toArray, List.set_cons_zero, List.set_cons_succ, i64_w, i32_w]
        rfl
      refine take_ (i := 1) (N := some 15) (v := ?_) (a' := ?_) #[true, true, true, true, false, true, false, false, false, false, false] rfl rfl (take_ofW HT_.out HW_.out (by kernel_rfl)) (fun _ _ _ h => h) (Or.inl ⟨by rfl, ?_⟩) hHeld ?_ ?_
      rotate_left
      · rintro w' ⟨s3, t0, t1, t2, t3⟩
        go_simp
        with_reducible rfl
      rotate_left
      · simp only [Act.put, List.setIfInBounds_toArray, List.set_cons_zero, List.set_cons_succ, i64_w, i32_w]
        rfl
      refine take_ (i := 4) (N := some 18) (v := ?_) (a' := ?_) #[true, true, true, true, true, true, false, false, false, false, false] rfl rfl (take_ofW HT_.out HW_.out (by kernel_rfl)) (fun _ _ _ h => h) (Or.inl ⟨by rfl, ?_⟩) hHeld ?_ ?_
      rotate_left
      · rintro w' ⟨s3, t0, t1, t2, t3⟩
        go_simp
        with_reducible rfl
      rotate_left
      · simp only [Act.put, List.setIfInBounds_toArray, List.set_cons_zero, List.set_cons_succ, i64_w, i32_w]
        rfl
      refine pure_ (i := 6) (N := some 20) (v := ?_) (a' := ?_) #[true, true, true, true, true, true, true, false, false, false, false] rfl rfl (any_of HT_.out (by kernel_rfl)) (fun _ _ _ h => h) (Or.inl ⟨by rfl, ?_⟩) ?_ ?_
      rotate_left
      · intro w'
        go_simp
        with_reducible rfl
      rotate_left
      · simp only [Act.put, List.setIfInBounds_toArray, List.set_cons_zero, List.set_cons_succ, i64_w, i32_w]
        rfl
      refine take_ (i := 7) (N := some 21) (v := ?_) (a' := ?_) #[true, true, true, true, true, true, true, true, false, false, false] rfl rfl (take_ofW HT_.out HW_.out (by kernel_rfl)) (fun _ _ _ h => h) (Or.inl ⟨by rfl, ?_⟩) hHeld ?_ ?_
      rotate_left
      · rintro w' ⟨s3, t0, t1, t2, t3⟩
        go_simp
        with_reducible rfl
      rotate_left
      · simp only [Act.put, List.setIfInBounds_toArray, List.set_cons_zero, List.set_cons_succ, i64_w, i32_w]
        rfl
      refine one_ (i := 8) (N := some 22) #[true, true, true, true, true, true, true, true, true, false, false] rfl rfl (one_of HT_.out (by kernel_rfl)) (by decide) (fun K hK => ?_)
      refine goes_ Tryd.func47 (by kernel_rfl) rfl #[.agg #[.int .i64 (nth l i).f0, .string (nth l i).f1, .int .i64 (nth l i).f2, .slice A3 (nth l i).f3.length c3]] (by rfl) rfl rfl (by (try simp only [List.map_toArray, List.map_cons, List.map_nil]); first | done | rfl | (simp only [List.length_drop, List.length_take]; rfl)) ?_
      with_reducible refine (ih (nth l i) A3 c3 w2 (HS.out i hlt).1 (HS.out i hlt).2 hl3 ?hC).mono ?_
      (case hC => exact Kd.C_below HC3.out HR2.out.1)
      rintro e w3 ⟨v, rfl, hv, hb⟩
      refine ⟨_, rfl, ?_⟩
      obtain ⟨rfl⟩ := Had
      have hcells : ∃ cells, w3.heap[g]? = some (.cells cells 24 (0, 0)) := by
        obtain ⟨g', A3', c3', hA, _, hcs, _⟩ := CRel_elem HR2.out hlt
        injection hA with hA
        injection hA with hA
        subst hA
        obtain ⟨cells, hcs⟩ := hcs
        exact ⟨cells, (hb.block _ (blk_lt hcs)).trans hcs⟩
      obtain ⟨cells, hcells⟩ := hcells
      have z0 : w3.frozen? ⟨g, i * 4, none⟩ = false := blk_frozen hcells _
      have z1 : w3.frozen? ⟨g, i * 4 + 1, none⟩ = false := blk_frozen hcells _
      have z2 : w3.frozen? ⟨g, i * 4 + 2, none⟩ = false := blk_frozen hcells _
      have z3 : w3.frozen? ⟨g, i * 4 + 3, none⟩ = false := blk_frozen hcells _
      have HH := hHeld
      simp only [add_plain] at HH
      obtain ⟨b3, e0, e1, e2, e3⟩ := HH
      have hc := fun {a : Addr} {u : Value} (h : w2.cell? a = some u) => (hb.cell (World.block_lt_of_cell? _ _ h)).trans h
      replace b3 := hc b3
      replace e0 := hc e0
      replace e1 := hc e1
      replace e2 := hc e2
      replace e3 := hc e3
      have h5 := hc hHeld.2.1
      have h6 := hc hHeld.2.2.1
      have h7 := hc hHeld.2.2.2.1
      have h8 := hc hHeld.2.2.2.2
      clear hc
      have HN : Aside0 (CRel w l f0 f1 f2 (some ⟨g, 0, none⟩) c1 (i + 1) (w3.setCells g (i * 4) [.int .i64 (nth l i).f0, .string (nth l i).f1, .int .i64 (nth l i).f2, v])) := ⟨CRel_step HR2.out hlt hb (Kd.S_R hv)⟩
      obtain ⟨A4, c4, rfl⟩ := Kd.R_slice (Kd.S_R hv)
      refine hK.out _ _ ⟨b3, h5, h6, h7, h8⟩ (fun hHeld => ?_)
      clear hK K hv hb hcells HR2
      refine norm_ (a' := ?_) ?_ ?_
      rotate_left
      · show Act.put _ (some 22) _ = _
        simp only [Act.put, List.setIfInBounds_toArray, List.set_cons_zero, List.set_cons_succ, i64_w, i32_w]
        rfl
      refine pure_ (i := 9) (N := some 23) (v := ?_) (a' := ?_) #[true, true, true, true, true, true, true, true, true, true, false] rfl rfl (any_of HT_.out (by kernel_rfl)) (fun _ _ _ h => h) (Or.inl ⟨by rfl, ?_⟩) ?_ ?_
      rotate_left
      · intro w'
        go_simp
        with_reducible rfl
      rotate_left
      · simp only [Act.put, List.setIfInBounds_toArray, List.set_cons_zero, List.set_cons_succ, i64_w, i32_w]
        rfl
      refine last_ (i := 10) (N := none) #[true, true, true, true, true, true, true, true, true, true, true] rfl rfl (one_of HT_.out (by kernel_rfl)) (by decide) (fun K hK => ?_)
      refine skip_ (w1 := ?_) (by rfl) rfl ?_ ?_
      rotate_left
      · go_simp
        rfl
      refine hK.out _ _ ?_
      clear hK K
      refine done_ (done_of HT_.out (by kernel_rfl)) ?_
      try go_wp2
      have hkp : ∃ k', gk = k' + 1 := ⟨gk - 1, by have := HK.out; omega⟩
      obtain ⟨k', rfl⟩ := hkp
      go_roundg k'
      case measure => omega
      case rel => exact ⟨i + 1, by go_num, ⟨by have := HK.out; omega⟩, HN⟩
    · have hil : i = l.length := by have := HK.out; omega
      have BK := HR.out.2.1
      have RK := HR.out.2.2.1
      have HE : Aside0 (Kd.S k24 24 wr w.heap.size (fun k => w.heap.size + 2 ≤ k) (.slice A1 l.length c1) l) := ⟨by have h := HR.out; rw [hil] at h; exact CRel_end h⟩
      have HB := HR.out.1
      clear hil
      have b0 := blk_cell BK 0
      have b1 := blk_cell BK 1
      have b2 := blk_cell BK 2
      have b3 := blk_cell BK 3
      have r0 := blk_cell RK 0
      have r1 := blk_cell RK 1
      have r2 := blk_cell RK 2
      have r3 := blk_cell RK 3
      have z0 := blk_frozen RK 0
      have z1 := blk_frozen RK 1
      have z2 := blk_frozen RK 2
      have z3 := blk_frozen RK 3
      go_wp2
      refine bodyPost_ret (results_cell_row rfl _ _ (w.heap.size + 1) 24 #[.int .i64 f0, .string f1, .int .i64 f2, .slice A1 l.length c1] (0, 0) _ rfl (by refine blk_put (cs := #[.int .i64 f0, .string f1, .int .i64 f2, .slice none 0 0]) ?_ 3 _ rfl; refine blk_put (cs := #[.int .i64 f0, .string f1, .int .i64 0, .slice none 0 0]) ?_ 2 _ rfl; refine blk_put (cs := #[.int .i64 f0, .string ⟨#[]⟩, .int .i64 0, .slice none 0 0]) ?_ 1 _ rfl; refine blk_put (cs := #[.int .i64 0, .string ⟨#[]⟩, .int .i64 0, .slice none 0 0]) ?_ 0 _ rfl; exact RK) Tryd.underlying24 rfl (by kernel_rfl)) rfl ?_
      have hne : ∀ k, w.heap.size + 2 ≤ k → k ≠ w.heap.size + 1 := fun k hk => by omega
      exact ⟨_, rfl, Kd.S_mono (Kd.S_far (p := ⟨w.heap.size + 1, 3, none⟩) (Kd.S_far (p := ⟨w.heap.size + 1, 2, none⟩) (Kd.S_far (p := ⟨w.heap.size + 1, 1, none⟩) (Kd.S_far (p := ⟨w.heap.size + 1, 0, none⟩) HE.out hne _) hne _) hne _) hne _) (fun k hk => by omega), (((HB.setCell (by simp) _).setCell (by simp) _).setCell (by simp) _).setCell (by simp) _⟩
def node_clone.f (a0_0 : Int) (a0_1 : ByteArray) (a0_2 : Int) (l0_3 : List S24) : Option (Int × ByteArray × Int × List S24) := if cntL l0_3 < 1000000 then some (a0_0, a0_1, a0_2, l0_3) else none
theorem node_clone.calls (a0_0 : Int) (a0_1 : ByteArray) (a0_2 : Int) (A0_3 : Option Addr) (c0_3 : Nat) (l0_3 : List S24) (r1 : Int) (r2 : ByteArray) (r3 : Int) (r4 : List S24) (w : World) (hr0_3 : Kd.C k24 w A0_3 l0_3.length l0_3) (hc0_3 : l0_3.length ≤ c0_3) (h : node_clone.f a0_0 a0_1 a0_2 l0_3 = some (r1, r2, r3, r4)) :
    Calls Tryd.prog 47 #[.agg #[.int .i64 a0_0, .string a0_1, .int .i64 a0_2, .slice A0_3 l0_3.length c0_3]] w fun e w' => ∃ v3_ : Value, e = .returned (.agg #[.int .i64 r1, .string r2, .int .i64 r3, v3_]) ∧ Kd.R k24 24 w' w.heap.size (fun _ => True) v3_ r4 ∧ Below w.heap.size w w' := by
  unfold node_clone.f at h
  split at h
  · simp only [Option.some.injEq, Prod.mk.injEq] at h
    obtain ⟨rfl, rfl, rfl, rfl⟩ := h
    refine (node_clone.fresh 1000000 ⟨a0_0, a0_1, a0_2, l0_3⟩ A0_3 c0_3 w (by rw [cnt_eq]; simp only; omega) (by rw [cnt_eq]; simp only; omega) hc0_3 hr0_3).mono ?_
    rintro e w' ⟨v, rfl, hv, hb⟩
    exact ⟨v, rfl, Kd.R_mono (Kd.S_R hv) (fun _ _ => trivial), hb⟩
  · cases h
end Go.Proofs.YtgcpfelccfnnbaaDoor.X
namespace Go.Proofs.YtgcpfelccfnnbaaDoor.X
open Go.RowKit Go.Proofs.YtgcpfelccfnnbaaDoorW.PrintWords Go.Proofs.YtgcpfelccfnnbaaDoorW.PrintLast Go.Proofs.YtgcpfelccfnnbaaDoorW.PrintMore
attribute [local go_sem] max2_int min2_int max_two min_two max_three min_three max_four min_four   -- for this text's walks alone
set_option linter.unusedVariables false
set_option linter.unusedSimpArgs false
/-- A tree with another row at a path. -/
def withG : S24 → List Int → S24 → S24
  | n, i :: s :: path, r => ⟨n.f0, n.f1, n.f2, n.f3.set i.toNat ⟨(nth n.f3 i.toNat).f0, (nth n.f3 i.toNat).f1, (nth n.f3 i.toNat).f2, (nth n.f3 i.toNat).f3.set s.toNat (withG (nth (nth n.f3 i.toNat).f3 s.toNat) path r)⟩⟩
  | _, [_], r => r
  | _, [], r => r
/-- There is a row with the path. -/
def WithOk : S24 → List Int → Prop
  | n, i :: s :: path => 0 ≤ i ∧ i < n.f3.length ∧ 0 ≤ s ∧ s < (nth n.f3 i.toNat).f3.length ∧ WithOk (nth (nth n.f3 i.toNat).f3 s.toNat) path
  | _, [_] => False
  | _, [] => True
/-- The slot of an item of a copied tree: what is read there, what is left when it is written. -/
theorem heap_setCells4 {w : World} {g off k : Nat} {a b c d : Value} (h : k ≠ g) : (w.setCells g off [a, b, c, d]).heap[k]? = w.heap[k]? := by
  show ((((w.setCell ⟨g, off, none⟩ a).setCell ⟨g, off + 1, none⟩ b).setCell ⟨g, off + 1 + 1, none⟩ c).setCell ⟨g, off + 1 + 1 + 1, none⟩ d).heap[k]? = _
  rw [Below.heap_setCell _ _ _ _ h, Below.heap_setCell _ _ _ _ h, Below.heap_setCell _ _ _ _ h, Below.heap_setCell _ _ _ _ h]
theorem below_setCells4 {B : Nat} {w W : World} {g off : Nat} {a b c d : Value} (h : Below B w W) (hg : B ≤ g) : Below B w (W.setCells g off [a, b, c, d]) := by
  show Below B w ((((W.setCell ⟨g, off, none⟩ a).setCell ⟨g, off + 1, none⟩ b).setCell ⟨g, off + 1 + 1, none⟩ c).setCell ⟨g, off + 1 + 1 + 1, none⟩ d)
  exact (((h.setCell hg _).setCell hg _).setCell hg _).setCell hg _
theorem withBoxes {w w1 : World} {o1 o2 o3 : Obj} (hB : Below (((w.alloc o1).alloc o2).alloc o3).heap.size (((w.alloc o1).alloc o2).alloc o3) w1) :
    Aside0 (w1.heap[w.heap.size]? = some o1) ∧ Aside0 (w1.heap[w.heap.size + 1]? = some o2) ∧ Aside0 (w1.heap[w.heap.size + 2]? = some o3) ∧ Aside0 (Below w.heap.size w w1) ∧ Aside0 (w.heap.size + 3 ≤ w1.heap.size) := by
  have hz : (((w.alloc o1).alloc o2).alloc o3).heap.size = w.heap.size + 3 := by simp
  have h2 : ((w.alloc o1).alloc o2).heap.size = w.heap.size + 2 := by simp
  have hB0 : Below w.heap.size w (((w.alloc o1).alloc o2).alloc o3) := below_alloc (below_alloc (below_alloc (Below.refl _ _) _) _) _
  have hs := hB.size
  rw [hz] at hs
  refine ⟨⟨?_⟩, ⟨?_⟩, ⟨?_⟩, ⟨below_then hB0 hB0.size hB⟩, ⟨hs⟩⟩
  · rw [hB.block _ (by omega), Below.heap_alloc _ _ _ (by omega)]; exact alloc2_fst _ _ _
  · rw [hB.block _ (by omega), Below.heap_alloc _ _ _ (by omega)]; exact alloc2_snd _ _ _
  · rw [hB.block _ (by omega), ← h2]; exact heap_alloc_new _ _
theorem S_slot {w1 : World} {l : List S24} {v : Value} {base : Nat} {ok : Nat → Prop} (h : Kd.S k24 24 w1 base ok v l) {i s : Nat} (hi : i < l.length) (hs : s < (nth l i).f3.length) :
    ∃ ad g c1 ad2 g2 c2 A5 c5, v = .slice (some ad) l.length c1 ∧ Aside0 (ad = ⟨g, 0, none⟩) ∧ Aside0 (ad2 = ⟨g2, 0, none⟩) ∧ l.length ≤ c1 ∧ (nth l i).f3.length ≤ c2 ∧
    w1.cell? ⟨(ad.add (i * 4)).block, (ad.add (i * 4)).off + 3, none⟩ = some (.slice (some ad2) (nth l i).f3.length c2) ∧
    w1.cell? (ad2.add (s * 4)) = some (.int .i64 (nth (nth l i).f3 s).f0) ∧ w1.cell? ⟨(ad2.add (s * 4)).block, (ad2.add (s * 4)).off + 1, none⟩ = some (.string (nth (nth l i).f3 s).f1) ∧ w1.cell? ⟨(ad2.add (s * 4)).block, (ad2.add (s * 4)).off + 2, none⟩ = some (.int .i64 (nth (nth l i).f3 s).f2) ∧ w1.cell? ⟨(ad2.add (s * 4)).block, (ad2.add (s * 4)).off + 3, none⟩ = some (.slice A5 (nth (nth l i).f3 s).f3.length c5) ∧
    w1.frozen? (ad2.add (s * 4)) = false ∧ w1.frozen? ⟨(ad2.add (s * 4)).block, (ad2.add (s * 4)).off + 1, none⟩ = false ∧ w1.frozen? ⟨(ad2.add (s * 4)).block, (ad2.add (s * 4)).off + 2, none⟩ = false ∧ w1.frozen? ⟨(ad2.add (s * 4)).block, (ad2.add (s * 4)).off + 3, none⟩ = false ∧
    (nth (nth l i).f3 s).f3.length ≤ c5 ∧ Aside0 (Kd.C k24 w1 A5 (nth (nth l i).f3 s).f3.length (nth (nth l i).f3 s).f3) ∧ Aside0 (ok g2 ∧ g2 < w1.heap.size) ∧
    Aside0 (∀ (w3 : World) (y : S24) (A' : Option Addr) (c' : Nat) (okp : Nat → Prop), Below w1.heap.size w1 w3 → y.f3.length ≤ c' → Kd.F k24 w3 okp A' y.f3.length y.f3 → (∀ k, okp k → ok k ∧ w1.heap.size ≤ k) →
      Kd.N k24 24 (w3.setCells g2 (s * 4) [.int .i64 y.f0, .string y.f1, .int .i64 y.f2, .slice A' y.f3.length c']) base ok v (l.set i ⟨(nth l i).f0, (nth l i).f1, (nth l i).f2, (nth l i).f3.set s y⟩)) := by
  obtain ⟨f, hT⟩ := h
  obtain ⟨A, c1, hv⟩ := Kd.R_slice hT
  rw [List.length_zipIdx] at hv
  subst hv
  have hown := hT.1
  obtain ⟨rows, hl, hraw, hf⟩ := R_raw hT
  rw [List.length_zipIdx] at hl
  have hlen := (Kd.R_reads' hT).2.1
  obtain ⟨g, cap, hg, hge, hgl, hcells⟩ := Kd.R_form hraw (by omega)
  injection hg with hg1 hg2 hg3
  subst hg1
  have hgo : (Value.slice (some ⟨g, 0, none⟩) l.length c1).ownBlock = some g := by simp [Value.ownBlock]
  obtain ⟨c', hcl, hMM, hcc, hfr⟩ := Kd.R_elem hraw [] (i : Int) (by omega) (by omega)
  simp only [Int.toNat_natCast] at hMM hcc
  have hrow : rows[i]? = some c' := by
    have h2 := hMM.1
    rw [List.getD_eq_getElem?_getD, List.getElem?_eq_getElem (by omega)] at h2
    rw [List.getElem?_eq_getElem (by omega)]
    simp at h2
    rw [h2]
  have hx : l[i]? = some (nth l i) := nth_some hi
  have hM : k24.M w1 base (fun k => (ok k ∧ some k ≠ (Value.slice (some ⟨g, 0, none⟩) l.length c1).ownBlock) ∧ f k = i) (nth l i) c' := hf i (nth l i, i) c' (Kd.zip_at hx) hrow
  obtain ⟨v3, rfl, hR3⟩ := k24_openM hM
  obtain ⟨A2, c2, rfl⟩ := Kd.R_slice hR3
  obtain ⟨ad2, g2, c2', A5, c5, hv2, Had2, Hg2, hc2, hc5, HF5, e0, e1, e2, e3, m0, m1, m2, m3⟩ := elemN (Kd.R_N hR3) hs
  injection hv2 with hv2 _ hv2c
  subst hv2
  subst hv2c
  have hok2 := hR3.1 g2 (by rw [Had2.out]; simp [Value.ownBlock])
  have hne : g2 ≠ g := fun he => hok2.1.2 (by rw [hgo, he])
  refine ⟨⟨g, 0, none⟩, g, c1, ad2, g2, c2, A5, c5, rfl, ⟨rfl⟩, Had2, hlen, hc2, by rw [add_plain]; exact hcc 3 _ rfl, e0, e1, e2, e3, m0, m1, m2, m3, hc5, ⟨Kd.F_now HF5.out⟩, ⟨⟨hok2.1.1, Hg2.out.2⟩⟩, ⟨?_⟩⟩
  intro w3 y A' cy okp hb hcy hFy hokp
  have hs1 := hb.size
  obtain ⟨Had2⟩ := Had2
  subst Had2
  have hN3 := Kd.N_below (Kd.R_N hR3) hb
  obtain ⟨cs, hcl2, hK2, hcc2, hfr2⟩ := Kd.N_elem hN3 z24 (s : Int) (by omega) (by omega)
  simp only [Int.toNat_natCast] at hK2 hcc2
  have hlen4 : cs.length = 4 := hcl2
  have hN3' := Kd.N_mono hN3 (ok' := fun k => ((ok k ∧ some k ≠ (Value.slice (some ⟨g, 0, none⟩) l.length c1).ownBlock) ∧ f k = i) ∨ (ok k ∧ w1.heap.size ≤ k)) (fun k hk => .inl hk)
  have hseg := Kd.N_seg hN3' (s : Int) (by omega) (by omega) (c := cs) (seg := [.int .i64 y.f0, .string y.f1, .int .i64 y.f2, .slice A' y.f3.length cy]) (j := 0) (x' := y) (okp := okp) hcl2 (fun j u h => by simp only [Int.toNat_natCast]; exact hcc2 j u h) (by show 0 + 4 ≤ 4; omega)
    (by rw [List.take_zero, List.nil_append, List.drop_eq_nil_of_le (by show cs.length ≤ 0 + 4; omega), List.append_nil]; exact k24_mkF _ _ y hcy hFy)
    (fun k hk => ⟨.inr (hokp k hk), by have := (hokp k hk).2; have := Hg2.out.2; omega⟩)
  simp only [Int.toNat_natCast, Nat.add_zero] at hseg
  obtain ⟨hset, hgrow⟩ := hseg
  have hfar : ∀ k, k < w3.heap.size → k ≠ g2 → (w3.setCells g2 (s * 4) [.int .i64 y.f0, .string y.f1, .int .i64 y.f2, .slice A' y.f3.length cy]).heap[k]? = w3.heap[k]? := fun k hk hne => hgrow.block k hk (fun he => hne (by injection he))
  refine ⟨hown, rows, by rw [List.length_set]; exact hl, Kd.R_step (Kd.R_below hraw hb) (fun k hk hlt => hfar k hlt (fun he => hne (by rw [hgo] at hk; injection hk with hk; omega))), fun j p c hp hc => ?_⟩
  by_cases hji : j = i
  · subst hji
    rw [List.getElem?_set_self hi] at hp
    injection hp with hp
    rw [hrow] at hc
    injection hc with hc
    rw [← hp, ← hc]
    have h9 := Kd.N_F hset
    have hsl : ((nth l j).f3.set s y).length = (nth l j).f3.length := List.length_set
    have h10 := k24_mkF (w3.setCells g2 (s * 4) [.int .i64 y.f0, .string y.f1, .int .i64 y.f2, .slice A' y.f3.length cy]) (fun k => ok k ∧ some k ≠ (Value.slice (some ⟨g, 0, none⟩) l.length c1).ownBlock) ⟨(nth l j).f0, (nth l j).f1, (nth l j).f2, (nth l j).f3.set s y⟩ (A3 := some ⟨g2, 0, none⟩) (c3 := c2) (by rw [hsl]; exact hc2) (by rw [hsl]; exact Kd.F_mono h9 (fun k hk => by rcases hk with hk | hk; exact hk.1; exact ⟨hk.1, fun he => by rw [hgo] at he; injection he with he; omega⟩))
    rw [hsl] at h10
    exact h10
  · rw [List.getElem?_set_ne (Ne.symm hji)] at hp
    have h9 : k24.M w1 base (fun k => (ok k ∧ some k ≠ (Value.slice (some ⟨g, 0, none⟩) l.length c1).ownBlock) ∧ f k = j) p c := hf j (p, j) c (Kd.zip_at hp) hc
    exact Kd.FK_mono (Kd.FK_step (Kd.FK_below (Kd.FK_bound (Kd.FK_of_M h9)) hb) (fun k hk hlt => hfar k hlt (fun he => hji (by rw [← hk.1.2, he]; exact hok2.2)))) (fun k hk => hk.1.1)
def node_with.r5.T : Bool × List (List Nat × List Nat) := (true, [([], []), ([], []), ([1], [1]), ([2], [2]), ([], []), ([4], [4]), ([], []), ([3, 5, 6], [3, 5, 6]), ([0, 0, 1, 2, 3, 4, 5, 6, 7], [0]), ([8, 7, 7, 0, 1, 2, 3, 4, 5, 6, 7], [7, 8])])
def node_with.r5.B : List Nat := [0, 0, 2, 6, 0, 16, 0, 126, 255, 511]
theorem node_with.r5.tab : rtab .any (opsOf Tryd.f56 5) = node_with.r5.T := by kernel_rfl
theorem node_with.r5.bits : waitsOk node_with.r5.T.2 node_with.r5.B = true := by kernel_rfl
set_option maxRecDepth 100000 in
set_option maxHeartbeats 2000000 in
theorem with_nil (x r : S24) (A B AR : Option Addr) (c d cR : Nat) (w : World) (hcr : cnt r ≤ 1000000) (hR : r.f3.length ≤ cR) (hC : Kd.C k24 w AR r.f3.length r.f3) :
    Calls Tryd.prog 56 #[.agg #[.int .i64 x.f0, .string x.f1, .int .i64 x.f2, .slice A x.f3.length c], .slice B ([] : List Int).length d, .agg #[.int .i64 r.f0, .string r.f1, .int .i64 r.f2, .slice AR r.f3.length cR]] w fun e w' => ∃ (A' : Option Addr) (c' : Nat), e = .returned (.agg #[.int .i64 (withG x [] r).f0, .string (withG x [] r).f1, .int .i64 (withG x [] r).f2, .slice A' (withG x [] r).f3.length c']) ∧ (withG x [] r).f3.length ≤ c' ∧ Kd.F k24 w' (fun k => w.heap.size ≤ k) A' (withG x [] r).f3.length (withG x [] r).f3 ∧ Below w.heap.size w w' := by
  have HC := Aside0.mk hC
  clear hC
  rw [withG]
  go_enter Tryd.func56, Tryd.ntmps56
  go_wp2_with (go_at_call 47; go_loud ((with_reducible refine (node_clone.fresh 1000000 r AR cR _ hcr hcr hR ?hC).mono ?_); (case hC => exact Kd.C_below HC.out (below_alloc (below_alloc (below_alloc (Below.refl _ _) _) _) _)); rintro e w1 ⟨v, rfl, hS, hB1⟩; obtain ⟨A1, c1, rfl⟩ := Kd.R_slice (Kd.S_R hS); have HS := Aside0.mk hS; obtain ⟨HX, HR0, HZ, HBW0, HSZ⟩ := withBoxes hB1; clear hS hB1; have r0 : w1.cell? ⟨w.heap.size + 1 + 1, 0, none⟩ = _ := blk_cell HZ.out 0; have r1 : w1.cell? ⟨w.heap.size + 1 + 1, 1, none⟩ = _ := blk_cell HZ.out 1; have r2 : w1.cell? ⟨w.heap.size + 1 + 1, 2, none⟩ = _ := blk_cell HZ.out 2; have r3 : w1.cell? ⟨w.heap.size + 1 + 1, 3, none⟩ = _ := blk_cell HZ.out 3; have z0 : w1.frozen? ⟨w.heap.size + 1 + 1, 0, none⟩ = false := blk_frozen HZ.out 0; have z1 : w1.frozen? ⟨w.heap.size + 1 + 1, 1, none⟩ = false := blk_frozen HZ.out 1; have z2 : w1.frozen? ⟨w.heap.size + 1 + 1, 2, none⟩ = false := blk_frozen HZ.out 2; have z3 : w1.frozen? ⟨w.heap.size + 1 + 1, 3, none⟩ = false := blk_frozen HZ.out 3))
  refine bodyPost_ret (results_cell_row rfl _ _ (w.heap.size + 1 + 1) 24 #[.int .i64 r.f0, .string r.f1, .int .i64 r.f2, .slice A1 r.f3.length c1] (0, 0) _ rfl (blk_put4 HZ.out) Tryd.underlying24 rfl (by kernel_rfl)) rfl ?_
  have hz : (((w.alloc (.cells #[.int .i64 x.f0, .string x.f1, .int .i64 x.f2, .slice A x.f3.length c] 24)).alloc (.cells #[.int .i64 r.f0, .string r.f1, .int .i64 r.f2, .slice AR r.f3.length cR] 24)).alloc (.cells #[.int .i64 0, .string ⟨#[]⟩, .int .i64 0, .slice none 0 0] 24)).heap.size = w.heap.size + 3 := by simp
  have h0 := HS.out
  rw [hz] at h0
  exact ⟨A1, c1, rfl, (Kd.R_reads' (Kd.S_R h0)).2.1, Kd.F_mono (F_set4 (Kd.R_F (Kd.S_R h0)) (fun k hk => by omega)) (fun k hk => by omega), below_set4 HBW0.out (by omega)⟩
set_option maxRecDepth 100000 in
set_option maxHeartbeats 2000000 in
theorem with_any (m : Nat) : ∀ (x : S24) (p : List Int) (r : S24) (A B AR : Option Addr) (c d cR : Nat) (w : World), p.length ≤ m → WithOk x p → cnt x ≤ 1000000 → cnt r ≤ 1000000 → x.f3.length ≤ c → p.length ≤ d → r.f3.length ≤ cR → Kd.C k24 w A x.f3.length x.f3 → Kd.C (Kd.int .i64) w B p.length p → Kd.C k24 w AR r.f3.length r.f3 →
    Calls Tryd.prog 56 #[.agg #[.int .i64 x.f0, .string x.f1, .int .i64 x.f2, .slice A x.f3.length c], .slice B p.length d, .agg #[.int .i64 r.f0, .string r.f1, .int .i64 r.f2, .slice AR r.f3.length cR]] w fun e w' => ∃ (A' : Option Addr) (c' : Nat), e = .returned (.agg #[.int .i64 (withG x p r).f0, .string (withG x p r).f1, .int .i64 (withG x p r).f2, .slice A' (withG x p r).f3.length c']) ∧ (withG x p r).f3.length ≤ c' ∧ Kd.F k24 w' (fun k => w.heap.size ≤ k) A' (withG x p r).f3.length (withG x p r).f3 ∧ Below w.heap.size w w' := by
  induction m with
  | zero =>
    intro x p r A B AR c d cR w hm hok hcx hcr hc hd hR hA hB hC
    have hp : p = [] := List.eq_nil_of_length_eq_zero (by omega)
    subst hp
    exact with_nil x r A B AR c d cR w hcr hR hC
  | succ m ih =>
  intro x p r A B AR c d cR w hm hok hcx hcr hc hd hR hA hB hC
  match p, hm, hok, hd, hB with
  | [], hm, hok, hd, hB => exact with_nil x r A B AR c d cR w hcr hR hC
  | [_], hm, hok, hd, hB => exact hok.elim
  | i :: s :: q, hm, hok, hd, hB =>
    obtain ⟨hi0, hi, hs0, hs, hok⟩ := hok
    obtain ⟨i, rfl⟩ : ∃ j : Nat, i = j := ⟨i.toNat, by omega⟩
    obtain ⟨s, rfl⟩ : ∃ j : Nat, s = j := ⟨s.toNat, by omega⟩
    simp only [Int.toNat_natCast] at hi hs hok
    have hi : i < x.f3.length := by omega
    have hs : s < (nth x.f3 i).f3.length := by omega
    have HPQ := Aside0.mk hB
    have HA := Aside0.mk hA
    have HC := Aside0.mk hC
    have hql := hB.2.1
    obtain ⟨bd, rfl, _⟩ := Kd.at_int hB 0 (by omega) (by simp; omega)
    clear hB hA hC
    go_enter Tryd.func56, Tryd.ntmps56
    go_wp2_with (go_at_call 47; go_loud ((with_reducible refine (node_clone.fresh 1000000 x A c _ hcx hcx hc ?hC).mono ?_); (case hC => exact Kd.C_below HA.out (below_alloc (below_alloc (below_alloc (Below.refl _ _) _) _) _)); rintro e w1 ⟨v, rfl, hS, hB1⟩; obtain ⟨A1, c1, rfl⟩ := Kd.R_slice (Kd.S_R hS); have HS := Aside0.mk hS; obtain ⟨HX, HR0, HZ, HBW0, HSZ⟩ := withBoxes hB1; clear hS hB1; have x0 := blk_cell HX.out 0; have x1 := blk_cell HX.out 1; have x2 := blk_cell HX.out 2; have x3 := blk_cell HX.out 3; have y0 := blk_frozen HX.out 0; have y1 := blk_frozen HX.out 1; have y2 := blk_frozen HX.out 2; have y3 := blk_frozen HX.out 3))
    clear x0 x1 x2 x3 y0 y1 y2 y3
    have HCY : Aside0 (cnt (nth (nth x.f3 i).f3 s) ≤ 1000000) := ⟨by
      have h1 := cntL_get (l := x.f3) (j := i) (x := nth x.f3 i) (nth_some hi)
      have h2 := cntL_get (l := (nth x.f3 i).f3) (j := s) (x := nth (nth x.f3 i).f3 s) (nth_some hs)
      have h3 := cnt_eq x
      have h4 := cnt_eq (nth x.f3 i)
      omega⟩
    obtain ⟨W1, hW1⟩ : ∃ W1, W1 = set4 w1 w.heap.size (.int .i64 x.f0) (.string x.f1) (.int .i64 x.f2) (.slice A1 x.f3.length c1) := ⟨_, rfl⟩
    have hch : set4 w1 w.heap.size (.int .i64 x.f0) (.string x.f1) (.int .i64 x.f2) (.slice A1 x.f3.length c1) = (((w1.setCell ⟨w.heap.size, 0, none⟩ (.int .i64 x.f0)).setCell ⟨w.heap.size, 1, none⟩ (.string x.f1)).setCell ⟨w.heap.size, 2, none⟩ (.int .i64 x.f2)).setCell ⟨w.heap.size, 3, none⟩ (.slice A1 x.f3.length c1) := rfl
    rw [← hch, ← hW1]
    have HX1 : Aside0 (W1.heap[w.heap.size]? = some (.cells #[.int .i64 x.f0, .string x.f1, .int .i64 x.f2, .slice A1 x.f3.length c1] 24 (0, 0))) := ⟨by rw [hW1]; exact blk_put4 HX.out⟩
    have HR1 : Aside0 (W1.heap[w.heap.size + 1]? = some (.cells #[.int .i64 r.f0, .string r.f1, .int .i64 r.f2, .slice AR r.f3.length cR] 24 (0, 0))) := ⟨by rw [hW1, heap_set4 (by omega)]; exact HR0.out⟩
    have HZ1 : Aside0 (W1.heap[w.heap.size + 2]? = some (.cells #[.int .i64 0, .string ⟨#[]⟩, .int .i64 0, .slice none 0 0] 24 (0, 0))) := ⟨by rw [hW1, heap_set4 (by omega)]; exact HZ.out⟩
    have HBW : Aside0 (Below w.heap.size w W1) := ⟨by rw [hW1]; exact below_set4 HBW0.out (Nat.le_refl _)⟩
    have HSZ1 : Aside0 (w.heap.size + 3 ≤ W1.heap.size) := ⟨by rw [hW1, size_set4]; exact HSZ.out⟩
    have HS1 : Aside0 (Kd.S k24 24 W1 (w.heap.size + 3) (fun k => w.heap.size + 3 ≤ k) (.slice A1 x.f3.length c1) x.f3) := ⟨by
      rw [hW1]
      have hz : (((w.alloc (.cells #[.int .i64 x.f0, .string x.f1, .int .i64 x.f2, .slice A x.f3.length c] 24)).alloc (.cells #[.int .i64 r.f0, .string r.f1, .int .i64 r.f2, .slice AR r.f3.length cR] 24)).alloc (.cells #[.int .i64 0, .string ⟨#[]⟩, .int .i64 0, .slice none 0 0] 24)).heap.size = w.heap.size + 3 := by simp
      have h0 := HS.out
      rw [hz] at h0
      have hne : ∀ k, w.heap.size + 3 ≤ k → k ≠ w.heap.size := fun k hk => by omega
      exact Kd.S_far (p := ⟨w.heap.size, 3, none⟩) (Kd.S_far (p := ⟨w.heap.size, 2, none⟩) (Kd.S_far (p := ⟨w.heap.size, 1, none⟩) (Kd.S_far (p := ⟨w.heap.size, 0, none⟩) h0 hne _) hne _) hne _) hne _⟩
    clear hch hW1 HX HR0 HZ HBW0 HSZ HS
    obtain ⟨ad, g, c1', ad2, g2, c2, A5, c5, hv, Had, Had2, hc1, hc2, e3, n0, n1, n2, n3, q0, q1, q2, q3, hc5, HC5, Hg2, HSTEP⟩ := S_slot HS1.out hi hs
    injection hv with hv1 hv2 hv3
    subst hv1
    subst hv3
    obtain ⟨bd', hbd, hp0⟩ := Kd.at_int (Kd.C_below HPQ.out HBW.out) 0 (by omega) (by simp; omega)
    obtain ⟨bd'', hbd2, hp1⟩ := Kd.at_int (Kd.C_below HPQ.out HBW.out) 1 (by omega) (by simp; omega)
    injection hbd with hbd
    injection hbd2 with hbd2
    subst hbd
    subst hbd2
    have p0 : W1.cell? (bd.add 0) = some (.int .i64 i) := hp0
    have p0' : W1.cell? bd = some (.int .i64 i) := by have h := p0; rw [add_zero_] at h; exact h
    have p1 : W1.cell? ⟨bd.block, bd.off + 1, none⟩ = some (.int .i64 s) := hp1
    clear hp0 hp1
    have b3 := blk_cell HX1.out 3
    have hq2 : (2 : Int) ≤ (q.length : Int) + 1 + 1 := by omega
    go_region
    go_wp2
    refine start_ (n := 10) (S := fun w' => w'.cell? (ad2.add (s * 4)) = some (.int .i64 (nth (nth x.f3 i).f3 s).f0) ∧ w'.cell? ⟨(ad2.add (s * 4)).block, (ad2.add (s * 4)).off + 1, none⟩ = some (.string (nth (nth x.f3 i).f3 s).f1) ∧ w'.cell? ⟨(ad2.add (s * 4)).block, (ad2.add (s * 4)).off + 2, none⟩ = some (.int .i64 (nth (nth x.f3 i).f3 s).f2) ∧ w'.cell? ⟨(ad2.add (s * 4)).block, (ad2.add (s * 4)).off + 3, none⟩ = some (.slice A5 (nth (nth x.f3 i).f3 s).f3.length c5) ∧ w'.cell? ⟨w.heap.size + 1, 0, none⟩ = some (.int .i64 r.f0) ∧ w'.cell? ⟨w.heap.size + 1, 1, none⟩ = some (.string r.f1) ∧ w'.cell? ⟨w.heap.size + 1, 2, none⟩ = some (.int .i64 r.f2) ∧ w'.cell? ⟨w.heap.size + 1, 3, none⟩ = some (.slice AR r.f3.length cR)) (ds := [9]) #[false, false, false, false, false, false, false, false, false, false] (by kernel_rfl) rfl rfl ⟨n0, n1, n2, n3, blk_cell HR1.out 0, blk_cell HR1.out 1, blk_cell HR1.out 2, blk_cell HR1.out 3⟩ (fun hHeld => ?_); refine with_tabW node_with.r5.tab node_with.r5.bits (fun HT_ HW_ => ?_)
    refine pure_ (i := 0) (N := some 27) (v := ?_) (a' := ?_) #[true, false, false, false, false, false, false, false, false, false] rfl rfl (any_of HT_.out (by kernel_rfl)) (fun _ _ _ h => h) (Or.inl ⟨by rfl, ?_⟩) ?_ ?_
    rotate_left
    · intro w'
      go_simp
      with_reducible rfl
    rotate_left
    · simp only [Act.put, List.setIfInBounds_toArray, List.set_cons_zero, List.set_cons_succ, i64_w, i32_w]
      rfl
    refine pure_ (i := 1) (N := some 28) (v := ?_) (a' := ?_) #[true, true, false, false, false, false, false, false, false, false] rfl rfl (any_of HT_.out (by kernel_rfl)) (fun _ _ _ h => h) (Or.inl ⟨by rfl, ?_⟩) ?_ ?_
    rotate_left
    · intro w'
      go_simp
      with_reducible rfl
    rotate_left
    · simp only [Act.put, List.setIfInBounds_toArray, List.set_cons_zero, List.set_cons_succ, i64_w, i32_w]
      rfl
    refine pure_ (i := 2) (N := some 29) (v := ?_) (a' := ?_) #[true, true, true, false, false, false, false, false, false, false] rfl rfl (any_of HT_.out (by kernel_rfl)) (fun _ _ _ h => h) (Or.inl ⟨by rfl, ?_⟩) ?_ ?_
    rotate_left
    · intro w'
      go_simp
      with_reducible rfl
    rotate_left
    · simp only [Act.put, List.setIfInBounds_toArray, List.set_cons_zero, List.set_cons_succ, i64_w, i32_w]
      rfl
    refine take_ (i := 3) (N := some 30) (v := ?_) (a' := ?_) #[true, true, true, true, false, false, false, false, false, false] rfl rfl (take_ofW HT_.out HW_.out (by kernel_rfl)) (fun _ _ _ h => h) (Or.inl ⟨by rfl, ?_⟩) hHeld ?_ ?_
    rotate_left
    · rintro w' ⟨t0, t1, t2, t3, t4, t5, t6, t7⟩
      go_simp
      with_reducible rfl
    rotate_left
    · simp only [Act.put, List.setIfInBounds_toArray, List.set_cons_zero, List.set_cons_succ, i64_w, i32_w]
      rfl
    refine pure_ (i := 4) (N := some 31) (v := ?_) (a' := ?_) #[true, true, true, true, true, false, false, false, false, false] rfl rfl (any_of HT_.out (by kernel_rfl)) (fun _ _ _ h => h) (Or.inl ⟨by rfl, ?_⟩) ?_ ?_
    rotate_left
    · intro w'
      go_simp
      with_reducible rfl
    rotate_left
    · simp only [Act.put, List.setIfInBounds_toArray, List.set_cons_zero, List.set_cons_succ, i64_w, i32_w]
      rfl
    refine pure_ (i := 5) (N := some 32) (v := ?_) (a' := ?_) #[true, true, true, true, true, true, false, false, false, false] rfl rfl (any_of HT_.out (by kernel_rfl)) (fun _ _ _ h => h) (Or.inl ⟨by rfl, ?_⟩) ?_ ?_
    rotate_left
    · intro w'
      go_simp
      with_reducible rfl
    rotate_left
    · simp only [Act.put, List.setIfInBounds_toArray, List.set_cons_zero, List.set_cons_succ, i64_w, i32_w]
      rfl
    refine take_ (i := 6) (N := some 33) (v := ?_) (a' := ?_) #[true, true, true, true, true, true, true, false, false, false] rfl rfl (take_ofW HT_.out HW_.out (by kernel_rfl)) (fun _ _ _ h => h) (Or.inl ⟨by rfl, ?_⟩) hHeld ?_ ?_
    rotate_left
    · rintro w' ⟨t0, t1, t2, t3, t4, t5, t6, t7⟩
      go_simp
      with_reducible rfl
    rotate_left
    · simp only [Act.put, List.setIfInBounds_toArray, List.set_cons_zero, List.set_cons_succ, i64_w, i32_w]
      rfl
    refine one_ (i := 7) (N := some 34) #[true, true, true, true, true, true, true, true, false, false] rfl rfl (one_of HT_.out (by kernel_rfl)) (by decide) (fun K hK => ?_)
    refine goes_ Tryd.func56 (by kernel_rfl) rfl #[.agg #[.int .i64 (nth (nth x.f3 i).f3 s).f0, .string (nth (nth x.f3 i).f3 s).f1, .int .i64 (nth (nth x.f3 i).f3 s).f2, .slice A5 (nth (nth x.f3 i).f3 s).f3.length c5], .slice (if d = 2 then some bd else some ⟨bd.block, bd.off + 2, none⟩) q.length (d - 2), .agg #[.int .i64 r.f0, .string r.f1, .int .i64 r.f2, .slice AR r.f3.length cR]] (by rfl) rfl rfl (by (try simp only [List.map_toArray, List.map_cons, List.map_nil]); first | done | rfl | (simp only [List.length_drop, List.length_take]; rfl)) ?_
    have hcy : cnt (nth (nth x.f3 i).f3 s) ≤ 1000000 := HCY.out
    refine (ih (nth (nth x.f3 i).f3 s) q r A5 (if d = 2 then some bd else some ⟨bd.block, bd.off + 2, none⟩) AR c5 (d - 2) cR _ (by simp only [List.length_cons] at hm; omega) hok hcy hcr hc5 (by simp only [List.length_cons] at hd; omega) hR ?hA ?hB ?hC).mono ?_
    (case hA => exact Kd.C_below HC5.out (Below.drew (Below.drew (Below.refl _ _))))
    (case hB => exact Kd.C_drop (m := 2) (Kd.C_below HPQ.out (Below.drew (Below.drew HBW.out))) (by simp) hd)
    (case hC => exact Kd.C_below HC.out (Below.drew (Below.drew HBW.out)))
    rintro e w3 ⟨A7, c7, rfl, hl7, hF7, hb⟩
    have HB3 := Aside0.mk hb
    have HF7 := Aside0.mk hF7
    obtain ⟨t0, t1, t2, t3, t4, t5, t6, t7⟩ := hHeld
    refine ⟨_, rfl, ?_⟩
    refine hK.out _ _ ⟨hold_ hb t0, hold_ hb t1, hold_ hb t2, hold_ hb t3, hold_ hb t4, hold_ hb t5, hold_ hb t6, hold_ hb t7⟩ (fun hHeld => ?_)
    clear hK K
    refine norm_ (a' := ?_) ?_ ?_
    rotate_left
    · show Act.put _ (some 34) _ = _
      simp only [Act.put, List.setIfInBounds_toArray, List.set_cons_zero, List.set_cons_succ, i64_w, i32_w]
      rfl
    refine pure_ (i := 8) (N := some 35) (v := ?_) (a' := ?_) #[true, true, true, true, true, true, true, true, true, false] rfl rfl (any_of HT_.out (by kernel_rfl)) (fun _ _ _ h => h) (Or.inl ⟨by rfl, ?_⟩) ?_ ?_
    rotate_left
    · intro w'
      go_simp
      with_reducible rfl
    rotate_left
    · simp only [Act.put, List.setIfInBounds_toArray, List.set_cons_zero, List.set_cons_succ, i64_w, i32_w]
      rfl
    obtain ⟨Had2⟩ := Had2
    subst Had2
    simp only [add_plain] at hHeld q0 q1 q2 q3
    obtain ⟨t0, t1, t2, t3, _, _, _, _⟩ := hHeld
    have k0 : w3.frozen? ⟨g2, s * 4, none⟩ = false := (HB3.out.frozen Hg2.out.2).trans q0
    have k1 : w3.frozen? ⟨g2, s * 4 + 1, none⟩ = false := (HB3.out.frozen Hg2.out.2).trans q1
    have k2 : w3.frozen? ⟨g2, s * 4 + 2, none⟩ = false := (HB3.out.frozen Hg2.out.2).trans q2
    have k3 : w3.frozen? ⟨g2, s * 4 + 3, none⟩ = false := (HB3.out.frozen Hg2.out.2).trans q3
    refine last_ (i := 9) (N := none) #[true, true, true, true, true, true, true, true, true, true] rfl rfl (one_of HT_.out (by kernel_rfl)) (by decide) (fun K hK => ?_)
    refine skip_ (w1 := w3.setCells g2 (s * 4) [.int .i64 (withG (nth (nth x.f3 i).f3 s) q r).f0, .string (withG (nth (nth x.f3 i).f3 s) q r).f1, .int .i64 (withG (nth (nth x.f3 i).f3 s) q r).f2, .slice A7 (withG (nth (nth x.f3 i).f3 s) q r).f3.length c7]) (by rfl) rfl ?_ ?_
    · go_simp
      rfl
    refine hK.out _ _ ?_
    clear hK K
    
    refine done_ (done_of HT_.out (by kernel_rfl)) ?_
    have HB5 : Aside0 (Below W1.heap.size W1 w3) := ⟨below_then (Below.drew (Below.drew (Below.refl _ _))) (Nat.le_refl _) HB3.out⟩
    have HN4 := Aside0.mk (HSTEP.out w3 (withG (nth (nth x.f3 i).f3 s) q r) A7 c7 (fun k => W1.heap.size ≤ k) HB5.out hl7 HF7.out (fun k hk => ⟨by have := HSZ1.out; omega, hk⟩))
    have hg4 : g2 ≠ w.heap.size ∧ g2 ≠ w.heap.size + 2 ∧ w.heap.size ≤ g2 := by have := Hg2.out.1; omega
    have HX4 : Aside0 ((w3.setCells g2 (s * 4) [.int .i64 (withG (nth (nth x.f3 i).f3 s) q r).f0, .string (withG (nth (nth x.f3 i).f3 s) q r).f1, .int .i64 (withG (nth (nth x.f3 i).f3 s) q r).f2, .slice A7 (withG (nth (nth x.f3 i).f3 s) q r).f3.length c7]).heap[w.heap.size]? = some (.cells #[.int .i64 x.f0, .string x.f1, .int .i64 x.f2, .slice (some ad) x.f3.length c1] 24 (0, 0))) := ⟨by rw [heap_setCells4 (Ne.symm hg4.1), HB5.out.block _ (by have := HSZ1.out; omega)]; exact HX1.out⟩
    have HZ4 : Aside0 ((w3.setCells g2 (s * 4) [.int .i64 (withG (nth (nth x.f3 i).f3 s) q r).f0, .string (withG (nth (nth x.f3 i).f3 s) q r).f1, .int .i64 (withG (nth (nth x.f3 i).f3 s) q r).f2, .slice A7 (withG (nth (nth x.f3 i).f3 s) q r).f3.length c7]).heap[w.heap.size + 1 + 1]? = some (.cells #[.int .i64 0, .string ⟨#[]⟩, .int .i64 0, .slice none 0 0] 24 (0, 0))) := ⟨by rw [heap_setCells4 (by omega), HB5.out.block _ (by have := HSZ1.out; omega)]; exact HZ1.out⟩
    have HB4 : Aside0 (Below w.heap.size w (w3.setCells g2 (s * 4) [.int .i64 (withG (nth (nth x.f3 i).f3 s) q r).f0, .string (withG (nth (nth x.f3 i).f3 s) q r).f1, .int .i64 (withG (nth (nth x.f3 i).f3 s) q r).f2, .slice A7 (withG (nth (nth x.f3 i).f3 s) q r).f3.length c7])) := ⟨below_setCells4 (below_then HBW.out HBW.out.size HB5.out) hg4.2.2⟩
    clear t0 t1 t2 t3 k0 k1 k2 k3 hg4
    generalize hw4 : w3.setCells g2 (s * 4) [.int .i64 (withG (nth (nth x.f3 i).f3 s) q r).f0, .string (withG (nth (nth x.f3 i).f3 s) q r).f1, .int .i64 (withG (nth (nth x.f3 i).f3 s) q r).f2, .slice A7 (withG (nth (nth x.f3 i).f3 s) q r).f3.length c7] = w4 at HN4 HX4 HZ4 HB4 ⊢
    have x0 := blk_cell HX4.out 0
    have x1 := blk_cell HX4.out 1
    have x2 := blk_cell HX4.out 2
    have x3 := blk_cell HX4.out 3
    have r0 := blk_cell HZ4.out 0
    have r1 := blk_cell HZ4.out 1
    have r2 := blk_cell HZ4.out 2
    have r3 := blk_cell HZ4.out 3
    have z0 := blk_frozen HZ4.out 0
    have z1 := blk_frozen HZ4.out 1
    have z2 := blk_frozen HZ4.out 2
    have z3 := blk_frozen HZ4.out 3
    have HW : Aside0 (withG x (↑i :: ↑s :: q) r = ⟨x.f0, x.f1, x.f2, x.f3.set i ⟨(nth x.f3 i).f0, (nth x.f3 i).f1, (nth x.f3 i).f2, (nth x.f3 i).f3.set s (withG (nth (nth x.f3 i).f3 s) q r)⟩⟩) := ⟨by rw [withG]; simp only [Int.toNat_natCast]⟩
    have HL : Aside0 ((x.f3.set i ⟨(nth x.f3 i).f0, (nth x.f3 i).f1, (nth x.f3 i).f2, (nth x.f3 i).f3.set s (withG (nth (nth x.f3 i).f3 s) q r)⟩).length = x.f3.length) := ⟨List.length_set⟩
    go_wp2
    all_goals
      refine bodyPost_ret (results_cell_row rfl _ _ (w.heap.size + 1 + 1) 24 #[.int .i64 x.f0, .string x.f1, .int .i64 x.f2, .slice (some ad) x.f3.length c1] (0, 0) _ rfl (blk_put4 HZ4.out) Tryd.underlying24 rfl (by kernel_rfl)) rfl ?_
      rw [HW.out]
      refine ⟨some ad, c1, by rw [HL.out], by rw [HL.out]; exact hc1, ?_, below_set4 HB4.out (by omega)⟩
      rw [HL.out]
      exact Kd.F_mono (F_set4 (Kd.N_F HN4.out) (fun k hk => by omega)) (fun k hk => by omega)
theorem row_ok : ∀ (m : Nat) (x : S24) (p : List Int), p.length ≤ m → (rowG x p).2 = true → WithOk x p := by
  intro m
  induction m with
  | zero =>
    intro x p hm h
    have hp : p = [] := List.eq_nil_of_length_eq_zero (by omega)
    subst hp
    exact trivial
  | succ m ih =>
    intro x p hm h
    match p, hm, h with
    | [], _, _ => exact trivial
    | [_], _, h => rw [rowG] at h; cases h
    | i :: s :: q, hm, h =>
      rw [rowG] at h
      split at h
      · rename_i hh
        exact ⟨hh.1, hh.2.1, hh.2.2.1, hh.2.2.2, ih _ _ (by simp only [List.length_cons] at hm; omega) h⟩
      · cases h
def node_with.f (a0_0 : Int) (a0_1 : ByteArray) (a0_2 : Int) (l0_3 : List S24) (l1 : List Int) (a2_0 : Int) (a2_1 : ByteArray) (a2_2 : Int) (l2_3 : List S24) : Option (Int × ByteArray × Int × List S24) :=
  if (rowG ⟨a0_0, a0_1, a0_2, l0_3⟩ l1).2 = true ∧ cntL l0_3 < 1000000 ∧ cntL l2_3 < 1000000 then some ((withG ⟨a0_0, a0_1, a0_2, l0_3⟩ l1 ⟨a2_0, a2_1, a2_2, l2_3⟩).f0, (withG ⟨a0_0, a0_1, a0_2, l0_3⟩ l1 ⟨a2_0, a2_1, a2_2, l2_3⟩).f1, (withG ⟨a0_0, a0_1, a0_2, l0_3⟩ l1 ⟨a2_0, a2_1, a2_2, l2_3⟩).f2, (withG ⟨a0_0, a0_1, a0_2, l0_3⟩ l1 ⟨a2_0, a2_1, a2_2, l2_3⟩).f3) else none
theorem node_with.calls (a0_0 : Int) (a0_1 : ByteArray) (a0_2 : Int) (A0_3 : Option Addr) (c0_3 : Nat) (l0_3 : List S24) (P1 : Nat → Prop) (A1 : Option Addr) (c1 : Nat) (l1 : List Int) (a2_0 : Int) (a2_1 : ByteArray) (a2_2 : Int) (A2_3 : Option Addr) (c2_3 : Nat) (l2_3 : List S24) (r1 : Int) (r2 : ByteArray) (r3 : Int) (r4 : List S24) (w : World) (hr0_3 : Kd.C k24 w A0_3 l0_3.length l0_3) (hc0_3 : l0_3.length ≤ c0_3) (hs1 : Kd.V (Kd.int .i64) 3 w w.heap.size (fun k_ => P1 k_) (.slice A1 l1.length c1) l1) (hr2_3 : Kd.C k24 w A2_3 l2_3.length l2_3) (hc2_3 : l2_3.length ≤ c2_3) (h : node_with.f a0_0 a0_1 a0_2 l0_3 l1 a2_0 a2_1 a2_2 l2_3 = some (r1, r2, r3, r4)) :
    Calls Tryd.prog 56 #[.agg #[.int .i64 a0_0, .string a0_1, .int .i64 a0_2, .slice A0_3 l0_3.length c0_3], .slice A1 l1.length c1, .agg #[.int .i64 a2_0, .string a2_1, .int .i64 a2_2, .slice A2_3 l2_3.length c2_3]] w fun e w' => ∃ v3_ : Value, e = .returned (.agg #[.int .i64 r1, .string r2, .int .i64 r3, v3_]) ∧ Kd.V k24 24 w' w.heap.size (fun k_ => P1 k_ ∨ w.heap.size ≤ k_) v3_ r4 ∧ Below w.heap.size w w' := by
  unfold node_with.f at h
  split at h
  · rename_i hh
    simp only [Option.some.injEq, Prod.mk.injEq] at h
    obtain ⟨rfl, rfl, rfl, rfl⟩ := h
    obtain ⟨A4, c4, h1, hl1, hF1⟩ := hs1
    injection h1 with h1a h1b h1c
    subst h1a
    subst h1c
    refine (with_any l1.length ⟨a0_0, a0_1, a0_2, l0_3⟩ l1 ⟨a2_0, a2_1, a2_2, l2_3⟩ A0_3 A1 A2_3 c0_3 c1 c2_3 w (Nat.le_refl _) (row_ok _ _ _ (Nat.le_refl _) hh.1) (by rw [cnt_eq]; have := hh.2.1; simp only; omega) (by rw [cnt_eq]; have := hh.2.2; simp only; omega) hc0_3 hl1 hc2_3 hr0_3 (Kd.F_now hF1) hr2_3).mono ?_
    rintro e w' ⟨A', c', rfl, hl, hF, hb⟩
    exact ⟨_, rfl, ⟨A', c', rfl, hl, Kd.F_mono hF (fun k hk => .inr hk)⟩, hb⟩
  · cases h
end Go.Proofs.YtgcpfelccfnnbaaDoor.X
namespace Go.Proofs.YtgcpfelccfnnbaaDoor.X
open Go.RowKit Go.Proofs.YtgcpfelccfnnbaaDoorW.PrintWords Go.Proofs.YtgcpfelccfnnbaaDoorW.PrintLast Go.Proofs.YtgcpfelccfnnbaaDoorW.PrintMore
attribute [local go_sem] max2_int min2_int max_two min_two max_three min_three max_four min_four   -- for this text's walks alone
set_option linter.unusedVariables false
set_option linter.unusedSimpArgs false
def node_Row.f (a0_0 : Int) (a0_1 : ByteArray) (a0_2 : Int) (l0_3 : List (S24)) (l1 : List Int) : Option (Int × ByteArray × Int × (List (S24)) × Int) := (node_Valid.f a0_0 a0_1 a0_2 l0_3).bind fun t143 => (if t143 = true then ((node_row.f a0_0 a0_1 a0_2 l0_3 l1).bind fun bt144 => (if bt144.2.2.2.2 = true then ((node_clone.f bt144.1 bt144.2.1 bt144.2.2.1 bt144.2.2.2.1).bind fun bt152 => (some (bt152.1, bt152.2.1, bt152.2.2.1, bt152.2.2.2, 0))) else (some (0, (⟨#[]⟩ : ByteArray), 0, ([] : List (S24)), 8)))) else (some (0, (⟨#[]⟩ : ByteArray), 0, ([] : List (S24)), 1)))
set_option maxHeartbeats 8000000 in
set_option maxRecDepth 100000 in
theorem node_Row.calls (a0_0 : Int) (a0_1 : ByteArray) (a0_2 : Int) (A0_3 : Option Addr) (c0_3 : Nat) (l0_3 : List (S24)) (A1 : Option Addr) (c1 : Nat) (l1 : List Int) (r1 : Int) (r2 : ByteArray) (r3 : Int) (r4 : List (S24)) (r5 : Int) (w : World) (hr0_3 : Kd.C k24 w A0_3 l0_3.length l0_3) (hc0_3 : l0_3.length ≤ c0_3) (hr1 : Kd.C (Kd.int .i64) w A1 l1.length l1) (hc1 : l1.length ≤ c1) (h : node_Row.f a0_0 a0_1 a0_2 l0_3 l1 = some (r1, r2, r3, r4, r5)) :
    Calls Tryd.prog 29 #[.agg #[.int .i64 a0_0, .string a0_1, .int .i64 a0_2, .slice A0_3 l0_3.length c0_3], .slice A1 l1.length c1] w fun e w' => ∃ v3_ : Value, e = .returned (.tuple #[.agg #[.int .i64 r1, .string r2, .int .i64 r3, v3_], .int .i64 r5]) ∧ Kd.R k24 24 w' w.heap.size (fun _ => True) v3_ r4 ∧ Below w.heap.size w w' := by
  have hu24 := Tryd.underlying24
  have HR0_3 := Aside0.mk hr0_3
  have HC0_3 := Aside0.mk hc0_3
  clear hr0_3 hc0_3
  have HR1 := Aside0.mk hr1
  have HC1 := Aside0.mk hc1
  clear hr1 hc1
  have HB := Aside0.mk (Below.refl w.heap.size w)
  have H : ((node_Valid.f a0_0 a0_1 a0_2 l0_3).bind fun t143 => (if t143 = true then ((node_row.f a0_0 a0_1 a0_2 l0_3 l1).bind fun bt144 => (if bt144.2.2.2.2 = true then ((node_clone.f bt144.1 bt144.2.1 bt144.2.2.1 bt144.2.2.2.1).bind fun bt152 => (some (bt152.1, bt152.2.1, bt152.2.2.1, bt152.2.2.2, 0))) else (some (0, (⟨#[]⟩ : ByteArray), 0, ([] : List (S24)), 8)))) else (some (0, (⟨#[]⟩ : ByteArray), 0, ([] : List (S24)), 1)))) = some (r1, r2, r3, r4, r5) := h
  clear h
  replace H := Option.bind_eq_some_iff.mp H
  obtain ⟨t143, A30, H⟩ := H
  replace H : (if t143 = true then ((node_row.f a0_0 a0_1 a0_2 l0_3 l1).bind fun bt144 => (if bt144.2.2.2.2 = true then ((node_clone.f bt144.1 bt144.2.1 bt144.2.2.1 bt144.2.2.2.1).bind fun bt152 => (some (bt152.1, bt152.2.1, bt152.2.2.1, bt152.2.2.2, 0))) else (some (0, (⟨#[]⟩ : ByteArray), 0, ([] : List (S24)), 8)))) else (some (0, (⟨#[]⟩ : ByteArray), 0, ([] : List (S24)), 1))) = some (r1, r2, r3, r4, r5) := H
  have A3 := Aside0.mk A30
  clear A30
  by_cases c4 : t143 = true
  · subst c4
    have H1 : ((node_row.f a0_0 a0_1 a0_2 l0_3 l1).bind fun bt144 => (if bt144.2.2.2.2 = true then ((node_clone.f bt144.1 bt144.2.1 bt144.2.2.1 bt144.2.2.2.1).bind fun bt152 => (some (bt152.1, bt152.2.1, bt152.2.2.1, bt152.2.2.2, 0))) else (some (0, (⟨#[]⟩ : ByteArray), 0, ([] : List (S24)), 8)))) = some (r1, r2, r3, r4, r5) := by rw [if_pos rfl] at H; exact H
    clear H
    have H := H1
    clear H1
    replace H := Option.bind_eq_some_iff.mp H
    obtain ⟨⟨t144, t145, t146, t147, t150⟩, A50, H⟩ := H
    replace H : (if t150 = true then ((node_clone.f t144 t145 t146 t147).bind fun bt152 => (some (bt152.1, bt152.2.1, bt152.2.2.1, bt152.2.2.2, 0))) else (some (0, (⟨#[]⟩ : ByteArray), 0, ([] : List (S24)), 8))) = some (r1, r2, r3, r4, r5) := H
    have A5 := Aside0.mk A50
    clear A50
    by_cases c6 : t150 = true
    · subst c6
      have H1 : ((node_clone.f t144 t145 t146 t147).bind fun bt152 => (some (bt152.1, bt152.2.1, bt152.2.2.1, bt152.2.2.2, 0))) = some (r1, r2, r3, r4, r5) := by rw [if_pos rfl] at H; exact H
      clear H
      have H := H1
      clear H1
      replace H := Option.bind_eq_some_iff.mp H
      obtain ⟨⟨t152, t153, t154, t155⟩, A70, H⟩ := H
      replace H : (some (t152, t153, t154, t155, 0)) = some (r1, r2, r3, r4, r5) := H
      have A7 := Aside0.mk A70
      clear A70
      simp only [Option.some.injEq, Prod.mk.injEq] at H
      obtain ⟨rfl, rfl, rfl, rfl, rfl⟩ := H
      go_enter Tryd.func29, Tryd.ntmps29
      go_wp2_with (first | ((with_reducible refine gate_dst (N := 2) rfl ?_); refine box_event ?hg (N := 2) ?hd (cs := #[.int .i64 a0_0, .string a0_1, .int .i64 a0_2, .slice A0_3 l0_3.length c0_3]) (t := 24) ?hr ?_; (case hd => rfl); (case hg => rfl); (case hr => first | (go_simp; done) | (go_simp; rfl)); intro gb141 hg w8 hbox hb; have n0_ := Aside0.mk (below_step (by repeat (first | (with_reducible first | exact HB.out | apply below_alloc | apply pw_below_drewN | apply below_drew1) | exact HB.out)) hb); have n1_ := Aside0.mk (hbox); have n2_ := Aside0.mk ((by rw [hg]; exact (below_size (by repeat (first | (with_reducible first | exact HB.out | apply below_alloc | apply pw_below_drewN | apply below_drew1) | exact HB.out))) : w.heap.size ≤ gb141)); have n3_ := Aside0.mk ((by rw [hg]; exact (below_size (by repeat (first | (with_reducible first | exact HB.out | apply below_alloc | apply pw_below_drewN | apply below_drew1) | exact HB.out))) : w.heap.size ≤ gb141)); clear HB; have HB := n0_; have BK141 := n1_; have GW141 := n2_; have GE141 := n3_; clear n0_ n1_ n2_ n3_; clear hb hbox hg) | ((with_reducible refine gate_dst (N := 4) rfl ?_); refine box_event ?hg (N := 4) ?hd (cs := #[.int .i64 0, .string (⟨#[]⟩ : ByteArray), .int .i64 0, .slice none 0 0]) (t := 24) ?hr ?_; (case hd => rfl); (case hg => rfl); (case hr => first | (go_simp; done) | (go_simp; rfl)); intro gb142 hg w9 hbox hb; have n0_ := Aside0.mk (blk_below (g := gb141) (o := .cells #[.int .i64 a0_0, .string a0_1, .int .i64 a0_2, .slice A0_3 l0_3.length c0_3] 24 (0, 0)) (by (with_reducible repeat (first | refine blk_drewN ?_ _ | refine blk_drew ?_ | refine blk_alloc ?_ _)); exact BK141.out) hb); have n1_ := Aside0.mk (below_step (by repeat (first | (with_reducible first | exact HB.out | apply below_alloc | apply pw_below_drewN | apply below_drew1 | refine below_set ?_ GE141.out) | exact HB.out)) hb); have n2_ := Aside0.mk (hbox); have n3_ := Aside0.mk ((by rw [hg]; exact (below_size (by repeat (first | (with_reducible first | exact HB.out | apply below_alloc | apply pw_below_drewN | apply below_drew1 | refine below_set ?_ GE141.out) | exact HB.out))) : w.heap.size ≤ gb142)); have n4_ := Aside0.mk ((by rw [hg]; exact (below_size (by repeat (first | (with_reducible first | exact HB.out | apply below_alloc | apply pw_below_drewN | apply below_drew1 | refine below_set ?_ GE141.out) | exact HB.out))) : w.heap.size ≤ gb142)); have n5_ := Aside0.mk ((by rw [hg]; exact Nat.ne_of_lt (blk_lt (g := gb141) (o := .cells #[.int .i64 a0_0, .string a0_1, .int .i64 a0_2, .slice A0_3 l0_3.length c0_3] 24 (0, 0)) (by (with_reducible repeat (first | refine blk_drewN ?_ _ | refine blk_drew ?_ | refine blk_alloc ?_ _)); exact BK141.out)) : gb141 ≠ gb142)); have n6_ := Aside0.mk ((by rw [hg]; exact Nat.ne_of_gt (blk_lt (g := gb141) (o := .cells #[.int .i64 a0_0, .string a0_1, .int .i64 a0_2, .slice A0_3 l0_3.length c0_3] 24 (0, 0)) (by (with_reducible repeat (first | refine blk_drewN ?_ _ | refine blk_drew ?_ | refine blk_alloc ?_ _)); exact BK141.out)) : gb142 ≠ gb141)); clear BK141; clear HB; have BK141 := n0_; have HB := n1_; have BK142 := n2_; have GW142 := n3_; have GE142 := n4_; have NB141_142 := n5_; have NB142_141 := n6_; clear n0_ n1_ n2_ n3_ n4_ n5_ n6_; clear hb hbox hg; have hnb10 := NB141_142.out; have hnc10 := NB142_141.out; have hcz11_0 : w9.cell? ⟨gb141, 0, none⟩ = some (.int .i64 a0_0) := (blk_cell BK141.out 0).trans rfl; have hcz11_1 : w9.cell? ⟨gb141, 1, none⟩ = some (.string a0_1) := (blk_cell BK141.out 1).trans rfl; have hcz11_2 : w9.cell? ⟨gb141, 2, none⟩ = some (.int .i64 a0_2) := (blk_cell BK141.out 2).trans rfl; have hcz11_3 : w9.cell? ⟨gb141, 3, none⟩ = some (.slice A0_3 l0_3.length c0_3) := (blk_cell BK141.out 3).trans rfl; have hfz11_0 := blk_frozen BK141.out 0; have hfz11_1 := blk_frozen BK141.out 1; have hfz11_2 := blk_frozen BK141.out 2; have hfz11_3 := blk_frozen BK141.out 3) | ((with_reducible refine gate_callee (f := 27) rfl ?_); refine goesL_ (some 9) rfl rfl Tryd.func27 (by kernel_rfl) rfl #[.agg #[.int .i64 a0_0, .string a0_1, .int .i64 a0_2, .slice A0_3 l0_3.length c0_3]] rfl (by (try simp only [List.map_toArray, List.map_cons, List.map_nil]); first | done | rfl | (simp only [List.length_drop, List.length_take]; rfl)) ?_; (with_reducible refine (node_Valid.calls a0_0 a0_1 a0_2 _ _ l0_3 true _ ?side1 ?side2 A3.out).mono ?_); (case side1 => repeat (first | exact (Kd.C_below HR0_3.out HB.out) | (with_reducible refine Kd.C_alloc ?_ _) | (with_reducible refine Kd.C_drewN ?_ _) | (with_reducible refine Kd.C_drew ?_))); (case side2 => exact HC0_3.out); rintro e w12 ⟨rfl, hb⟩; refine ⟨_, rfl, ?_⟩; have n0_ := Aside0.mk (blk_below (g := gb141) (o := .cells #[.int .i64 a0_0, .string a0_1, .int .i64 a0_2, .slice A0_3 l0_3.length c0_3] 24 (0, 0)) (by (with_reducible repeat (first | refine blk_drewN ?_ _ | refine blk_drew ?_ | refine blk_alloc ?_ _)); exact BK141.out) hb); have n1_ := Aside0.mk (blk_below (g := gb142) (o := .cells #[.int .i64 0, .string (⟨#[]⟩ : ByteArray), .int .i64 0, .slice none 0 0] 24 (0, 0)) (by (with_reducible repeat (first | refine blk_drewN ?_ _ | refine blk_drew ?_ | refine blk_alloc ?_ _)); exact BK142.out) hb); have n2_ := Aside0.mk (below_step (by repeat (first | (with_reducible first | exact HB.out | apply below_alloc | apply pw_below_drewN | apply below_drew1 | refine below_set ?_ GE141.out | refine below_set ?_ GE142.out) | exact HB.out)) hb); clear BK141; clear BK142; clear HB; have BK141 := n0_; have BK142 := n1_; have HB := n2_; clear n0_ n1_ n2_; (try clear hb); (try clear hb2); (try clear hk); (try clear hi); have hcz13_0 : w12.cell? ⟨gb141, 0, none⟩ = some (.int .i64 a0_0) := (blk_cell BK141.out 0).trans rfl; have hcz13_1 : w12.cell? ⟨gb141, 1, none⟩ = some (.string a0_1) := (blk_cell BK141.out 1).trans rfl; have hcz13_2 : w12.cell? ⟨gb141, 2, none⟩ = some (.int .i64 a0_2) := (blk_cell BK141.out 2).trans rfl; have hcz13_3 : w12.cell? ⟨gb141, 3, none⟩ = some (.slice A0_3 l0_3.length c0_3) := (blk_cell BK141.out 3).trans rfl; have hfz13_0 := blk_frozen BK141.out 0; have hfz13_1 := blk_frozen BK141.out 1; have hfz13_2 := blk_frozen BK141.out 2; have hfz13_3 := blk_frozen BK141.out 3) | ((with_reducible refine gate_callee (f := 46) rfl ?_); refine goesL_ (some 15) rfl rfl Tryd.func46 (by kernel_rfl) rfl #[.agg #[.int .i64 a0_0, .string a0_1, .int .i64 a0_2, .slice A0_3 l0_3.length c0_3], .slice A1 l1.length c1] rfl (by (try simp only [List.map_toArray, List.map_cons, List.map_nil]); first | done | rfl | (simp only [List.length_drop, List.length_take]; rfl)) ?_; (with_reducible refine (node_row.calls a0_0 a0_1 a0_2 (fun k_ => k_ < w.heap.size) _ _ l0_3 (fun k_ => k_ < w.heap.size) _ _ l1 t144 t145 t146 t147 true _ ?side1 ?side2 A5.out).mono ?_); (case side1 => exact Kd.V_mk HC0_3.out (Kd.F_below (Kd.C_F k24_heap HR0_3.out) (by repeat (first | (with_reducible first | exact HB.out | apply below_alloc | apply pw_below_drewN | apply below_drew1 | refine below_set ?_ GE141.out | refine below_set ?_ GE142.out) | exact HB.out)))); (case side2 => exact Kd.V_mk HC1.out (Kd.F_below (Kd.C_F (Kd.heap_int .i64) HR1.out) (by repeat (first | (with_reducible first | exact HB.out | apply below_alloc | apply pw_below_drewN | apply below_drew1 | refine below_set ?_ GE141.out | refine below_set ?_ GE142.out) | exact HB.out)))); rintro e w14 ⟨v148, rfl, ho0, hb⟩; refine ⟨_, rfl, ?_⟩; have n0_ := Aside0.mk (Kd.V_lower (Kd.V_mono (ok' := fun k_ => k_ ≠ gb141 ∧ k_ ≠ gb142) ho0 (fun k_ hk_ => ⟨Or.elim hk_ (fun hs_ => Or.elim hs_ (fun hs_ => fun e_ => Nat.not_le.2 hs_ (by rw [e_]; exact GW141.out)) (fun hs_ => fun e_ => Nat.not_le.2 hs_ (by rw [e_]; exact GW141.out))) (fun hn_ => (Kd.freshB (g := gb141) (o := .cells #[.int .i64 a0_0, .string a0_1, .int .i64 a0_2, .slice A0_3 l0_3.length c0_3] 24 (0, 0)) (by (with_reducible repeat (first | refine blk_drewN ?_ _ | refine blk_drew ?_ | refine blk_alloc ?_ _)); exact BK141.out) k_ hn_)), Or.elim hk_ (fun hs_ => Or.elim hs_ (fun hs_ => fun e_ => Nat.not_le.2 hs_ (by rw [e_]; exact GW142.out)) (fun hs_ => fun e_ => Nat.not_le.2 hs_ (by rw [e_]; exact GW142.out))) (fun hn_ => (Kd.freshB (g := gb142) (o := .cells #[.int .i64 0, .string (⟨#[]⟩ : ByteArray), .int .i64 0, .slice none 0 0] 24 (0, 0)) (by (with_reducible repeat (first | refine blk_drewN ?_ _ | refine blk_drew ?_ | refine blk_alloc ?_ _)); exact BK142.out) k_ hn_))⟩)) (below_size (by repeat (first | (with_reducible first | exact HB.out | apply below_alloc | apply pw_below_drewN | apply below_drew1 | refine below_set ?_ GE141.out | refine below_set ?_ GE142.out) | exact HB.out)))); have n1_ := Aside0.mk (blk_below (g := gb141) (o := .cells #[.int .i64 a0_0, .string a0_1, .int .i64 a0_2, .slice A0_3 l0_3.length c0_3] 24 (0, 0)) (by (with_reducible repeat (first | refine blk_drewN ?_ _ | refine blk_drew ?_ | refine blk_alloc ?_ _)); exact BK141.out) hb); have n2_ := Aside0.mk (blk_below (g := gb142) (o := .cells #[.int .i64 0, .string (⟨#[]⟩ : ByteArray), .int .i64 0, .slice none 0 0] 24 (0, 0)) (by (with_reducible repeat (first | refine blk_drewN ?_ _ | refine blk_drew ?_ | refine blk_alloc ?_ _)); exact BK142.out) hb); have n3_ := Aside0.mk (below_step (by repeat (first | (with_reducible first | exact HB.out | apply below_alloc | apply pw_below_drewN | apply below_drew1 | refine below_set ?_ GE141.out | refine below_set ?_ GE142.out) | exact HB.out)) hb); clear BK141; clear BK142; clear HB; have HO149 := n0_; have BK141 := n1_; have BK142 := n2_; have HB := n3_; clear n0_ n1_ n2_ n3_; (try clear hb); (try clear hb2); (try clear hk); (try clear hi); (try clear ho0)) | ((with_reducible refine gate_dst (N := 6) rfl ?_); refine box_event ?hg (N := 6) ?hd (cs := #[.int .i64 0, .string (⟨#[]⟩ : ByteArray), .int .i64 0, .slice none 0 0]) (t := 24) ?hr ?_; (case hd => rfl); (case hg => rfl); (case hr => first | (go_simp; done) | (go_simp; rfl)); intro gb151 hg w15 hbox hb; have n0_ := Aside0.mk (Kd.V_below (Kd.V_elderB (by (with_reducible repeat (first | apply Kd.V_alloc | apply Kd.V_drewN | apply Kd.V_drew)); exact HO149.out) gb151 (Nat.le_of_eq hg.symm)) hb); have n1_ := Aside0.mk (blk_below (g := gb141) (o := .cells #[.int .i64 a0_0, .string a0_1, .int .i64 a0_2, .slice A0_3 l0_3.length c0_3] 24 (0, 0)) (by (with_reducible repeat (first | refine blk_drewN ?_ _ | refine blk_drew ?_ | refine blk_alloc ?_ _)); exact BK141.out) hb); have n2_ := Aside0.mk (blk_below (g := gb142) (o := .cells #[.int .i64 0, .string (⟨#[]⟩ : ByteArray), .int .i64 0, .slice none 0 0] 24 (0, 0)) (by (with_reducible repeat (first | refine blk_drewN ?_ _ | refine blk_drew ?_ | refine blk_alloc ?_ _)); exact BK142.out) hb); have n3_ := Aside0.mk (below_step (by repeat (first | (with_reducible first | exact HB.out | apply below_alloc | apply pw_below_drewN | apply below_drew1 | refine below_set ?_ GE141.out | refine below_set ?_ GE142.out) | exact HB.out)) hb); have n4_ := Aside0.mk (hbox); have n5_ := Aside0.mk ((by rw [hg]; exact (below_size (by repeat (first | (with_reducible first | exact HB.out | apply below_alloc | apply pw_below_drewN | apply below_drew1 | refine below_set ?_ GE141.out | refine below_set ?_ GE142.out) | exact HB.out))) : w.heap.size ≤ gb151)); have n6_ := Aside0.mk ((by rw [hg]; exact (below_size (by repeat (first | (with_reducible first | exact HB.out | apply below_alloc | apply pw_below_drewN | apply below_drew1 | refine below_set ?_ GE141.out | refine below_set ?_ GE142.out) | exact HB.out))) : w.heap.size ≤ gb151)); have n7_ := Aside0.mk ((by rw [hg]; exact Nat.ne_of_lt (blk_lt (g := gb141) (o := .cells #[.int .i64 a0_0, .string a0_1, .int .i64 a0_2, .slice A0_3 l0_3.length c0_3] 24 (0, 0)) (by (with_reducible repeat (first | refine blk_drewN ?_ _ | refine blk_drew ?_ | refine blk_alloc ?_ _)); exact BK141.out)) : gb141 ≠ gb151)); have n8_ := Aside0.mk ((by rw [hg]; exact Nat.ne_of_gt (blk_lt (g := gb141) (o := .cells #[.int .i64 a0_0, .string a0_1, .int .i64 a0_2, .slice A0_3 l0_3.length c0_3] 24 (0, 0)) (by (with_reducible repeat (first | refine blk_drewN ?_ _ | refine blk_drew ?_ | refine blk_alloc ?_ _)); exact BK141.out)) : gb151 ≠ gb141)); have n9_ := Aside0.mk ((by rw [hg]; exact Nat.ne_of_lt (blk_lt (g := gb142) (o := .cells #[.int .i64 0, .string (⟨#[]⟩ : ByteArray), .int .i64 0, .slice none 0 0] 24 (0, 0)) (by (with_reducible repeat (first | refine blk_drewN ?_ _ | refine blk_drew ?_ | refine blk_alloc ?_ _)); exact BK142.out)) : gb142 ≠ gb151)); have n10_ := Aside0.mk ((by rw [hg]; exact Nat.ne_of_gt (blk_lt (g := gb142) (o := .cells #[.int .i64 0, .string (⟨#[]⟩ : ByteArray), .int .i64 0, .slice none 0 0] 24 (0, 0)) (by (with_reducible repeat (first | refine blk_drewN ?_ _ | refine blk_drew ?_ | refine blk_alloc ?_ _)); exact BK142.out)) : gb151 ≠ gb142)); clear HO149; clear BK141; clear BK142; clear HB; have HO149 := n0_; have BK141 := n1_; have BK142 := n2_; have HB := n3_; have BK151 := n4_; have GW151 := n5_; have GE151 := n6_; have NB141_151 := n7_; have NB151_141 := n8_; have NB142_151 := n9_; have NB151_142 := n10_; clear n0_ n1_ n2_ n3_ n4_ n5_ n6_ n7_ n8_ n9_ n10_; clear hb hbox hg; have hnb16 := NB151_141.out; have hnc16 := NB141_151.out; have hnb17 := NB151_142.out; have hnc17 := NB142_151.out; have hcz18_0 : w15.cell? ⟨gb151, 0, none⟩ = some (.int .i64 0) := (blk_cell BK151.out 0).trans rfl; have hcz18_1 : w15.cell? ⟨gb151, 1, none⟩ = some (.string (⟨#[]⟩ : ByteArray)) := (blk_cell BK151.out 1).trans rfl; have hcz18_2 : w15.cell? ⟨gb151, 2, none⟩ = some (.int .i64 0) := (blk_cell BK151.out 2).trans rfl; have hcz18_3 : w15.cell? ⟨gb151, 3, none⟩ = some (.slice none 0 0) := (blk_cell BK151.out 3).trans rfl; have hfz18_0 := blk_frozen BK151.out 0; have hfz18_1 := blk_frozen BK151.out 1; have hfz18_2 := blk_frozen BK151.out 2; have hfz18_3 := blk_frozen BK151.out 3; obtain ⟨Ao19, co19, eo19⟩ := Kd.V_slice HO149.out; subst eo19) | ((with_reducible refine gate_callee (f := 47) rfl ?_); refine goesL_ (some 22) rfl rfl Tryd.func47 (by kernel_rfl) rfl #[.agg #[.int .i64 t144, .string t145, .int .i64 t146, .slice Ao19 t147.length co19]] rfl (by (try simp only [List.map_toArray, List.map_cons, List.map_nil]); first | done | rfl | (simp only [List.length_drop, List.length_take]; rfl)) ?_; (with_reducible refine (node_clone.calls t144 t145 t146 _ _ t147 t152 t153 t154 t155 _ ?side1 ?side2 A7.out).mono ?_); (case side1 => refine (Kd.V_reads' (e := 24) (base := w.heap.size) (ok := fun k_ => ((k_ ≠ gb141 ∧ k_ ≠ gb142) ∧ k_ ≠ gb151)) (n := t147.length) (c := co19) ?_).2.2; exact (by (with_reducible repeat (first | apply Kd.V_alloc | apply Kd.V_drewN | apply Kd.V_drew)); exact (Kd.V_mono (Kd.V_far (p := ⟨gb151, 3, none⟩) (Kd.V_far (p := ⟨gb151, 2, none⟩) (Kd.V_far (p := ⟨gb151, 1, none⟩) (Kd.V_far (p := ⟨gb151, 0, none⟩) (Kd.V_mono HO149.out (fun k_ hk => (⟨hk, hk.2⟩ : _ ∧ k_ ≠ gb151))) (fun _ hk => hk.2) (.int .i64 t144)) (fun _ hk => hk.2) (.string t145)) (fun _ hk => hk.2) (.int .i64 t146)) (fun _ hk => hk.2) (.slice Ao19 t147.length co19)) (fun _ h_ => h_.1)))); (case side2 => exact (Kd.V_reads' HO149.out).2.1); rintro e w20 ⟨v156, rfl, ho0, hb⟩; refine ⟨_, rfl, ?_⟩; have n0_ := Aside0.mk (Kd.V_elder' (by (with_reducible repeat (first | apply Kd.V_alloc | apply Kd.V_drewN | apply Kd.V_drew)); exact (Kd.V_mono (Kd.V_far (p := ⟨gb151, 3, none⟩) (Kd.V_far (p := ⟨gb151, 2, none⟩) (Kd.V_far (p := ⟨gb151, 1, none⟩) (Kd.V_far (p := ⟨gb151, 0, none⟩) (Kd.V_mono HO149.out (fun k_ hk => (⟨hk, hk.2⟩ : _ ∧ k_ ≠ gb151))) (fun _ hk => hk.2) (.int .i64 t144)) (fun _ hk => hk.2) (.string t145)) (fun _ hk => hk.2) (.int .i64 t146)) (fun _ hk => hk.2) (.slice Ao19 t147.length co19)) (fun _ h_ => h_.1))) (Kd.R_base ho0) hb); have n1_ := Aside0.mk (Kd.R_lower (Kd.R_newB (Kd.R_newB (Kd.R_newB ho0 (g := gb141) (o := .cells #[.int .i64 a0_0, .string a0_1, .int .i64 a0_2, .slice A0_3 l0_3.length c0_3] 24 (0, 0)) (by (with_reducible repeat (first | refine blk_drewN ?_ _ | refine blk_drew ?_ | refine blk_alloc ?_ _)); refine blk_far ?_ NB141_151.out _; (with_reducible repeat (first | refine blk_drewN ?_ _ | refine blk_drew ?_ | refine blk_alloc ?_ _)); refine blk_far ?_ NB141_151.out _; (with_reducible repeat (first | refine blk_drewN ?_ _ | refine blk_drew ?_ | refine blk_alloc ?_ _)); refine blk_far ?_ NB141_151.out _; (with_reducible repeat (first | refine blk_drewN ?_ _ | refine blk_drew ?_ | refine blk_alloc ?_ _)); refine blk_far ?_ NB141_151.out _; (with_reducible repeat (first | refine blk_drewN ?_ _ | refine blk_drew ?_ | refine blk_alloc ?_ _)); exact BK141.out)) (g := gb142) (o := .cells #[.int .i64 0, .string (⟨#[]⟩ : ByteArray), .int .i64 0, .slice none 0 0] 24 (0, 0)) (by (with_reducible repeat (first | refine blk_drewN ?_ _ | refine blk_drew ?_ | refine blk_alloc ?_ _)); refine blk_far ?_ NB142_151.out _; (with_reducible repeat (first | refine blk_drewN ?_ _ | refine blk_drew ?_ | refine blk_alloc ?_ _)); refine blk_far ?_ NB142_151.out _; (with_reducible repeat (first | refine blk_drewN ?_ _ | refine blk_drew ?_ | refine blk_alloc ?_ _)); refine blk_far ?_ NB142_151.out _; (with_reducible repeat (first | refine blk_drewN ?_ _ | refine blk_drew ?_ | refine blk_alloc ?_ _)); refine blk_far ?_ NB142_151.out _; (with_reducible repeat (first | refine blk_drewN ?_ _ | refine blk_drew ?_ | refine blk_alloc ?_ _)); exact BK142.out)) (g := gb151) (o := .cells #[.int .i64 t144, .string t145, .int .i64 t146, .slice Ao19 t147.length co19] 24 (0, 0)) (by (with_reducible repeat (first | refine blk_drewN ?_ _ | refine blk_drew ?_ | refine blk_alloc ?_ _)); refine blk_put (cs := #[.int .i64 t144, .string t145, .int .i64 t146, .slice none 0 0]) ?_ 3 _ rfl; (with_reducible repeat (first | refine blk_drewN ?_ _ | refine blk_drew ?_ | refine blk_alloc ?_ _)); refine blk_put (cs := #[.int .i64 t144, .string t145, .int .i64 0, .slice none 0 0]) ?_ 2 _ rfl; (with_reducible repeat (first | refine blk_drewN ?_ _ | refine blk_drew ?_ | refine blk_alloc ?_ _)); refine blk_put (cs := #[.int .i64 t144, .string (⟨#[]⟩ : ByteArray), .int .i64 0, .slice none 0 0]) ?_ 1 _ rfl; (with_reducible repeat (first | refine blk_drewN ?_ _ | refine blk_drew ?_ | refine blk_alloc ?_ _)); refine blk_put (cs := #[.int .i64 0, .string (⟨#[]⟩ : ByteArray), .int .i64 0, .slice none 0 0]) ?_ 0 _ rfl; (with_reducible repeat (first | refine blk_drewN ?_ _ | refine blk_drew ?_ | refine blk_alloc ?_ _)); exact BK151.out)) (below_size (by repeat (first | (with_reducible first | exact HB.out | apply below_alloc | apply pw_below_drewN | apply below_drew1 | refine below_set ?_ GE141.out | refine below_set ?_ GE142.out | refine below_set ?_ GE151.out) | exact HB.out)))); have n2_ := Aside0.mk (blk_below (g := gb141) (o := .cells #[.int .i64 a0_0, .string a0_1, .int .i64 a0_2, .slice A0_3 l0_3.length c0_3] 24 (0, 0)) (by (with_reducible repeat (first | refine blk_drewN ?_ _ | refine blk_drew ?_ | refine blk_alloc ?_ _)); refine blk_far ?_ NB141_151.out _; (with_reducible repeat (first | refine blk_drewN ?_ _ | refine blk_drew ?_ | refine blk_alloc ?_ _)); refine blk_far ?_ NB141_151.out _; (with_reducible repeat (first | refine blk_drewN ?_ _ | refine blk_drew ?_ | refine blk_alloc ?_ _)); refine blk_far ?_ NB141_151.out _; (with_reducible repeat (first | refine blk_drewN ?_ _ | refine blk_drew ?_ | refine blk_alloc ?_ _)); refine blk_far ?_ NB141_151.out _; (with_reducible repeat (first | refine blk_drewN ?_ _ | refine blk_drew ?_ | refine blk_alloc ?_ _)); exact BK141.out) hb); have n3_ := Aside0.mk (blk_below (g := gb142) (o := .cells #[.int .i64 0, .string (⟨#[]⟩ : ByteArray), .int .i64 0, .slice none 0 0] 24 (0, 0)) (by (with_reducible repeat (first | refine blk_drewN ?_ _ | refine blk_drew ?_ | refine blk_alloc ?_ _)); refine blk_far ?_ NB142_151.out _; (with_reducible repeat (first | refine blk_drewN ?_ _ | refine blk_drew ?_ | refine blk_alloc ?_ _)); refine blk_far ?_ NB142_151.out _; (with_reducible repeat (first | refine blk_drewN ?_ _ | refine blk_drew ?_ | refine blk_alloc ?_ _)); refine blk_far ?_ NB142_151.out _; (with_reducible repeat (first | refine blk_drewN ?_ _ | refine blk_drew ?_ | refine blk_alloc ?_ _)); refine blk_far ?_ NB142_151.out _; (with_reducible repeat (first | refine blk_drewN ?_ _ | refine blk_drew ?_ | refine blk_alloc ?_ _)); exact BK142.out) hb); have n4_ := Aside0.mk (blk_below (g := gb151) (o := .cells #[.int .i64 t144, .string t145, .int .i64 t146, .slice Ao19 t147.length co19] 24 (0, 0)) (by (with_reducible repeat (first | refine blk_drewN ?_ _ | refine blk_drew ?_ | refine blk_alloc ?_ _)); refine blk_put (cs := #[.int .i64 t144, .string t145, .int .i64 t146, .slice none 0 0]) ?_ 3 _ rfl; (with_reducible repeat (first | refine blk_drewN ?_ _ | refine blk_drew ?_ | refine blk_alloc ?_ _)); refine blk_put (cs := #[.int .i64 t144, .string t145, .int .i64 0, .slice none 0 0]) ?_ 2 _ rfl; (with_reducible repeat (first | refine blk_drewN ?_ _ | refine blk_drew ?_ | refine blk_alloc ?_ _)); refine blk_put (cs := #[.int .i64 t144, .string (⟨#[]⟩ : ByteArray), .int .i64 0, .slice none 0 0]) ?_ 1 _ rfl; (with_reducible repeat (first | refine blk_drewN ?_ _ | refine blk_drew ?_ | refine blk_alloc ?_ _)); refine blk_put (cs := #[.int .i64 0, .string (⟨#[]⟩ : ByteArray), .int .i64 0, .slice none 0 0]) ?_ 0 _ rfl; (with_reducible repeat (first | refine blk_drewN ?_ _ | refine blk_drew ?_ | refine blk_alloc ?_ _)); exact BK151.out) hb); have n5_ := Aside0.mk (below_step (by repeat (first | (with_reducible first | exact HB.out | apply below_alloc | apply pw_below_drewN | apply below_drew1 | refine below_set ?_ GE141.out | refine below_set ?_ GE142.out | refine below_set ?_ GE151.out) | exact HB.out)) hb); clear HO149; clear BK141; clear BK142; clear BK151; clear HB; have HO149 := n0_; have HO157 := n1_; have BK141 := n2_; have BK142 := n3_; have BK151 := n4_; have HB := n5_; clear n0_ n1_ n2_ n3_ n4_ n5_; (try clear hb); (try clear hb2); (try clear hk); (try clear hi); (try clear ho0); have hcz21_0 : w20.cell? ⟨gb142, 0, none⟩ = some (.int .i64 0) := (blk_cell BK142.out 0).trans rfl; have hcz21_1 : w20.cell? ⟨gb142, 1, none⟩ = some (.string (⟨#[]⟩ : ByteArray)) := (blk_cell BK142.out 1).trans rfl; have hcz21_2 : w20.cell? ⟨gb142, 2, none⟩ = some (.int .i64 0) := (blk_cell BK142.out 2).trans rfl; have hcz21_3 : w20.cell? ⟨gb142, 3, none⟩ = some (.slice none 0 0) := (blk_cell BK142.out 3).trans rfl; have hfz21_0 := blk_frozen BK142.out 0; have hfz21_1 := blk_frozen BK142.out 1; have hfz21_2 := blk_frozen BK142.out 2; have hfz21_3 := blk_frozen BK142.out 3; obtain ⟨Ao22, co22, eo22⟩ := Kd.R_slice HO157.out; subst eo22))
      refine bodyPost_ret (results_ct rfl _ _ gb142 24 #[.int .i64 t152, .string t153, .int .i64 t154, .slice Ao22 t155.length co22] (0, 0) _ rfl (by (with_reducible repeat (first | refine blk_drewN ?_ _ | refine blk_drew ?_ | refine blk_alloc ?_ _)); refine blk_put (cs := #[.int .i64 t152, .string t153, .int .i64 t154, .slice none 0 0]) ?_ 3 _ rfl; (with_reducible repeat (first | refine blk_drewN ?_ _ | refine blk_drew ?_ | refine blk_alloc ?_ _)); refine blk_put (cs := #[.int .i64 t152, .string t153, .int .i64 0, .slice none 0 0]) ?_ 2 _ rfl; (with_reducible repeat (first | refine blk_drewN ?_ _ | refine blk_drew ?_ | refine blk_alloc ?_ _)); refine blk_put (cs := #[.int .i64 t152, .string (⟨#[]⟩ : ByteArray), .int .i64 0, .slice none 0 0]) ?_ 1 _ rfl; (with_reducible repeat (first | refine blk_drewN ?_ _ | refine blk_drew ?_ | refine blk_alloc ?_ _)); refine blk_put (cs := #[.int .i64 0, .string (⟨#[]⟩ : ByteArray), .int .i64 0, .slice none 0 0]) ?_ 0 _ rfl; (with_reducible repeat (first | refine blk_drewN ?_ _ | refine blk_drew ?_ | refine blk_alloc ?_ _)); exact BK142.out) Tryd.underlying24 rfl (by kernel_rfl)) rfl ?_
      exact ⟨_, by first | rfl | (simp [errW_none, errW_some] <;> rfl) | (simp [*, errW_none, errW_some] <;> rfl), by (with_reducible repeat (first | apply Kd.R_alloc | apply Kd.R_drewN | apply Kd.R_drew)); exact Kd.R_mono (Kd.R_far (p := ⟨gb142, 3, none⟩) (Kd.R_far (p := ⟨gb142, 2, none⟩) (Kd.R_far (p := ⟨gb142, 1, none⟩) (Kd.R_far (p := ⟨gb142, 0, none⟩) (Kd.R_mono HO157.out (fun k_ hk => (⟨hk, hk.1.2⟩ : _ ∧ k_ ≠ gb142))) (fun _ hk => hk.2) (.int .i64 t152)) (fun _ hk => hk.2) (.string t153)) (fun _ hk => hk.2) (.int .i64 t154)) (fun _ hk => hk.2) (.slice Ao22 t155.length co22)) (fun _ hk => trivial), by repeat (first | (with_reducible first | exact HB.out | apply below_alloc | apply pw_below_drewN | apply below_drew1 | refine below_set ?_ GE141.out | refine below_set ?_ GE142.out | refine below_set ?_ GE151.out) | exact HB.out)⟩
    · replace c6 := Bool.eq_false_iff.mpr c6
      subst c6
      have H1 : (some (0, (⟨#[]⟩ : ByteArray), 0, ([] : List (S24)), 8)) = some (r1, r2, r3, r4, r5) := by rw [if_neg (show ¬ (false = true) by decide)] at H; exact H
      clear H
      have H := H1
      clear H1
      simp only [Option.some.injEq, Prod.mk.injEq] at H
      obtain ⟨rfl, rfl, rfl, rfl, rfl⟩ := H
      go_enter Tryd.func29, Tryd.ntmps29
      go_wp2_with (first | ((with_reducible refine gate_dst (N := 2) rfl ?_); refine box_event ?hg (N := 2) ?hd (cs := #[.int .i64 a0_0, .string a0_1, .int .i64 a0_2, .slice A0_3 l0_3.length c0_3]) (t := 24) ?hr ?_; (case hd => rfl); (case hg => rfl); (case hr => first | (go_simp; done) | (go_simp; rfl)); intro gb141 hg w23 hbox hb; have n0_ := Aside0.mk (below_step (by repeat (first | (with_reducible first | exact HB.out | apply below_alloc | apply pw_below_drewN | apply below_drew1) | exact HB.out)) hb); have n1_ := Aside0.mk (hbox); have n2_ := Aside0.mk ((by rw [hg]; exact (below_size (by repeat (first | (with_reducible first | exact HB.out | apply below_alloc | apply pw_below_drewN | apply below_drew1) | exact HB.out))) : w.heap.size ≤ gb141)); have n3_ := Aside0.mk ((by rw [hg]; exact (below_size (by repeat (first | (with_reducible first | exact HB.out | apply below_alloc | apply pw_below_drewN | apply below_drew1) | exact HB.out))) : w.heap.size ≤ gb141)); clear HB; have HB := n0_; have BK141 := n1_; have GW141 := n2_; have GE141 := n3_; clear n0_ n1_ n2_ n3_; clear hb hbox hg) | ((with_reducible refine gate_dst (N := 4) rfl ?_); refine box_event ?hg (N := 4) ?hd (cs := #[.int .i64 0, .string (⟨#[]⟩ : ByteArray), .int .i64 0, .slice none 0 0]) (t := 24) ?hr ?_; (case hd => rfl); (case hg => rfl); (case hr => first | (go_simp; done) | (go_simp; rfl)); intro gb142 hg w24 hbox hb; have n0_ := Aside0.mk (blk_below (g := gb141) (o := .cells #[.int .i64 a0_0, .string a0_1, .int .i64 a0_2, .slice A0_3 l0_3.length c0_3] 24 (0, 0)) (by (with_reducible repeat (first | refine blk_drewN ?_ _ | refine blk_drew ?_ | refine blk_alloc ?_ _)); exact BK141.out) hb); have n1_ := Aside0.mk (below_step (by repeat (first | (with_reducible first | exact HB.out | apply below_alloc | apply pw_below_drewN | apply below_drew1 | refine below_set ?_ GE141.out) | exact HB.out)) hb); have n2_ := Aside0.mk (hbox); have n3_ := Aside0.mk ((by rw [hg]; exact (below_size (by repeat (first | (with_reducible first | exact HB.out | apply below_alloc | apply pw_below_drewN | apply below_drew1 | refine below_set ?_ GE141.out) | exact HB.out))) : w.heap.size ≤ gb142)); have n4_ := Aside0.mk ((by rw [hg]; exact (below_size (by repeat (first | (with_reducible first | exact HB.out | apply below_alloc | apply pw_below_drewN | apply below_drew1 | refine below_set ?_ GE141.out) | exact HB.out))) : w.heap.size ≤ gb142)); have n5_ := Aside0.mk ((by rw [hg]; exact Nat.ne_of_lt (blk_lt (g := gb141) (o := .cells #[.int .i64 a0_0, .string a0_1, .int .i64 a0_2, .slice A0_3 l0_3.length c0_3] 24 (0, 0)) (by (with_reducible repeat (first | refine blk_drewN ?_ _ | refine blk_drew ?_ | refine blk_alloc ?_ _)); exact BK141.out)) : gb141 ≠ gb142)); have n6_ := Aside0.mk ((by rw [hg]; exact Nat.ne_of_gt (blk_lt (g := gb141) (o := .cells #[.int .i64 a0_0, .string a0_1, .int .i64 a0_2, .slice A0_3 l0_3.length c0_3] 24 (0, 0)) (by (with_reducible repeat (first | refine blk_drewN ?_ _ | refine blk_drew ?_ | refine blk_alloc ?_ _)); exact BK141.out)) : gb142 ≠ gb141)); clear BK141; clear HB; have BK141 := n0_; have HB := n1_; have BK142 := n2_; have GW142 := n3_; have GE142 := n4_; have NB141_142 := n5_; have NB142_141 := n6_; clear n0_ n1_ n2_ n3_ n4_ n5_ n6_; clear hb hbox hg; have hnb25 := NB141_142.out; have hnc25 := NB142_141.out; have hcz26_0 : w24.cell? ⟨gb141, 0, none⟩ = some (.int .i64 a0_0) := (blk_cell BK141.out 0).trans rfl; have hcz26_1 : w24.cell? ⟨gb141, 1, none⟩ = some (.string a0_1) := (blk_cell BK141.out 1).trans rfl; have hcz26_2 : w24.cell? ⟨gb141, 2, none⟩ = some (.int .i64 a0_2) := (blk_cell BK141.out 2).trans rfl; have hcz26_3 : w24.cell? ⟨gb141, 3, none⟩ = some (.slice A0_3 l0_3.length c0_3) := (blk_cell BK141.out 3).trans rfl; have hfz26_0 := blk_frozen BK141.out 0; have hfz26_1 := blk_frozen BK141.out 1; have hfz26_2 := blk_frozen BK141.out 2; have hfz26_3 := blk_frozen BK141.out 3) | ((with_reducible refine gate_callee (f := 27) rfl ?_); refine goesL_ (some 9) rfl rfl Tryd.func27 (by kernel_rfl) rfl #[.agg #[.int .i64 a0_0, .string a0_1, .int .i64 a0_2, .slice A0_3 l0_3.length c0_3]] rfl (by (try simp only [List.map_toArray, List.map_cons, List.map_nil]); first | done | rfl | (simp only [List.length_drop, List.length_take]; rfl)) ?_; (with_reducible refine (node_Valid.calls a0_0 a0_1 a0_2 _ _ l0_3 true _ ?side1 ?side2 A3.out).mono ?_); (case side1 => repeat (first | exact (Kd.C_below HR0_3.out HB.out) | (with_reducible refine Kd.C_alloc ?_ _) | (with_reducible refine Kd.C_drewN ?_ _) | (with_reducible refine Kd.C_drew ?_))); (case side2 => exact HC0_3.out); rintro e w27 ⟨rfl, hb⟩; refine ⟨_, rfl, ?_⟩; have n0_ := Aside0.mk (blk_below (g := gb141) (o := .cells #[.int .i64 a0_0, .string a0_1, .int .i64 a0_2, .slice A0_3 l0_3.length c0_3] 24 (0, 0)) (by (with_reducible repeat (first | refine blk_drewN ?_ _ | refine blk_drew ?_ | refine blk_alloc ?_ _)); exact BK141.out) hb); have n1_ := Aside0.mk (blk_below (g := gb142) (o := .cells #[.int .i64 0, .string (⟨#[]⟩ : ByteArray), .int .i64 0, .slice none 0 0] 24 (0, 0)) (by (with_reducible repeat (first | refine blk_drewN ?_ _ | refine blk_drew ?_ | refine blk_alloc ?_ _)); exact BK142.out) hb); have n2_ := Aside0.mk (below_step (by repeat (first | (with_reducible first | exact HB.out | apply below_alloc | apply pw_below_drewN | apply below_drew1 | refine below_set ?_ GE141.out | refine below_set ?_ GE142.out) | exact HB.out)) hb); clear BK141; clear BK142; clear HB; have BK141 := n0_; have BK142 := n1_; have HB := n2_; clear n0_ n1_ n2_; (try clear hb); (try clear hb2); (try clear hk); (try clear hi); have hcz28_0 : w27.cell? ⟨gb141, 0, none⟩ = some (.int .i64 a0_0) := (blk_cell BK141.out 0).trans rfl; have hcz28_1 : w27.cell? ⟨gb141, 1, none⟩ = some (.string a0_1) := (blk_cell BK141.out 1).trans rfl; have hcz28_2 : w27.cell? ⟨gb141, 2, none⟩ = some (.int .i64 a0_2) := (blk_cell BK141.out 2).trans rfl; have hcz28_3 : w27.cell? ⟨gb141, 3, none⟩ = some (.slice A0_3 l0_3.length c0_3) := (blk_cell BK141.out 3).trans rfl; have hfz28_0 := blk_frozen BK141.out 0; have hfz28_1 := blk_frozen BK141.out 1; have hfz28_2 := blk_frozen BK141.out 2; have hfz28_3 := blk_frozen BK141.out 3) | ((with_reducible refine gate_callee (f := 46) rfl ?_); refine goesL_ (some 15) rfl rfl Tryd.func46 (by kernel_rfl) rfl #[.agg #[.int .i64 a0_0, .string a0_1, .int .i64 a0_2, .slice A0_3 l0_3.length c0_3], .slice A1 l1.length c1] rfl (by (try simp only [List.map_toArray, List.map_cons, List.map_nil]); first | done | rfl | (simp only [List.length_drop, List.length_take]; rfl)) ?_; (with_reducible refine (node_row.calls a0_0 a0_1 a0_2 (fun k_ => k_ < w.heap.size) _ _ l0_3 (fun k_ => k_ < w.heap.size) _ _ l1 t144 t145 t146 t147 false _ ?side1 ?side2 A5.out).mono ?_); (case side1 => exact Kd.V_mk HC0_3.out (Kd.F_below (Kd.C_F k24_heap HR0_3.out) (by repeat (first | (with_reducible first | exact HB.out | apply below_alloc | apply pw_below_drewN | apply below_drew1 | refine below_set ?_ GE141.out | refine below_set ?_ GE142.out) | exact HB.out)))); (case side2 => exact Kd.V_mk HC1.out (Kd.F_below (Kd.C_F (Kd.heap_int .i64) HR1.out) (by repeat (first | (with_reducible first | exact HB.out | apply below_alloc | apply pw_below_drewN | apply below_drew1 | refine below_set ?_ GE141.out | refine below_set ?_ GE142.out) | exact HB.out)))); rintro e w29 ⟨v148, rfl, ho0, hb⟩; refine ⟨_, rfl, ?_⟩; have n0_ := Aside0.mk (Kd.V_lower (Kd.V_mono (ok' := fun k_ => k_ ≠ gb141 ∧ k_ ≠ gb142) ho0 (fun k_ hk_ => ⟨Or.elim hk_ (fun hs_ => Or.elim hs_ (fun hs_ => fun e_ => Nat.not_le.2 hs_ (by rw [e_]; exact GW141.out)) (fun hs_ => fun e_ => Nat.not_le.2 hs_ (by rw [e_]; exact GW141.out))) (fun hn_ => (Kd.freshB (g := gb141) (o := .cells #[.int .i64 a0_0, .string a0_1, .int .i64 a0_2, .slice A0_3 l0_3.length c0_3] 24 (0, 0)) (by (with_reducible repeat (first | refine blk_drewN ?_ _ | refine blk_drew ?_ | refine blk_alloc ?_ _)); exact BK141.out) k_ hn_)), Or.elim hk_ (fun hs_ => Or.elim hs_ (fun hs_ => fun e_ => Nat.not_le.2 hs_ (by rw [e_]; exact GW142.out)) (fun hs_ => fun e_ => Nat.not_le.2 hs_ (by rw [e_]; exact GW142.out))) (fun hn_ => (Kd.freshB (g := gb142) (o := .cells #[.int .i64 0, .string (⟨#[]⟩ : ByteArray), .int .i64 0, .slice none 0 0] 24 (0, 0)) (by (with_reducible repeat (first | refine blk_drewN ?_ _ | refine blk_drew ?_ | refine blk_alloc ?_ _)); exact BK142.out) k_ hn_))⟩)) (below_size (by repeat (first | (with_reducible first | exact HB.out | apply below_alloc | apply pw_below_drewN | apply below_drew1 | refine below_set ?_ GE141.out | refine below_set ?_ GE142.out) | exact HB.out)))); have n1_ := Aside0.mk (blk_below (g := gb141) (o := .cells #[.int .i64 a0_0, .string a0_1, .int .i64 a0_2, .slice A0_3 l0_3.length c0_3] 24 (0, 0)) (by (with_reducible repeat (first | refine blk_drewN ?_ _ | refine blk_drew ?_ | refine blk_alloc ?_ _)); exact BK141.out) hb); have n2_ := Aside0.mk (blk_below (g := gb142) (o := .cells #[.int .i64 0, .string (⟨#[]⟩ : ByteArray), .int .i64 0, .slice none 0 0] 24 (0, 0)) (by (with_reducible repeat (first | refine blk_drewN ?_ _ | refine blk_drew ?_ | refine blk_alloc ?_ _)); exact BK142.out) hb); have n3_ := Aside0.mk (below_step (by repeat (first | (with_reducible first | exact HB.out | apply below_alloc | apply pw_below_drewN | apply below_drew1 | refine below_set ?_ GE141.out | refine below_set ?_ GE142.out) | exact HB.out)) hb); clear BK141; clear BK142; clear HB; have HO149 := n0_; have BK141 := n1_; have BK142 := n2_; have HB := n3_; clear n0_ n1_ n2_ n3_; (try clear hb); (try clear hb2); (try clear hk); (try clear hi); (try clear ho0)) | ((with_reducible refine gate_dst (N := 6) rfl ?_); refine box_event ?hg (N := 6) ?hd (cs := #[.int .i64 0, .string (⟨#[]⟩ : ByteArray), .int .i64 0, .slice none 0 0]) (t := 24) ?hr ?_; (case hd => rfl); (case hg => rfl); (case hr => first | (go_simp; done) | (go_simp; rfl)); intro gb151 hg w30 hbox hb; have n0_ := Aside0.mk (Kd.V_below (Kd.V_elderB (by (with_reducible repeat (first | apply Kd.V_alloc | apply Kd.V_drewN | apply Kd.V_drew)); exact HO149.out) gb151 (Nat.le_of_eq hg.symm)) hb); have n1_ := Aside0.mk (blk_below (g := gb141) (o := .cells #[.int .i64 a0_0, .string a0_1, .int .i64 a0_2, .slice A0_3 l0_3.length c0_3] 24 (0, 0)) (by (with_reducible repeat (first | refine blk_drewN ?_ _ | refine blk_drew ?_ | refine blk_alloc ?_ _)); exact BK141.out) hb); have n2_ := Aside0.mk (blk_below (g := gb142) (o := .cells #[.int .i64 0, .string (⟨#[]⟩ : ByteArray), .int .i64 0, .slice none 0 0] 24 (0, 0)) (by (with_reducible repeat (first | refine blk_drewN ?_ _ | refine blk_drew ?_ | refine blk_alloc ?_ _)); exact BK142.out) hb); have n3_ := Aside0.mk (below_step (by repeat (first | (with_reducible first | exact HB.out | apply below_alloc | apply pw_below_drewN | apply below_drew1 | refine below_set ?_ GE141.out | refine below_set ?_ GE142.out) | exact HB.out)) hb); have n4_ := Aside0.mk (hbox); have n5_ := Aside0.mk ((by rw [hg]; exact (below_size (by repeat (first | (with_reducible first | exact HB.out | apply below_alloc | apply pw_below_drewN | apply below_drew1 | refine below_set ?_ GE141.out | refine below_set ?_ GE142.out) | exact HB.out))) : w.heap.size ≤ gb151)); have n6_ := Aside0.mk ((by rw [hg]; exact (below_size (by repeat (first | (with_reducible first | exact HB.out | apply below_alloc | apply pw_below_drewN | apply below_drew1 | refine below_set ?_ GE141.out | refine below_set ?_ GE142.out) | exact HB.out))) : w.heap.size ≤ gb151)); have n7_ := Aside0.mk ((by rw [hg]; exact Nat.ne_of_lt (blk_lt (g := gb141) (o := .cells #[.int .i64 a0_0, .string a0_1, .int .i64 a0_2, .slice A0_3 l0_3.length c0_3] 24 (0, 0)) (by (with_reducible repeat (first | refine blk_drewN ?_ _ | refine blk_drew ?_ | refine blk_alloc ?_ _)); exact BK141.out)) : gb141 ≠ gb151)); have n8_ := Aside0.mk ((by rw [hg]; exact Nat.ne_of_gt (blk_lt (g := gb141) (o := .cells #[.int .i64 a0_0, .string a0_1, .int .i64 a0_2, .slice A0_3 l0_3.length c0_3] 24 (0, 0)) (by (with_reducible repeat (first | refine blk_drewN ?_ _ | refine blk_drew ?_ | refine blk_alloc ?_ _)); exact BK141.out)) : gb151 ≠ gb141)); have n9_ := Aside0.mk ((by rw [hg]; exact Nat.ne_of_lt (blk_lt (g := gb142) (o := .cells #[.int .i64 0, .string (⟨#[]⟩ : ByteArray), .int .i64 0, .slice none 0 0] 24 (0, 0)) (by (with_reducible repeat (first | refine blk_drewN ?_ _ | refine blk_drew ?_ | refine blk_alloc ?_ _)); exact BK142.out)) : gb142 ≠ gb151)); have n10_ := Aside0.mk ((by rw [hg]; exact Nat.ne_of_gt (blk_lt (g := gb142) (o := .cells #[.int .i64 0, .string (⟨#[]⟩ : ByteArray), .int .i64 0, .slice none 0 0] 24 (0, 0)) (by (with_reducible repeat (first | refine blk_drewN ?_ _ | refine blk_drew ?_ | refine blk_alloc ?_ _)); exact BK142.out)) : gb151 ≠ gb142)); clear HO149; clear BK141; clear BK142; clear HB; have HO149 := n0_; have BK141 := n1_; have BK142 := n2_; have HB := n3_; have BK151 := n4_; have GW151 := n5_; have GE151 := n6_; have NB141_151 := n7_; have NB151_141 := n8_; have NB142_151 := n9_; have NB151_142 := n10_; clear n0_ n1_ n2_ n3_ n4_ n5_ n6_ n7_ n8_ n9_ n10_; clear hb hbox hg; have hnb31 := NB151_141.out; have hnc31 := NB141_151.out; have hnb32 := NB151_142.out; have hnc32 := NB142_151.out; have hcz33_0 : w30.cell? ⟨gb151, 0, none⟩ = some (.int .i64 0) := (blk_cell BK151.out 0).trans rfl; have hcz33_1 : w30.cell? ⟨gb151, 1, none⟩ = some (.string (⟨#[]⟩ : ByteArray)) := (blk_cell BK151.out 1).trans rfl; have hcz33_2 : w30.cell? ⟨gb151, 2, none⟩ = some (.int .i64 0) := (blk_cell BK151.out 2).trans rfl; have hcz33_3 : w30.cell? ⟨gb151, 3, none⟩ = some (.slice none 0 0) := (blk_cell BK151.out 3).trans rfl; have hfz33_0 := blk_frozen BK151.out 0; have hfz33_1 := blk_frozen BK151.out 1; have hfz33_2 := blk_frozen BK151.out 2; have hfz33_3 := blk_frozen BK151.out 3; obtain ⟨Ao34, co34, eo34⟩ := Kd.V_slice HO149.out; subst eo34; have hcz35_0 : w30.cell? ⟨gb142, 0, none⟩ = some (.int .i64 0) := (blk_cell BK142.out 0).trans rfl; have hcz35_1 : w30.cell? ⟨gb142, 1, none⟩ = some (.string (⟨#[]⟩ : ByteArray)) := (blk_cell BK142.out 1).trans rfl; have hcz35_2 : w30.cell? ⟨gb142, 2, none⟩ = some (.int .i64 0) := (blk_cell BK142.out 2).trans rfl; have hcz35_3 : w30.cell? ⟨gb142, 3, none⟩ = some (.slice none 0 0) := (blk_cell BK142.out 3).trans rfl; have hfz35_0 := blk_frozen BK142.out 0; have hfz35_1 := blk_frozen BK142.out 1; have hfz35_2 := blk_frozen BK142.out 2; have hfz35_3 := blk_frozen BK142.out 3))
      refine bodyPost_ret (results_ct rfl _ _ gb142 24 #[.int .i64 0, .string (⟨#[]⟩ : ByteArray), .int .i64 0, .slice none 0 0] (0, 0) _ rfl (by (with_reducible repeat (first | refine blk_drewN ?_ _ | refine blk_drew ?_ | refine blk_alloc ?_ _)); refine blk_put (cs := #[.int .i64 0, .string (⟨#[]⟩ : ByteArray), .int .i64 0, .slice none 0 0]) ?_ 3 _ rfl; (with_reducible repeat (first | refine blk_drewN ?_ _ | refine blk_drew ?_ | refine blk_alloc ?_ _)); refine blk_put (cs := #[.int .i64 0, .string (⟨#[]⟩ : ByteArray), .int .i64 0, .slice none 0 0]) ?_ 2 _ rfl; (with_reducible repeat (first | refine blk_drewN ?_ _ | refine blk_drew ?_ | refine blk_alloc ?_ _)); refine blk_put (cs := #[.int .i64 0, .string (⟨#[]⟩ : ByteArray), .int .i64 0, .slice none 0 0]) ?_ 1 _ rfl; (with_reducible repeat (first | refine blk_drewN ?_ _ | refine blk_drew ?_ | refine blk_alloc ?_ _)); refine blk_put (cs := #[.int .i64 0, .string (⟨#[]⟩ : ByteArray), .int .i64 0, .slice none 0 0]) ?_ 0 _ rfl; (with_reducible repeat (first | refine blk_drewN ?_ _ | refine blk_drew ?_ | refine blk_alloc ?_ _)); refine blk_far ?_ NB142_151.out _; (with_reducible repeat (first | refine blk_drewN ?_ _ | refine blk_drew ?_ | refine blk_alloc ?_ _)); refine blk_far ?_ NB142_151.out _; (with_reducible repeat (first | refine blk_drewN ?_ _ | refine blk_drew ?_ | refine blk_alloc ?_ _)); refine blk_far ?_ NB142_151.out _; (with_reducible repeat (first | refine blk_drewN ?_ _ | refine blk_drew ?_ | refine blk_alloc ?_ _)); refine blk_far ?_ NB142_151.out _; (with_reducible repeat (first | refine blk_drewN ?_ _ | refine blk_drew ?_ | refine blk_alloc ?_ _)); exact BK142.out) Tryd.underlying24 rfl (by kernel_rfl)) rfl ?_
      exact ⟨_, by first | rfl | (simp [errW_none, errW_some] <;> rfl) | (simp [*, errW_none, errW_some] <;> rfl), by first | exact Kd.R_nil _ _ _ _ _ | exact Kd.N_nil _ _ _ _ _ | exact Kd.V_nil _ _ _ _ _ | exact Kd.Q_nil _ _ _ _ _ | exact Kd.S_nil _ _ _ _ _, by repeat (first | (with_reducible first | exact HB.out | apply below_alloc | apply pw_below_drewN | apply below_drew1 | refine below_set ?_ GE141.out | refine below_set ?_ GE142.out | refine below_set ?_ GE151.out) | exact HB.out)⟩
  · replace c4 := Bool.eq_false_iff.mpr c4
    subst c4
    have H1 : (some (0, (⟨#[]⟩ : ByteArray), 0, ([] : List (S24)), 1)) = some (r1, r2, r3, r4, r5) := by rw [if_neg (show ¬ (false = true) by decide)] at H; exact H
    clear H
    have H := H1
    clear H1
    simp only [Option.some.injEq, Prod.mk.injEq] at H
    obtain ⟨rfl, rfl, rfl, rfl, rfl⟩ := H
    go_enter Tryd.func29, Tryd.ntmps29
    go_wp2_with (first | ((with_reducible refine gate_dst (N := 2) rfl ?_); refine box_event ?hg (N := 2) ?hd (cs := #[.int .i64 a0_0, .string a0_1, .int .i64 a0_2, .slice A0_3 l0_3.length c0_3]) (t := 24) ?hr ?_; (case hd => rfl); (case hg => rfl); (case hr => first | (go_simp; done) | (go_simp; rfl)); intro gb141 hg w36 hbox hb; have n0_ := Aside0.mk (below_step (by repeat (first | (with_reducible first | exact HB.out | apply below_alloc | apply pw_below_drewN | apply below_drew1) | exact HB.out)) hb); have n1_ := Aside0.mk (hbox); have n2_ := Aside0.mk ((by rw [hg]; exact (below_size (by repeat (first | (with_reducible first | exact HB.out | apply below_alloc | apply pw_below_drewN | apply below_drew1) | exact HB.out))) : w.heap.size ≤ gb141)); have n3_ := Aside0.mk ((by rw [hg]; exact (below_size (by repeat (first | (with_reducible first | exact HB.out | apply below_alloc | apply pw_below_drewN | apply below_drew1) | exact HB.out))) : w.heap.size ≤ gb141)); clear HB; have HB := n0_; have BK141 := n1_; have GW141 := n2_; have GE141 := n3_; clear n0_ n1_ n2_ n3_; clear hb hbox hg) | ((with_reducible refine gate_dst (N := 4) rfl ?_); refine box_event ?hg (N := 4) ?hd (cs := #[.int .i64 0, .string (⟨#[]⟩ : ByteArray), .int .i64 0, .slice none 0 0]) (t := 24) ?hr ?_; (case hd => rfl); (case hg => rfl); (case hr => first | (go_simp; done) | (go_simp; rfl)); intro gb142 hg w37 hbox hb; have n0_ := Aside0.mk (blk_below (g := gb141) (o := .cells #[.int .i64 a0_0, .string a0_1, .int .i64 a0_2, .slice A0_3 l0_3.length c0_3] 24 (0, 0)) (by (with_reducible repeat (first | refine blk_drewN ?_ _ | refine blk_drew ?_ | refine blk_alloc ?_ _)); exact BK141.out) hb); have n1_ := Aside0.mk (below_step (by repeat (first | (with_reducible first | exact HB.out | apply below_alloc | apply pw_below_drewN | apply below_drew1 | refine below_set ?_ GE141.out) | exact HB.out)) hb); have n2_ := Aside0.mk (hbox); have n3_ := Aside0.mk ((by rw [hg]; exact (below_size (by repeat (first | (with_reducible first | exact HB.out | apply below_alloc | apply pw_below_drewN | apply below_drew1 | refine below_set ?_ GE141.out) | exact HB.out))) : w.heap.size ≤ gb142)); have n4_ := Aside0.mk ((by rw [hg]; exact (below_size (by repeat (first | (with_reducible first | exact HB.out | apply below_alloc | apply pw_below_drewN | apply below_drew1 | refine below_set ?_ GE141.out) | exact HB.out))) : w.heap.size ≤ gb142)); have n5_ := Aside0.mk ((by rw [hg]; exact Nat.ne_of_lt (blk_lt (g := gb141) (o := .cells #[.int .i64 a0_0, .string a0_1, .int .i64 a0_2, .slice A0_3 l0_3.length c0_3] 24 (0, 0)) (by (with_reducible repeat (first | refine blk_drewN ?_ _ | refine blk_drew ?_ | refine blk_alloc ?_ _)); exact BK141.out)) : gb141 ≠ gb142)); have n6_ := Aside0.mk ((by rw [hg]; exact Nat.ne_of_gt (blk_lt (g := gb141) (o := .cells #[.int .i64 a0_0, .string a0_1, .int .i64 a0_2, .slice A0_3 l0_3.length c0_3] 24 (0, 0)) (by (with_reducible repeat (first | refine blk_drewN ?_ _ | refine blk_drew ?_ | refine blk_alloc ?_ _)); exact BK141.out)) : gb142 ≠ gb141)); clear BK141; clear HB; have BK141 := n0_; have HB := n1_; have BK142 := n2_; have GW142 := n3_; have GE142 := n4_; have NB141_142 := n5_; have NB142_141 := n6_; clear n0_ n1_ n2_ n3_ n4_ n5_ n6_; clear hb hbox hg; have hnb38 := NB141_142.out; have hnc38 := NB142_141.out; have hcz39_0 : w37.cell? ⟨gb141, 0, none⟩ = some (.int .i64 a0_0) := (blk_cell BK141.out 0).trans rfl; have hcz39_1 : w37.cell? ⟨gb141, 1, none⟩ = some (.string a0_1) := (blk_cell BK141.out 1).trans rfl; have hcz39_2 : w37.cell? ⟨gb141, 2, none⟩ = some (.int .i64 a0_2) := (blk_cell BK141.out 2).trans rfl; have hcz39_3 : w37.cell? ⟨gb141, 3, none⟩ = some (.slice A0_3 l0_3.length c0_3) := (blk_cell BK141.out 3).trans rfl; have hfz39_0 := blk_frozen BK141.out 0; have hfz39_1 := blk_frozen BK141.out 1; have hfz39_2 := blk_frozen BK141.out 2; have hfz39_3 := blk_frozen BK141.out 3) | ((with_reducible refine gate_callee (f := 27) rfl ?_); refine goesL_ (some 9) rfl rfl Tryd.func27 (by kernel_rfl) rfl #[.agg #[.int .i64 a0_0, .string a0_1, .int .i64 a0_2, .slice A0_3 l0_3.length c0_3]] rfl (by (try simp only [List.map_toArray, List.map_cons, List.map_nil]); first | done | rfl | (simp only [List.length_drop, List.length_take]; rfl)) ?_; (with_reducible refine (node_Valid.calls a0_0 a0_1 a0_2 _ _ l0_3 false _ ?side1 ?side2 A3.out).mono ?_); (case side1 => repeat (first | exact (Kd.C_below HR0_3.out HB.out) | (with_reducible refine Kd.C_alloc ?_ _) | (with_reducible refine Kd.C_drewN ?_ _) | (with_reducible refine Kd.C_drew ?_))); (case side2 => exact HC0_3.out); rintro e w40 ⟨rfl, hb⟩; refine ⟨_, rfl, ?_⟩; have n0_ := Aside0.mk (blk_below (g := gb141) (o := .cells #[.int .i64 a0_0, .string a0_1, .int .i64 a0_2, .slice A0_3 l0_3.length c0_3] 24 (0, 0)) (by (with_reducible repeat (first | refine blk_drewN ?_ _ | refine blk_drew ?_ | refine blk_alloc ?_ _)); exact BK141.out) hb); have n1_ := Aside0.mk (blk_below (g := gb142) (o := .cells #[.int .i64 0, .string (⟨#[]⟩ : ByteArray), .int .i64 0, .slice none 0 0] 24 (0, 0)) (by (with_reducible repeat (first | refine blk_drewN ?_ _ | refine blk_drew ?_ | refine blk_alloc ?_ _)); exact BK142.out) hb); have n2_ := Aside0.mk (below_step (by repeat (first | (with_reducible first | exact HB.out | apply below_alloc | apply pw_below_drewN | apply below_drew1 | refine below_set ?_ GE141.out | refine below_set ?_ GE142.out) | exact HB.out)) hb); clear BK141; clear BK142; clear HB; have BK141 := n0_; have BK142 := n1_; have HB := n2_; clear n0_ n1_ n2_; (try clear hb); (try clear hb2); (try clear hk); (try clear hi); have hcz41_0 : w40.cell? ⟨gb142, 0, none⟩ = some (.int .i64 0) := (blk_cell BK142.out 0).trans rfl; have hcz41_1 : w40.cell? ⟨gb142, 1, none⟩ = some (.string (⟨#[]⟩ : ByteArray)) := (blk_cell BK142.out 1).trans rfl; have hcz41_2 : w40.cell? ⟨gb142, 2, none⟩ = some (.int .i64 0) := (blk_cell BK142.out 2).trans rfl; have hcz41_3 : w40.cell? ⟨gb142, 3, none⟩ = some (.slice none 0 0) := (blk_cell BK142.out 3).trans rfl; have hfz41_0 := blk_frozen BK142.out 0; have hfz41_1 := blk_frozen BK142.out 1; have hfz41_2 := blk_frozen BK142.out 2; have hfz41_3 := blk_frozen BK142.out 3))
    refine bodyPost_ret (results_ct rfl _ _ gb142 24 #[.int .i64 0, .string (⟨#[]⟩ : ByteArray), .int .i64 0, .slice none 0 0] (0, 0) _ rfl (by (with_reducible repeat (first | refine blk_drewN ?_ _ | refine blk_drew ?_ | refine blk_alloc ?_ _)); refine blk_put (cs := #[.int .i64 0, .string (⟨#[]⟩ : ByteArray), .int .i64 0, .slice none 0 0]) ?_ 3 _ rfl; (with_reducible repeat (first | refine blk_drewN ?_ _ | refine blk_drew ?_ | refine blk_alloc ?_ _)); refine blk_put (cs := #[.int .i64 0, .string (⟨#[]⟩ : ByteArray), .int .i64 0, .slice none 0 0]) ?_ 2 _ rfl; (with_reducible repeat (first | refine blk_drewN ?_ _ | refine blk_drew ?_ | refine blk_alloc ?_ _)); refine blk_put (cs := #[.int .i64 0, .string (⟨#[]⟩ : ByteArray), .int .i64 0, .slice none 0 0]) ?_ 1 _ rfl; (with_reducible repeat (first | refine blk_drewN ?_ _ | refine blk_drew ?_ | refine blk_alloc ?_ _)); refine blk_put (cs := #[.int .i64 0, .string (⟨#[]⟩ : ByteArray), .int .i64 0, .slice none 0 0]) ?_ 0 _ rfl; (with_reducible repeat (first | refine blk_drewN ?_ _ | refine blk_drew ?_ | refine blk_alloc ?_ _)); exact BK142.out) Tryd.underlying24 rfl (by kernel_rfl)) rfl ?_
    exact ⟨_, by first | rfl | (simp [errW_none, errW_some] <;> rfl) | (simp [*, errW_none, errW_some] <;> rfl), by first | exact Kd.R_nil _ _ _ _ _ | exact Kd.N_nil _ _ _ _ _ | exact Kd.V_nil _ _ _ _ _ | exact Kd.Q_nil _ _ _ _ _ | exact Kd.S_nil _ _ _ _ _, by repeat (first | (with_reducible first | exact HB.out | apply below_alloc | apply pw_below_drewN | apply below_drew1 | refine below_set ?_ GE141.out | refine below_set ?_ GE142.out) | exact HB.out)⟩
end Go.Proofs.YtgcpfelccfnnbaaDoor.X
namespace Go.Proofs.YtgcpfelccfnnbaaDoor.X
open Go.RowKit Go.Proofs.YtgcpfelccfnnbaaDoorW.PrintWords Go.Proofs.YtgcpfelccfnnbaaDoorW.PrintLast Go.Proofs.YtgcpfelccfnnbaaDoorW.PrintMore
attribute [local go_sem] max2_int min2_int max_two min_two max_three min_three max_four min_four   -- for this text's walks alone
set_option linter.unusedVariables false
set_option linter.unusedSimpArgs false
mutual
theorem chk_cnt : ∀ {x : S24} {left depth lf : Nat}, chk x left depth = some lf → lf + cnt x = left
  | ⟨k, t, c, l⟩, left, depth, lf, h => by
    rw [chk] at h
    split at h
    · cases h
    · split at h
      · cases h
      · split at h
        · have := chkL_cnt h; simp only [cnt]; omega
        · cases h
theorem chkL_cnt : ∀ {l : List S24} {k : Int} {left depth lf : Nat}, chkL l k left depth = some lf → lf + cntL l = left
  | [], k, left, depth, lf, h => by
    rw [chkL] at h
    injection h with h
    simp only [cntL]; omega
  | x :: l, k, left, depth, lf, h => by
    rw [chkL] at h
    split at h
    · cases h
    · obtain ⟨l1, h1, h2⟩ := Option.bind_eq_some_iff.1 h
      have := chk_cnt h1
      have := chkL_cnt h2
      simp only [cntL]; omega
end
theorem valid_cnt {x : S24} (h : validB x = true) : cnt x ≤ 1000 := by
  unfold validB at h
  simp only [Bool.and_eq_true] at h
  obtain ⟨lf, hl⟩ := Option.isSome_iff_exists.1 h.2
  have := chk_cnt hl
  omega
theorem valid_cntL {x : S24} (h : validB x = true) : cntL x.f3 < 1000 := by have := valid_cnt h; rw [cnt_eq] at this; omega
theorem fine_z : fine z24 = true := by kernel_rfl
theorem row_sub : ∀ (m : Nat) (x : S24) (p : List Int), p.length ≤ m → (fine x = true → fine (rowG x p).1 = true) ∧ cntL (rowG x p).1.f3 ≤ cntL x.f3 := by
  intro m
  induction m with
  | zero =>
    intro x p hm
    have hp : p = [] := List.eq_nil_of_length_eq_zero (by omega)
    subst hp
    rw [rowG]
    exact ⟨fun h => h, Nat.le_refl _⟩
  | succ m ih =>
    intro x p hm
    match p, hm with
    | [], _ => rw [rowG]; exact ⟨fun h => h, Nat.le_refl _⟩
    | [_], _ => rw [rowG]; exact ⟨fun h => h, Nat.le_refl _⟩
    | i :: s :: q, hm =>
      rw [rowG]
      split
      · rename_i hh
        have hi : i.toNat < x.f3.length := by omega
        have hs : s.toNat < (nth x.f3 i.toNat).f3.length := by omega
        have h1 := ih (nth (nth x.f3 i.toNat).f3 s.toNat) q (by simp only [List.length_cons] at hm; omega)
        have c1 := cntL_get (nth_some hi)
        have c2 := cntL_get (nth_some hs)
        have e1 := cnt_eq (nth x.f3 i.toNat)
        have e2 := cnt_eq (nth (nth x.f3 i.toNat).f3 s.toNat)
        refine ⟨fun hf => h1.1 ?_, by omega⟩
        rw [fine_eq, Bool.and_eq_true] at hf
        have f1 := fineL_get (nth_some hi) hf.2
        rw [fine_eq, Bool.and_eq_true] at f1
        exact fineL_get (nth_some hs) f1.2
      · exact ⟨fun _ => fine_z, by show cntL [] ≤ _; rw [cntL]; omega⟩
theorem fineL_set : ∀ (l : List S24) (i : Nat) (y : S24), fineL l = true → fine y = true → fineL (l.set i y) = true
  | [], _, _, h, _ => by simpa using h
  | x :: l, 0, y, h, hy => by simp only [fineL, Bool.and_eq_true, List.set_cons_zero] at h ⊢; exact ⟨hy, h.2⟩
  | x :: l, i + 1, y, h, hy => by simp only [fineL, Bool.and_eq_true, List.set_cons_succ] at h ⊢; exact ⟨h.1, fineL_set l i y h.2 hy⟩
theorem with_fine : ∀ (m : Nat) (x : S24) (p : List Int) (r : S24), p.length ≤ m → WithOk x p → fine x = true → fine r = true → fine (withG x p r) = true := by
  intro m
  induction m with
  | zero =>
    intro x p r hm hok hx hr
    have hp : p = [] := List.eq_nil_of_length_eq_zero (by omega)
    subst hp
    rw [withG]
    exact hr
  | succ m ih =>
    intro x p r hm hok hx hr
    match p, hm, hok with
    | [], _, _ => rw [withG]; exact hr
    | [_], _, hok => exact hok.elim
    | i :: s :: q, hm, hok =>
      obtain ⟨hi0, hi, hs0, hs, hok⟩ := hok
      have hi' : i.toNat < x.f3.length := by omega
      have hs' : s.toNat < (nth x.f3 i.toNat).f3.length := by omega
      rw [fine_eq, Bool.and_eq_true] at hx
      have f1 := fineL_get (nth_some hi') hx.2
      rw [fine_eq, Bool.and_eq_true] at f1
      have f2 := fineL_get (nth_some hs') f1.2
      have h1 := ih _ q r (by simp only [List.length_cons] at hm; omega) hok f2 hr
      rw [withG, fine_eq, Bool.and_eq_true]
      refine ⟨hx.1, fineL_set _ _ _ hx.2 ?_⟩
      rw [fine_eq, Bool.and_eq_true]
      exact ⟨f1.1, fineL_set _ _ _ f1.2 h1⟩
/-- The row of a valid tree, or why not. -/
def rowE (x : S24) (p : List Int) : S24 × Int := if validB x = true then (if (rowG x p).2 = true then ((rowG x p).1, 0) else (z24, 8)) else (z24, 1)
theorem rowE_f (x : S24) (p : List Int) (hf : fine x = true) : node_Row.f x.f0 x.f1 x.f2 x.f3 p = some ((rowE x p).1.f0, (rowE x p).1.f1, (rowE x p).1.f2, (rowE x p).1.f3, (rowE x p).2) := by
  obtain ⟨x0, x1, x2, l⟩ := x
  have hV : node_Valid.f x0 x1 x2 l = some (validB ⟨x0, x1, x2, l⟩) := by unfold node_Valid.f; rw [if_pos hf]
  unfold node_Row.f rowE
  rw [hV]
  simp only [Option.bind_some]
  by_cases hv : validB ⟨x0, x1, x2, l⟩ = true
  · rw [if_pos hv, if_pos hv]
    unfold node_row.f
    simp only [Option.bind_some]
    by_cases hr : (rowG ⟨x0, x1, x2, l⟩ p).2 = true
    · rw [if_pos hr, if_pos hr]
      have hc := (row_sub p.length ⟨x0, x1, x2, l⟩ p (Nat.le_refl _)).2
      have hv2 := valid_cntL hv
      simp only at hc hv2
      unfold node_clone.f
      rw [if_pos (by omega)]
      rfl
    · rw [if_neg hr, if_neg hr]
      rfl
  · rw [if_neg hv, if_neg hv]
    rfl
theorem rowE_any (x : S24) (p : List Int) (A B : Option Addr) (c d : Nat) (w : World) (hf : fine x = true) (hc : x.f3.length ≤ c) (hd : p.length ≤ d) (hA : Kd.C k24 w A x.f3.length x.f3) (hB : Kd.C (Kd.int .i64) w B p.length p) :
    Calls Tryd.prog 29 #[.agg #[.int .i64 x.f0, .string x.f1, .int .i64 x.f2, .slice A x.f3.length c], .slice B p.length d] w fun e w' => ∃ v : Value, e = .returned (.tuple #[.agg #[.int .i64 (rowE x p).1.f0, .string (rowE x p).1.f1, .int .i64 (rowE x p).1.f2, v], .int .i64 (rowE x p).2]) ∧ Kd.R k24 24 w' w.heap.size (fun _ => True) v (rowE x p).1.f3 ∧ Below w.heap.size w w' :=
  node_Row.calls x.f0 x.f1 x.f2 A c x.f3 B d p _ _ _ _ _ w hA hc hB hd (rowE_f x p hf)
/-- A tree with another row at a path, or why not. -/
def withE (x : S24) (p : List Int) (r : S24) : S24 × Int :=
  if validB x = true then (if (rowG x p).2 = true then (if validB r = true then (if validB (withG x p r) = true then (withG x p r, 0) else (z24, 6)) else (z24, 4)) else (z24, 8)) else (z24, 1)
theorem blk_over {w1 w2 : World} {o c : Obj} {k : Nat} (h : w1.heap[k]? = some c) (hB : Below (w1.alloc o).heap.size (w1.alloc o) w2) : w2.heap[k]? = some c := by
  have hk : k < w1.heap.size := by
    rw [Array.getElem?_eq_some_iff] at h
    exact h.1
  rw [hB.block k (by simp; omega), Below.heap_alloc _ _ _ hk]
  exact h
theorem blk_allocO {w1 : World} {c : Obj} {k : Nat} (h : w1.heap[k]? = some c) (o : Obj) : (w1.alloc o).heap[k]? = some c := blk_over h (Below.refl _ _)
theorem blk_on {w1 w2 : World} {c : Obj} {k : Nat} (h : w1.heap[k]? = some c) (hB : Below w1.heap.size w1 w2) : w2.heap[k]? = some c := by
  have hk : k < w1.heap.size := by
    rw [Array.getElem?_eq_some_iff] at h
    exact h.1
  rw [hB.block k hk]
  exact h
end Go.Proofs.YtgcpfelccfnnbaaDoor.X
namespace Go.Proofs.YtgcpfelccfnnbaaDoor.X
open Go.RowKit Go.Proofs.YtgcpfelccfnnbaaDoorW.PrintWords Go.Proofs.YtgcpfelccfnnbaaDoorW.PrintLast Go.Proofs.YtgcpfelccfnnbaaDoorW.PrintMore
attribute [local go_sem] max2_int min2_int max_two min_two max_three min_three max_four min_four   -- for this text's walks alone
set_option linter.unusedVariables false
set_option linter.unusedSimpArgs false
set_option maxRecDepth 100000 in
set_option maxHeartbeats 4000000 in
theorem withE_ok (x r y : S24) (p : List Int) (vb : Bool) (A B AR : Option Addr) (c d cR : Nat) (w : World) (hA : Kd.C k24 w A x.f3.length x.f3) (hB : Kd.C (Kd.int .i64) w B p.length p) (hC : Kd.C k24 w AR r.f3.length r.f3)
    (HROW : Aside0 (∀ W : World, Kd.C k24 W A x.f3.length x.f3 → Kd.C (Kd.int .i64) W B p.length p → Calls Tryd.prog 29 #[.agg #[.int .i64 x.f0, .string x.f1, .int .i64 x.f2, .slice A x.f3.length c], .slice B p.length d] W fun e w' => ∃ v : Value, e = .returned (.tuple #[.agg #[.int .i64 (rowE x p).1.f0, .string (rowE x p).1.f1, .int .i64 (rowE x p).1.f2, v], .int .i64 0]) ∧ Kd.R k24 24 w' W.heap.size (fun _ => True) v (rowE x p).1.f3 ∧ Below W.heap.size W w'))
    (HVR : Aside0 (∀ W : World, Kd.C k24 W AR r.f3.length r.f3 → Calls Tryd.prog 27 #[.agg #[.int .i64 r.f0, .string r.f1, .int .i64 r.f2, .slice AR r.f3.length cR]] W fun e w' => e = .returned (.bool true) ∧ Below W.heap.size W w'))
    (HWITH : Aside0 (∀ W : World, Kd.C k24 W A x.f3.length x.f3 → Kd.C (Kd.int .i64) W B p.length p → Kd.C k24 W AR r.f3.length r.f3 → Calls Tryd.prog 56 #[.agg #[.int .i64 x.f0, .string x.f1, .int .i64 x.f2, .slice A x.f3.length c], .slice B p.length d, .agg #[.int .i64 r.f0, .string r.f1, .int .i64 r.f2, .slice AR r.f3.length cR]] W fun e w' => ∃ (A' : Option Addr) (c' : Nat), e = .returned (.agg #[.int .i64 y.f0, .string y.f1, .int .i64 y.f2, .slice A' y.f3.length c']) ∧ y.f3.length ≤ c' ∧ Kd.F k24 w' (fun k => W.heap.size ≤ k) A' y.f3.length y.f3 ∧ Below W.heap.size W w'))
    (HVY : Aside0 (∀ (A' : Option Addr) (c' : Nat) (W : World), y.f3.length ≤ c' → Kd.C k24 W A' y.f3.length y.f3 → Calls Tryd.prog 27 #[.agg #[.int .i64 y.f0, .string y.f1, .int .i64 y.f2, .slice A' y.f3.length c']] W fun e w' => e = .returned (.bool vb) ∧ Below W.heap.size W w')) :
    Calls Tryd.prog 34 #[.agg #[.int .i64 x.f0, .string x.f1, .int .i64 x.f2, .slice A x.f3.length c], .slice B p.length d, .agg #[.int .i64 r.f0, .string r.f1, .int .i64 r.f2, .slice AR r.f3.length cR]] w fun e w' => ∃ (A' : Option Addr) (c' : Nat), e = .returned (.tuple #[.agg #[.int .i64 (if vb = true then y else z24).f0, .string (if vb = true then y else z24).f1, .int .i64 (if vb = true then y else z24).f2, .slice A' (if vb = true then y else z24).f3.length c'], .int .i64 (if vb = true then 0 else 6)]) ∧ (if vb = true then y else z24).f3.length ≤ c' ∧ Kd.F k24 w' (fun k => w.heap.size ≤ k) A' (if vb = true then y else z24).f3.length (if vb = true then y else z24).f3 ∧ Below w.heap.size w w' := by
  have HA := Aside0.mk hA
  have HPB := Aside0.mk hB
  have HC := Aside0.mk hC
  clear hA hB hC
  have HB3 : ∀ a b e : Obj, Aside0 (Below w.heap.size w (((w.alloc a).alloc b).alloc e)) := fun a b e => ⟨below_alloc (below_alloc (below_alloc (Below.refl _ _) _) _) _⟩
  cases vb with
  | true =>
    rw [if_pos rfl, if_pos rfl]
    go_enter Tryd.func34, Tryd.ntmps34
    go_wp2_with (first | (go_at_call 29; go_loud (refine (HROW.out _ (Kd.C_below HA.out (HB3 _ _ _).out) (Kd.C_below HPB.out (HB3 _ _ _).out)).mono ?_; rintro e w1 ⟨v, rfl, hRR, hB1⟩; obtain ⟨A1, c1, rfl⟩ := Kd.R_slice hRR; obtain ⟨HX, HR0, HZ, HBW, HSZ⟩ := withBoxes hB1; clear hRR hB1; have r0 := fun o => (blk_cell (blk_allocO HR0.out o) 0 : (w1.alloc o).cell? ⟨w.heap.size + 1, 0, none⟩ = _); have r1 := fun o => (blk_cell (blk_allocO HR0.out o) 1 : (w1.alloc o).cell? ⟨w.heap.size + 1, 1, none⟩ = _); have r2 := fun o => (blk_cell (blk_allocO HR0.out o) 2 : (w1.alloc o).cell? ⟨w.heap.size + 1, 2, none⟩ = _); have r3 := fun o => (blk_cell (blk_allocO HR0.out o) 3 : (w1.alloc o).cell? ⟨w.heap.size + 1, 3, none⟩ = _))) | (go_at_call 27; have hg := HF7; clear hg; go_loud (refine (HVY.out A7 c7 _ hl7 (Kd.C_below (Kd.F_now HF7.out) (below_alloc (Below.refl _ _) _))).mono ?_; rintro e w4 ⟨rfl, hB6⟩; have HZ4 := Aside0.mk (blk_over HZ3.out hB6); have H10 := Aside0.mk ((hB6.block w3.heap.size (by simp)).trans (heap_alloc_new w3 _)); have HBW4 := Aside0.mk (below_then (below_alloc HBW3.out _) (below_alloc HBW3.out _).size hB6); have HB34 := Aside0.mk hB6; clear hB6; have z0 := (blk_cell HZ4.out 0 : w4.cell? ⟨w.heap.size + 1 + 1, 0, none⟩ = _); have z1 := (blk_cell HZ4.out 1 : w4.cell? ⟨w.heap.size + 1 + 1, 1, none⟩ = _); have z2 := (blk_cell HZ4.out 2 : w4.cell? ⟨w.heap.size + 1 + 1, 2, none⟩ = _); have z3 := (blk_cell HZ4.out 3 : w4.cell? ⟨w.heap.size + 1 + 1, 3, none⟩ = _); have y0 := (blk_frozen HZ4.out 0 : w4.frozen? ⟨w.heap.size + 1 + 1, 0, none⟩ = false); have y1 := (blk_frozen HZ4.out 1 : w4.frozen? ⟨w.heap.size + 1 + 1, 1, none⟩ = false); have y2 := (blk_frozen HZ4.out 2 : w4.frozen? ⟨w.heap.size + 1 + 1, 2, none⟩ = false); have y3 := (blk_frozen HZ4.out 3 : w4.frozen? ⟨w.heap.size + 1 + 1, 3, none⟩ = false); have x0 := (blk_cell H10.out 0 : w4.cell? ⟨w3.heap.size, 0, none⟩ = _); have x1 := (blk_cell H10.out 1 : w4.cell? ⟨w3.heap.size, 1, none⟩ = _); have x2 := (blk_cell H10.out 2 : w4.cell? ⟨w3.heap.size, 2, none⟩ = _); have x3 := (blk_cell H10.out 3 : w4.cell? ⟨w3.heap.size, 3, none⟩ = _))) | (go_at_call 27; go_loud (refine (HVR.out _ (Kd.C_below HC.out (below_alloc HBW.out _))).mono ?_; rintro e w2 ⟨rfl, hB2⟩; have HX2 := Aside0.mk (blk_over HX.out hB2); have HR2 := Aside0.mk (blk_over HR0.out hB2); have HZ2 := Aside0.mk (blk_over HZ.out hB2); have HBW2 := Aside0.mk (below_then (below_alloc HBW.out _) (below_alloc HBW.out _).size hB2); clear hB2 r0 r1 r2 r3; have x0 := (blk_cell HX2.out 0 : w2.cell? ⟨w.heap.size, 0, none⟩ = _); have x1 := (blk_cell HX2.out 1 : w2.cell? ⟨w.heap.size, 1, none⟩ = _); have x2 := (blk_cell HX2.out 2 : w2.cell? ⟨w.heap.size, 2, none⟩ = _); have x3 := (blk_cell HX2.out 3 : w2.cell? ⟨w.heap.size, 3, none⟩ = _); have r0 := (blk_cell HR2.out 0 : w2.cell? ⟨w.heap.size + 1, 0, none⟩ = _); have r1 := (blk_cell HR2.out 1 : w2.cell? ⟨w.heap.size + 1, 1, none⟩ = _); have r2 := (blk_cell HR2.out 2 : w2.cell? ⟨w.heap.size + 1, 2, none⟩ = _); have r3 := (blk_cell HR2.out 3 : w2.cell? ⟨w.heap.size + 1, 3, none⟩ = _); have z0 := (blk_cell HZ2.out 0 : w2.cell? ⟨w.heap.size + 1 + 1, 0, none⟩ = _); have z1 := (blk_cell HZ2.out 1 : w2.cell? ⟨w.heap.size + 1 + 1, 1, none⟩ = _); have z2 := (blk_cell HZ2.out 2 : w2.cell? ⟨w.heap.size + 1 + 1, 2, none⟩ = _); have z3 := (blk_cell HZ2.out 3 : w2.cell? ⟨w.heap.size + 1 + 1, 3, none⟩ = _); have y0 := (blk_frozen HZ2.out 0 : w2.frozen? ⟨w.heap.size + 1 + 1, 0, none⟩ = false); have y1 := (blk_frozen HZ2.out 1 : w2.frozen? ⟨w.heap.size + 1 + 1, 1, none⟩ = false); have y2 := (blk_frozen HZ2.out 2 : w2.frozen? ⟨w.heap.size + 1 + 1, 2, none⟩ = false); have y3 := (blk_frozen HZ2.out 3 : w2.frozen? ⟨w.heap.size + 1 + 1, 3, none⟩ = false))) | (go_at_call 56; go_loud (refine (HWITH.out _ (Kd.C_below HA.out HBW2.out) (Kd.C_below HPB.out HBW2.out) (Kd.C_below HC.out HBW2.out)).mono ?_; rintro e w3 ⟨A7, c7, rfl, hl7, hF7, hB5⟩; have HF7 := Aside0.mk hF7; have HZ3 := Aside0.mk (blk_on HZ2.out hB5); have HBW3 := Aside0.mk (below_then HBW2.out HBW2.out.size hB5); clear hF7 hB5 x0 x1 x2 x3 r0 r1 r2 r3 z0 z1 z2 z3 y0 y1 y2 y3)))
    refine bodyPost_ret (results_ct rfl _ _ (w.heap.size + 1 + 1) 24 #[.int .i64 y.f0, .string y.f1, .int .i64 y.f2, .slice A7 y.f3.length c7] (0, 0) _ rfl (blk_put4 HZ4.out) Tryd.underlying24 rfl (by kernel_rfl)) rfl ?_
    have hsz2 := HBW2.out.size
    have hlt2 := blk_lt HZ2.out
    exact ⟨A7, c7, rfl, hl7, Kd.F_mono (F_set4 (Kd.F_below (Kd.F_alloc HF7.out _) HB34.out) (fun k hk => by omega)) (fun k hk => by omega), below_set4 HBW4.out (by omega)⟩
  | false =>
    rw [if_neg (by decide), if_neg (by decide)]
    go_enter Tryd.func34, Tryd.ntmps34
    go_wp2_with (first | (go_at_call 29; go_loud (refine (HROW.out _ (Kd.C_below HA.out (HB3 _ _ _).out) (Kd.C_below HPB.out (HB3 _ _ _).out)).mono ?_; rintro e w1 ⟨v, rfl, hRR, hB1⟩; obtain ⟨A1, c1, rfl⟩ := Kd.R_slice hRR; obtain ⟨HX, HR0, HZ, HBW, HSZ⟩ := withBoxes hB1; clear hRR hB1; have r0 := fun o => (blk_cell (blk_allocO HR0.out o) 0 : (w1.alloc o).cell? ⟨w.heap.size + 1, 0, none⟩ = _); have r1 := fun o => (blk_cell (blk_allocO HR0.out o) 1 : (w1.alloc o).cell? ⟨w.heap.size + 1, 1, none⟩ = _); have r2 := fun o => (blk_cell (blk_allocO HR0.out o) 2 : (w1.alloc o).cell? ⟨w.heap.size + 1, 2, none⟩ = _); have r3 := fun o => (blk_cell (blk_allocO HR0.out o) 3 : (w1.alloc o).cell? ⟨w.heap.size + 1, 3, none⟩ = _))) | (go_at_call 27; have hg := HF7; clear hg; go_loud (refine (HVY.out A7 c7 _ hl7 (Kd.C_below (Kd.F_now HF7.out) (below_alloc (Below.refl _ _) _))).mono ?_; rintro e w4 ⟨rfl, hB6⟩; have HZ4 := Aside0.mk (blk_over HZ3.out hB6); have H10 := Aside0.mk ((hB6.block w3.heap.size (by simp)).trans (heap_alloc_new w3 _)); have HBW4 := Aside0.mk (below_then (below_alloc HBW3.out _) (below_alloc HBW3.out _).size hB6); have HB34 := Aside0.mk hB6; clear hB6; have z0 := (blk_cell HZ4.out 0 : w4.cell? ⟨w.heap.size + 1 + 1, 0, none⟩ = _); have z1 := (blk_cell HZ4.out 1 : w4.cell? ⟨w.heap.size + 1 + 1, 1, none⟩ = _); have z2 := (blk_cell HZ4.out 2 : w4.cell? ⟨w.heap.size + 1 + 1, 2, none⟩ = _); have z3 := (blk_cell HZ4.out 3 : w4.cell? ⟨w.heap.size + 1 + 1, 3, none⟩ = _); have y0 := (blk_frozen HZ4.out 0 : w4.frozen? ⟨w.heap.size + 1 + 1, 0, none⟩ = false); have y1 := (blk_frozen HZ4.out 1 : w4.frozen? ⟨w.heap.size + 1 + 1, 1, none⟩ = false); have y2 := (blk_frozen HZ4.out 2 : w4.frozen? ⟨w.heap.size + 1 + 1, 2, none⟩ = false); have y3 := (blk_frozen HZ4.out 3 : w4.frozen? ⟨w.heap.size + 1 + 1, 3, none⟩ = false); have x0 := (blk_cell H10.out 0 : w4.cell? ⟨w3.heap.size, 0, none⟩ = _); have x1 := (blk_cell H10.out 1 : w4.cell? ⟨w3.heap.size, 1, none⟩ = _); have x2 := (blk_cell H10.out 2 : w4.cell? ⟨w3.heap.size, 2, none⟩ = _); have x3 := (blk_cell H10.out 3 : w4.cell? ⟨w3.heap.size, 3, none⟩ = _))) | (go_at_call 27; go_loud (refine (HVR.out _ (Kd.C_below HC.out (below_alloc HBW.out _))).mono ?_; rintro e w2 ⟨rfl, hB2⟩; have HX2 := Aside0.mk (blk_over HX.out hB2); have HR2 := Aside0.mk (blk_over HR0.out hB2); have HZ2 := Aside0.mk (blk_over HZ.out hB2); have HBW2 := Aside0.mk (below_then (below_alloc HBW.out _) (below_alloc HBW.out _).size hB2); clear hB2 r0 r1 r2 r3; have x0 := (blk_cell HX2.out 0 : w2.cell? ⟨w.heap.size, 0, none⟩ = _); have x1 := (blk_cell HX2.out 1 : w2.cell? ⟨w.heap.size, 1, none⟩ = _); have x2 := (blk_cell HX2.out 2 : w2.cell? ⟨w.heap.size, 2, none⟩ = _); have x3 := (blk_cell HX2.out 3 : w2.cell? ⟨w.heap.size, 3, none⟩ = _); have r0 := (blk_cell HR2.out 0 : w2.cell? ⟨w.heap.size + 1, 0, none⟩ = _); have r1 := (blk_cell HR2.out 1 : w2.cell? ⟨w.heap.size + 1, 1, none⟩ = _); have r2 := (blk_cell HR2.out 2 : w2.cell? ⟨w.heap.size + 1, 2, none⟩ = _); have r3 := (blk_cell HR2.out 3 : w2.cell? ⟨w.heap.size + 1, 3, none⟩ = _); have z0 := (blk_cell HZ2.out 0 : w2.cell? ⟨w.heap.size + 1 + 1, 0, none⟩ = _); have z1 := (blk_cell HZ2.out 1 : w2.cell? ⟨w.heap.size + 1 + 1, 1, none⟩ = _); have z2 := (blk_cell HZ2.out 2 : w2.cell? ⟨w.heap.size + 1 + 1, 2, none⟩ = _); have z3 := (blk_cell HZ2.out 3 : w2.cell? ⟨w.heap.size + 1 + 1, 3, none⟩ = _); have y0 := (blk_frozen HZ2.out 0 : w2.frozen? ⟨w.heap.size + 1 + 1, 0, none⟩ = false); have y1 := (blk_frozen HZ2.out 1 : w2.frozen? ⟨w.heap.size + 1 + 1, 1, none⟩ = false); have y2 := (blk_frozen HZ2.out 2 : w2.frozen? ⟨w.heap.size + 1 + 1, 2, none⟩ = false); have y3 := (blk_frozen HZ2.out 3 : w2.frozen? ⟨w.heap.size + 1 + 1, 3, none⟩ = false))) | (go_at_call 56; go_loud (refine (HWITH.out _ (Kd.C_below HA.out HBW2.out) (Kd.C_below HPB.out HBW2.out) (Kd.C_below HC.out HBW2.out)).mono ?_; rintro e w3 ⟨A7, c7, rfl, hl7, hF7, hB5⟩; have HF7 := Aside0.mk hF7; have HZ3 := Aside0.mk (blk_on HZ2.out hB5); have HBW3 := Aside0.mk (below_then HBW2.out HBW2.out.size hB5); clear hF7 hB5 x0 x1 x2 x3 r0 r1 r2 r3 z0 z1 z2 z3 y0 y1 y2 y3)))
    refine bodyPost_ret (results_ct rfl _ _ (w.heap.size + 1 + 1) 24 #[.int .i64 0, .string ⟨#[]⟩, .int .i64 0, .slice none 0 0] (0, 0) _ rfl (blk_put4 HZ4.out) Tryd.underlying24 rfl (by kernel_rfl)) rfl ?_
    exact ⟨none, 0, rfl, Nat.le_refl _, Kd.F_nil _ _ _, below_set4 HBW4.out (by omega)⟩
set_option maxRecDepth 100000 in
set_option maxHeartbeats 2000000 in
theorem withE_any (x r : S24) (p : List Int) (A B AR : Option Addr) (c d cR : Nat) (w : World) (hfx : fine x = true) (hfr : fine r = true) (hc : x.f3.length ≤ c) (hd : p.length ≤ d) (hR : r.f3.length ≤ cR) (hA : Kd.C k24 w A x.f3.length x.f3) (hB : Kd.C (Kd.int .i64) w B p.length p) (hC : Kd.C k24 w AR r.f3.length r.f3) :
    Calls Tryd.prog 34 #[.agg #[.int .i64 x.f0, .string x.f1, .int .i64 x.f2, .slice A x.f3.length c], .slice B p.length d, .agg #[.int .i64 r.f0, .string r.f1, .int .i64 r.f2, .slice AR r.f3.length cR]] w fun e w' => ∃ (A' : Option Addr) (c' : Nat), e = .returned (.tuple #[.agg #[.int .i64 (withE x p r).1.f0, .string (withE x p r).1.f1, .int .i64 (withE x p r).1.f2, .slice A' (withE x p r).1.f3.length c'], .int .i64 (withE x p r).2]) ∧ (withE x p r).1.f3.length ≤ c' ∧ Kd.F k24 w' (fun k => w.heap.size ≤ k) A' (withE x p r).1.f3.length (withE x p r).1.f3 ∧ Below w.heap.size w w' := by
  have HA := Aside0.mk hA
  have HPB := Aside0.mk hB
  have HC := Aside0.mk hC
  clear hA hB hC
  have HB3 : ∀ a b e : Obj, Aside0 (Below w.heap.size w (((w.alloc a).alloc b).alloc e)) := fun a b e => ⟨below_alloc (below_alloc (below_alloc (Below.refl _ _) _) _) _⟩
  obtain ⟨ev, hev⟩ : ∃ ev, (rowE x p).2 = ev := ⟨_, rfl⟩
  have HEV := Aside0.mk hev
  clear hev
  by_cases he : ev = 0
  · subst he
    have HG : Aside0 (validB x = true ∧ (rowG x p).2 = true) := ⟨by
      have h1 := HEV.out
      unfold rowE at h1
      by_cases hv : validB x = true
      · rw [if_pos hv] at h1
        by_cases hr : (rowG x p).2 = true
        · exact ⟨hv, hr⟩
        · rw [if_neg hr] at h1; simp at h1
      · rw [if_neg hv] at h1; simp at h1⟩
    have hrow := fun W hA hB => rowE_any x p A B c d W hfx hc hd hA hB
    rw [HEV.out] at hrow
    have HROW := Aside0.mk hrow
    clear hrow
    by_cases hvr : validB r = true
    · have hcx : cnt x ≤ 1000000 := by have := valid_cnt HG.out.1; omega
      have hcr : cnt r ≤ 1000000 := by have := valid_cnt hvr; omega
      have HOK := Aside0.mk (row_ok p.length x p (Nat.le_refl _) HG.out.2)
      have hfw : fine (withG x p r) = true := with_fine p.length x p r (Nat.le_refl _) HOK.out hfx hfr
      have hR2 : withE x p r = (if validB (withG x p r) = true then withG x p r else z24, if validB (withG x p r) = true then 0 else 6) := by
        unfold withE; rw [if_pos HG.out.1, if_pos HG.out.2, if_pos hvr]; split <;> rfl
      rw [hR2]
      exact withE_ok x r (withG x p r) p (validB (withG x p r)) A B AR c d cR w HA.out HPB.out HC.out HROW ⟨fun W h => by rw [← hvr]; exact valid_any r AR cR W hfr hR h⟩ ⟨fun W h1 h2 h3 => with_any p.length x p r A B AR c d cR W (Nat.le_refl _) HOK.out hcx hcr hc hd hR h1 h2 h3⟩ ⟨fun A' c' W h1 h2 => valid_any (withG x p r) A' c' W hfw h1 h2⟩
    · have HR : Aside0 (withE x p r = (z24, 4)) := ⟨by unfold withE; rw [if_pos HG.out.1, if_pos HG.out.2, if_neg hvr]⟩
      have hvr2 : validB r = false := by simpa using hvr
      clear hvr
      go_enter Tryd.func34, Tryd.ntmps34
      go_wp2_with (first | (go_at_call 29; go_loud (refine (HROW.out _ (Kd.C_below HA.out (HB3 _ _ _).out) (Kd.C_below HPB.out (HB3 _ _ _).out)).mono ?_; rintro e w1 ⟨v, rfl, hRR, hB1⟩; obtain ⟨A1, c1, rfl⟩ := Kd.R_slice hRR; obtain ⟨HX, HR0, HZ, HBW, HSZ⟩ := withBoxes hB1; clear hRR hB1; have r0 := fun o => (blk_cell (blk_allocO HR0.out o) 0 : (w1.alloc o).cell? ⟨w.heap.size + 1, 0, none⟩ = _); have r1 := fun o => (blk_cell (blk_allocO HR0.out o) 1 : (w1.alloc o).cell? ⟨w.heap.size + 1, 1, none⟩ = _); have r2 := fun o => (blk_cell (blk_allocO HR0.out o) 2 : (w1.alloc o).cell? ⟨w.heap.size + 1, 2, none⟩ = _); have r3 := fun o => (blk_cell (blk_allocO HR0.out o) 3 : (w1.alloc o).cell? ⟨w.heap.size + 1, 3, none⟩ = _))) | (go_at_call 27; go_loud (refine (valid_any r AR cR _ hfr hR (Kd.C_below HC.out (below_alloc HBW.out _))).mono ?_; rintro e w2 ⟨rfl, hB2⟩; have HX2 := Aside0.mk (blk_over HX.out hB2); have HR2 := Aside0.mk (blk_over HR0.out hB2); have HZ2 := Aside0.mk (blk_over HZ.out hB2); have HBW2 := Aside0.mk (below_then (below_alloc HBW.out _) (below_alloc HBW.out _).size hB2); clear hB2 r0 r1 r2 r3; have x0 := (blk_cell HX2.out 0 : w2.cell? ⟨w.heap.size, 0, none⟩ = _); have x1 := (blk_cell HX2.out 1 : w2.cell? ⟨w.heap.size, 1, none⟩ = _); have x2 := (blk_cell HX2.out 2 : w2.cell? ⟨w.heap.size, 2, none⟩ = _); have x3 := (blk_cell HX2.out 3 : w2.cell? ⟨w.heap.size, 3, none⟩ = _); have r0 := (blk_cell HR2.out 0 : w2.cell? ⟨w.heap.size + 1, 0, none⟩ = _); have r1 := (blk_cell HR2.out 1 : w2.cell? ⟨w.heap.size + 1, 1, none⟩ = _); have r2 := (blk_cell HR2.out 2 : w2.cell? ⟨w.heap.size + 1, 2, none⟩ = _); have r3 := (blk_cell HR2.out 3 : w2.cell? ⟨w.heap.size + 1, 3, none⟩ = _); have z0 := (blk_cell HZ2.out 0 : w2.cell? ⟨w.heap.size + 1 + 1, 0, none⟩ = _); have z1 := (blk_cell HZ2.out 1 : w2.cell? ⟨w.heap.size + 1 + 1, 1, none⟩ = _); have z2 := (blk_cell HZ2.out 2 : w2.cell? ⟨w.heap.size + 1 + 1, 2, none⟩ = _); have z3 := (blk_cell HZ2.out 3 : w2.cell? ⟨w.heap.size + 1 + 1, 3, none⟩ = _); have y0 := (blk_frozen HZ2.out 0 : w2.frozen? ⟨w.heap.size + 1 + 1, 0, none⟩ = false); have y1 := (blk_frozen HZ2.out 1 : w2.frozen? ⟨w.heap.size + 1 + 1, 1, none⟩ = false); have y2 := (blk_frozen HZ2.out 2 : w2.frozen? ⟨w.heap.size + 1 + 1, 2, none⟩ = false); have y3 := (blk_frozen HZ2.out 3 : w2.frozen? ⟨w.heap.size + 1 + 1, 3, none⟩ = false))))
      refine bodyPost_ret (results_ct rfl _ _ (w.heap.size + 1 + 1) 24 #[.int .i64 0, .string ⟨#[]⟩, .int .i64 0, .slice none 0 0] (0, 0) _ rfl (blk_put4 HZ2.out) Tryd.underlying24 rfl (by kernel_rfl)) rfl ?_
      exact ⟨none, 0, by rw [HR.out]; rfl, by rw [HR.out]; exact Nat.le_refl _, by rw [HR.out]; exact Kd.F_nil _ _ _, below_set4 HBW2.out (by omega)⟩
  · have HR : Aside0 (withE x p r = (z24, ev)) := ⟨by
      have h1 := HEV.out
      unfold rowE at h1
      unfold withE
      by_cases hv : validB x = true
      · rw [if_pos hv] at h1 ⊢
        by_cases hr : (rowG x p).2 = true
        · rw [if_pos hr] at h1; exact absurd h1.symm he
        · rw [if_neg hr] at h1 ⊢; rw [← h1]
      · rw [if_neg hv] at h1 ⊢; rw [← h1]⟩
    have hrow := fun W hA hB => rowE_any x p A B c d W hfx hc hd hA hB
    rw [HEV.out] at hrow
    have HROW := Aside0.mk hrow
    clear hrow
    go_enter Tryd.func34, Tryd.ntmps34
    go_wp2_with (go_at_call 29; go_loud (refine (HROW.out _ (Kd.C_below HA.out (HB3 _ _ _).out) (Kd.C_below HPB.out (HB3 _ _ _).out)).mono ?_; rintro e w1 ⟨v, rfl, hRR, hB1⟩; obtain ⟨A1, c1, rfl⟩ := Kd.R_slice hRR; obtain ⟨HX, HR0, HZ, HBW, HSZ⟩ := withBoxes hB1; clear hRR hB1; have z0 := fun o => (blk_cell (blk_allocO HZ.out o) 0 : (w1.alloc o).cell? ⟨w.heap.size + 1 + 1, 0, none⟩ = _); have z1 := fun o => (blk_cell (blk_allocO HZ.out o) 1 : (w1.alloc o).cell? ⟨w.heap.size + 1 + 1, 1, none⟩ = _); have z2 := fun o => (blk_cell (blk_allocO HZ.out o) 2 : (w1.alloc o).cell? ⟨w.heap.size + 1 + 1, 2, none⟩ = _); have z3 := fun o => (blk_cell (blk_allocO HZ.out o) 3 : (w1.alloc o).cell? ⟨w.heap.size + 1 + 1, 3, none⟩ = _); have y0 := fun o => (blk_frozen (blk_allocO HZ.out o) 0 : (w1.alloc o).frozen? ⟨w.heap.size + 1 + 1, 0, none⟩ = false); have y1 := fun o => (blk_frozen (blk_allocO HZ.out o) 1 : (w1.alloc o).frozen? ⟨w.heap.size + 1 + 1, 1, none⟩ = false); have y2 := fun o => (blk_frozen (blk_allocO HZ.out o) 2 : (w1.alloc o).frozen? ⟨w.heap.size + 1 + 1, 2, none⟩ = false); have y3 := fun o => (blk_frozen (blk_allocO HZ.out o) 3 : (w1.alloc o).frozen? ⟨w.heap.size + 1 + 1, 3, none⟩ = false)))
    refine bodyPost_ret (results_ct rfl _ _ (w.heap.size + 1 + 1) 24 #[.int .i64 0, .string ⟨#[]⟩, .int .i64 0, .slice none 0 0] (0, 0) _ rfl (blk_put4 (blk_allocO HZ.out _)) Tryd.underlying24 rfl (by kernel_rfl)) rfl ?_
    exact ⟨none, 0, by rw [HR.out]; rfl, by rw [HR.out]; exact Nat.le_refl _, by rw [HR.out]; exact Kd.F_nil _ _ _, below_set4 (below_alloc HBW.out _) (by omega)⟩
end Go.Proofs.YtgcpfelccfnnbaaDoor.X
