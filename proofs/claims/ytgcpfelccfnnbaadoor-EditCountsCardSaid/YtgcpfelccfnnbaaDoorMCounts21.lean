/-
Part 21 of the texts of this proof: the walks through the program's functions.
-/
import Derived.Test.YtgcpfelccfnnbaaDoorMCounts2
import Derived.Test.YtgcpfelccfnnbaaDoorMCounts8
import Derived.Test.YtgcpfelccfnnbaaDoorMCounts20
namespace Go.Proofs.YtgcpfelccfnnbaaDoor.X
open Go.RowKit Go.Proofs.YtgcpfelccfnnbaaDoorW.PrintWords Go.Proofs.YtgcpfelccfnnbaaDoorW.PrintLast Go.Proofs.YtgcpfelccfnnbaaDoorW.PrintMore
attribute [local go_sem] max2_int min2_int max_two min_two max_three min_three max_four min_four   -- for this text's walks alone
set_option linter.unusedVariables false
set_option linter.unusedSimpArgs false
set_option maxRecDepth 100000 in
set_option maxHeartbeats 1000000 in
theorem equal_any (N : Nat) : EqSpec 49 N := by
  induction N with
  | zero => intro x y A B c d w h; have := cnt_pos x; omega
  | succ N ih =>
  intro x y A B c d w hN hc hd hA hB
  have hsub : cntL x.f3 ≤ N := by rw [cnt_eq] at hN; omega
  obtain ⟨f0, f1, f2, l⟩ := x
  obtain ⟨g0, g1, g2, m⟩ := y
  simp only at hsub hc hd hA hB ⊢
  have hbb : ∀ o1 o2 : Obj, Aside0 (Below w.heap.size w ((w.alloc o1).alloc o2)) := fun o1 o2 => ⟨below_alloc (below_alloc (Below.refl _ _) _) _⟩
  have hstep := fun o1 o2 : Obj => equalFunc_step N ih l m A B c d ((w.alloc o1).alloc o2) hsub hc hd (Kd.C_below hA (hbb o1 o2).out) (Kd.C_below hB (hbb o1 o2).out)
  have HST := Aside0.mk hstep
  clear hstep ih hA hB hN
  by_cases h0 : f0 = g0
  · by_cases h1 : f1.data.toList = g1.data.toList
    · by_cases h2 : f2 = g2
      · have HR : Aside0 (eqN ⟨f0, f1, f2, l⟩ ⟨g0, g1, g2, m⟩ = eqL l m) := ⟨by rw [eqN, decide_eq_true h0, decide_eq_true h1, decide_eq_true h2]; rfl⟩
        have q0 : (f0 == g0) = true := beq_iff_eq.2 h0
        have q1 : (f1.toList == g1.toList) = true := by rw [ba_toList, ba_toList, h1]; simp
        have q2 : (f2 == g2) = true := beq_iff_eq.2 h2
        clear h0 h1 h2
        go_enter Tryd.func49, Tryd.ntmps49
        go_wp2_with (go_at_call 48; go_loud (refine (HST.out _ _).mono ?_; rintro e w3 ⟨rfl, hb3⟩))
        go_ret
        exact ⟨by rw [HR.out]; rfl, below_then (hbb _ _).out (hbb _ _).out.size hb3⟩
      · have HR : Aside0 (eqN ⟨f0, f1, f2, l⟩ ⟨g0, g1, g2, m⟩ = false) := ⟨by rw [eqN, decide_eq_true h0, decide_eq_true h1, decide_eq_false h2]; rfl⟩
        have q0 : (f0 == g0) = true := beq_iff_eq.2 h0
        have q1 : (f1.toList == g1.toList) = true := by rw [ba_toList, ba_toList, h1]; simp
        have q2 : (f2 == g2) = false := beq_eq_false_iff_ne.2 h2
        clear h0 h1 h2
        go_enter Tryd.func49, Tryd.ntmps49
        go_wp2_with fail
        go_ret
        exact ⟨by rw [HR.out]; rfl, (hbb _ _).out⟩
    · have HR : Aside0 (eqN ⟨f0, f1, f2, l⟩ ⟨g0, g1, g2, m⟩ = false) := ⟨by rw [eqN, decide_eq_true h0, decide_eq_false h1]; rfl⟩
      have q0 : (f0 == g0) = true := beq_iff_eq.2 h0
      have q1 : (f1.toList == g1.toList) = false := by rw [ba_toList, ba_toList]; simpa using h1
      clear h0 h1
      go_enter Tryd.func49, Tryd.ntmps49
      go_wp2_with fail
      go_ret
      exact ⟨by rw [HR.out]; rfl, (hbb _ _).out⟩
  · have HR : Aside0 (eqN ⟨f0, f1, f2, l⟩ ⟨g0, g1, g2, m⟩ = false) := ⟨by rw [eqN, decide_eq_false h0]; rfl⟩
    have q0 : (f0 == g0) = false := beq_eq_false_iff_ne.2 h0
    clear h0
    go_enter Tryd.func49, Tryd.ntmps49
    go_wp2_with fail
    go_ret
    exact ⟨by rw [HR.out]; rfl, (hbb _ _).out⟩
def node_Equal.f (a0_0 : Int) (a0_1 : ByteArray) (a0_2 : Int) (l0_3 : List S24) (a1_0 : Int) (a1_1 : ByteArray) (a1_2 : Int) (l1_3 : List S24) : Option Bool := some (eqN ⟨a0_0, a0_1, a0_2, l0_3⟩ ⟨a1_0, a1_1, a1_2, l1_3⟩)
theorem node_Equal.calls (a0_0 : Int) (a0_1 : ByteArray) (a0_2 : Int) (A0_3 : Option Addr) (c0_3 : Nat) (l0_3 : List S24) (a1_0 : Int) (a1_1 : ByteArray) (a1_2 : Int) (A1_3 : Option Addr) (c1_3 : Nat) (l1_3 : List S24) (r : Bool) (w : World) (hr0_3 : Kd.C k24 w A0_3 l0_3.length l0_3) (hc0_3 : l0_3.length ≤ c0_3) (hr1_3 : Kd.C k24 w A1_3 l1_3.length l1_3) (hc1_3 : l1_3.length ≤ c1_3) (h : node_Equal.f a0_0 a0_1 a0_2 l0_3 a1_0 a1_1 a1_2 l1_3 = some r) :
    Calls Tryd.prog 49 #[.agg #[.int .i64 a0_0, .string a0_1, .int .i64 a0_2, .slice A0_3 l0_3.length c0_3], .agg #[.int .i64 a1_0, .string a1_1, .int .i64 a1_2, .slice A1_3 l1_3.length c1_3]] w fun e w' => e = .returned (.bool r) ∧ Below w.heap.size w w' := by
  unfold node_Equal.f at h
  injection h with h
  subst h
  exact equal_any _ ⟨a0_0, a0_1, a0_2, l0_3⟩ ⟨a1_0, a1_1, a1_2, l1_3⟩ A0_3 A1_3 c0_3 c1_3 w (Nat.le_refl _) hc0_3 hc1_3 hr0_3 hr1_3
theorem equalFunc_any (l ys : List S24) (A B : Option Addr) (c d : Nat) (w : World) (hc : l.length ≤ c) (hd : ys.length ≤ d) (hA : Kd.C k24 w A l.length l) (hB : Kd.C k24 w B ys.length ys) :
    Calls Tryd.prog 48 #[.slice A l.length c, .slice B ys.length d, .func (.func 49) #[] #[]] w fun e w' => e = .returned (.bool (eqL l ys)) ∧ Below w.heap.size w w' :=
  equalFunc_step (cntL l) (equal_any _) l ys A B c d w (Nat.le_refl _) hc hd hA hB
def api_Node_48.f (l0 l1 : List S24) : Option Bool := some (eqL l0 l1)
theorem api_Node_48.calls (A0 : Option Addr) (c0 : Nat) (l0 : List S24) (A1 : Option Addr) (c1 : Nat) (l1 : List S24) (r : Bool) (w : World) (hr0 : Kd.C k24 w A0 l0.length l0) (hc0 : l0.length ≤ c0) (hr1 : Kd.C k24 w A1 l1.length l1) (hc1 : l1.length ≤ c1) (h : api_Node_48.f l0 l1 = some r) :
    Calls Tryd.prog 48 #[.slice A0 l0.length c0, .slice A1 l1.length c1, .func (.func 49) #[] #[]] w fun e w' => e = .returned (.bool r) ∧ Below w.heap.size w w' := by
  unfold api_Node_48.f at h
  injection h with h
  subst h
  exact equalFunc_any l0 l1 A0 A1 c0 c1 w hc0 hc1 hr0 hr1
end Go.Proofs.YtgcpfelccfnnbaaDoor.X
namespace Go.Proofs.YtgcpfelccfnnbaaDoor.X
open Go.RowKit Go.Proofs.YtgcpfelccfnnbaaDoorW.PrintWords Go.Proofs.YtgcpfelccfnnbaaDoorW.PrintLast Go.Proofs.YtgcpfelccfnnbaaDoorW.PrintMore
attribute [local go_sem] max2_int min2_int max_two min_two max_three min_three max_four min_four   -- for this text's walks alone
set_option linter.unusedVariables false
set_option linter.unusedSimpArgs false
/-- What holds at the head of round i of the loop over the copied row. -/
def CRel (w0 : World) (l : List S24) (f0 : Int) (f1 : ByteArray) (f2 : Int) (A1 : Option Addr) (c1 : Nat) (i : Nat) (wr : World) : Prop :=
  Below w0.heap.size w0 wr ∧ wr.heap[w0.heap.size]? = some (.cells #[.int .i64 f0, .string f1, .int .i64 f2, .slice A1 l.length c1] 24 (0, 0)) ∧ wr.heap[w0.heap.size + 1]? = some (.cells #[.int .i64 0, .string ⟨#[]⟩, .int .i64 0, .slice none 0 0] 24 (0, 0)) ∧
  ∃ (rows : List (List Value)) (b : Nat → Nat), rows.length = l.length ∧ (Kd.raw 4).R 24 wr w0.heap.size (fun k => some k = (Value.slice A1 l.length c1).ownBlock) (.slice A1 l.length c1) rows ∧ (∀ k, (Value.slice A1 l.length c1).ownBlock = some k → w0.heap.size + 2 ≤ k ∧ k < b 0) ∧ (∀ j, j < i → b j ≤ b (j + 1)) ∧ w0.heap.size + 2 ≤ b 0 ∧ b i ≤ wr.heap.size ∧
  (∀ j x c, j < i → l[j]? = some x → rows[j]? = some c → k24.M wr w0.heap.size (fun k => b j ≤ k ∧ k < b (j + 1)) x c) ∧ (∀ j x c, i ≤ j → l[j]? = some x → rows[j]? = some c → Kd.FK k24 w0 (fun k => k < w0.heap.size) x c)
theorem b_mono {b : Nat → Nat} {i : Nat} (h : ∀ j, j < i → b j ≤ b (j + 1)) : ∀ j, j ≤ i → b 0 ≤ b j := by
  intro j
  induction j with
  | zero => intro _; exact Nat.le_refl _
  | succ j ih => intro hj; exact Nat.le_trans (ih (by omega)) (h j (by omega))
theorem b_mono2 {b : Nat → Nat} {i : Nat} (h : ∀ j, j < i → b j ≤ b (j + 1)) : ∀ j' j, j ≤ j' → j' ≤ i → b j ≤ b j' := by
  intro j'
  induction j' with
  | zero => intro j hj _; have : j = 0 := (by omega); subst this; exact Nat.le_refl _
  | succ j' ih =>
    intro j hj hi
    rcases Nat.lt_or_ge j (j' + 1) with h1 | h1
    · exact Nat.le_trans (ih j (by omega) (by omega)) (h j' (by omega))
    · have : j = j' + 1 := by omega
      subst this
      exact Nat.le_refl _
theorem CRel_drew {w0 wr : World} {l : List S24} {f0 : Int} {f1 : ByteArray} {f2 : Int} {A1 : Option Addr} {c1 i : Nat} (h : CRel w0 l f0 f1 f2 A1 c1 i wr) : CRel w0 l f0 f1 f2 A1 c1 i wr.drew := by
  obtain ⟨hB, hb, hr, rows, b, hl, hraw, hown, hmono, hb0, hbi, hM, hF⟩ := h
  exact ⟨below_drew hB, hb, hr, rows, b, hl, Kd.R_drew hraw, hown, hmono, hb0, hbi, fun j x c hj hx hc => Kd.M_below (hM j x c hj hx hc) (below_drew (Below.refl _ _)), hF⟩
theorem CRel_start {w0 w1 : World} {l : List S24} {f0 : Int} {f1 : ByteArray} {f2 : Int} {A1 : Option Addr} {c1 : Nat} {o1 : Obj} (hlt : w0.heap.size + 2 ≤ w1.heap.size)
    (hR : (held k24 w0 (fun k => k < w0.heap.size)).R 24 w1 (w0.heap.size + 2) (fun k => w0.heap.size + 2 ≤ k) (.slice A1 l.length c1) l) (hB : Below w0.heap.size w0 w1)
    (hb : w1.heap[w0.heap.size]? = some (.cells #[.int .i64 f0, .string f1, .int .i64 f2, .slice A1 l.length c1] 24 (0, 0))) (hr : w1.heap[w0.heap.size + 1]? = some (.cells #[.int .i64 0, .string ⟨#[]⟩, .int .i64 0, .slice none 0 0] 24 (0, 0))) :
    CRel w0 l f0 f1 f2 A1 c1 0 w1 := by
  obtain ⟨rows, hl, hraw, hf⟩ := R_raw hR
  have hlt2 := Kd.R_lt hR
  refine ⟨hB, hb, hr, rows, fun _ => w1.heap.size, hl, Kd.R_lower hraw (by omega), fun k hk => ⟨hR.1 k hk, hlt2 k hk⟩, fun j hj => by omega, hlt, Nat.le_refl _, fun j x c hj => by omega, fun j x c _ hx hc => hf j x c hx hc⟩
/-- Element i of the row: its cells and what they read as. -/
theorem CRel_elem {w0 wr : World} {l : List S24} {f0 : Int} {f1 : ByteArray} {f2 : Int} {A1 : Option Addr} {c1 i : Nat} (h : CRel w0 l f0 f1 f2 A1 c1 i wr) (hi : i < l.length) :
    ∃ g A3 c3, A1 = some ⟨g, 0, none⟩ ∧ w0.heap.size + 2 ≤ g ∧ (∃ cells, wr.heap[g]? = some (.cells cells 24 (0, 0))) ∧ (nth l i).f3.length ≤ c3 ∧ Kd.C k24 w0 A3 (nth l i).f3.length (nth l i).f3 ∧
    wr.cell? ⟨g, i * 4, none⟩ = some (.int .i64 (nth l i).f0) ∧ wr.cell? ⟨g, i * 4 + 1, none⟩ = some (.string (nth l i).f1) ∧ wr.cell? ⟨g, i * 4 + 2, none⟩ = some (.int .i64 (nth l i).f2) ∧ wr.cell? ⟨g, i * 4 + 3, none⟩ = some (.slice A3 (nth l i).f3.length c3) := by
  obtain ⟨hB, hb, hr, rows, b, hl, hraw, hown, hmono, hb0, hbi, hM, hF⟩ := h
  obtain ⟨A, c, hv⟩ := Kd.R_slice hraw
  have hpos : 0 < rows.length := by omega
  obtain ⟨g, cap, hg, hge, hgl, hcells⟩ := Kd.R_form hraw hpos
  injection hg with hg1 hg2 hg3
  subst hg1
  obtain ⟨c', hcl, hMM, hcc, hfr⟩ := Kd.R_elem hraw [] (i : Int) (by omega) (by omega)
  simp only [Int.toNat_natCast] at hMM hcc
  have hrow : rows[i]? = some c' := by
    have h2 := hMM.1
    rw [List.getD_eq_getElem?_getD, List.getElem?_eq_getElem (by omega)] at h2
    rw [List.getElem?_eq_getElem (by omega)]
    simp at h2
    rw [h2]
  have hx : l[i]? = some (nth l i) := nth_some hi
  have hk := hF i _ _ (Nat.le_refl _) hx hrow
  obtain ⟨A3, c3, rfl, l3, g3⟩ := k24_open (Kd.FK_now hk)
  exact ⟨g, A3, c3, rfl, (hown g (by simp [Value.ownBlock])).1, hcells, l3, g3, hcc 0 _ rfl, hcc 1 _ rfl, hcc 2 _ rfl, hcc 3 _ rfl⟩
/-- The same, the address a letter. -/
theorem CRel_elemA {w0 wr : World} {l : List S24} {f0 : Int} {f1 : ByteArray} {f2 : Int} {A1 : Option Addr} {c1 i : Nat} (h : CRel w0 l f0 f1 f2 A1 c1 i wr) (hi : i < l.length) :
    ∃ ad g A3 c3, A1 = some ad ∧ Aside0 (ad = ⟨g, 0, none⟩) ∧ Aside0 (w0.heap.size + 2 ≤ g) ∧ Aside0 (∃ cells, wr.heap[g]? = some (.cells cells 24 (0, 0))) ∧ (nth l i).f3.length ≤ c3 ∧ Aside0 (Kd.C k24 w0 A3 (nth l i).f3.length (nth l i).f3) ∧
    wr.cell? (ad.add (i * 4)) = some (.int .i64 (nth l i).f0) ∧ wr.cell? ⟨(ad.add (i * 4)).block, (ad.add (i * 4)).off + 1, none⟩ = some (.string (nth l i).f1) ∧ wr.cell? ⟨(ad.add (i * 4)).block, (ad.add (i * 4)).off + 2, none⟩ = some (.int .i64 (nth l i).f2) ∧ wr.cell? ⟨(ad.add (i * 4)).block, (ad.add (i * 4)).off + 3, none⟩ = some (.slice A3 (nth l i).f3.length c3) := by
  obtain ⟨g, A3, c3, hA, hg, hcells, h1, h2, e0, e1, e2, e3⟩ := CRel_elem h hi
  exact ⟨⟨g, 0, none⟩, g, A3, c3, hA, ⟨rfl⟩, ⟨hg⟩, ⟨hcells⟩, h1, ⟨h2⟩, by rw [add_plain]; exact e0, by rw [add_plain]; exact e1, by rw [add_plain]; exact e2, by rw [add_plain]; exact e3⟩
/-- The round: element i has been copied (the call), its cells are stored. -/
theorem CRel_step {w0 wr w2 : World} {l : List S24} {f0 : Int} {f1 : ByteArray} {f2 : Int} {g c1 i : Nat} {v : Value} (h : CRel w0 l f0 f1 f2 (some ⟨g, 0, none⟩) c1 i wr) (hi : i < l.length) (hb2 : Below wr.heap.size wr w2)
    (hv : Kd.R k24 24 w2 wr.heap.size (fun k => wr.heap.size ≤ k) v (nth l i).f3) :
    CRel w0 l f0 f1 f2 (some ⟨g, 0, none⟩) c1 (i + 1) (w2.setCells g (i * 4) [.int .i64 (nth l i).f0, .string (nth l i).f1, .int .i64 (nth l i).f2, v]) := by
  obtain ⟨hB, hb, hr, rows, b, hl, hraw, hown, hmono, hb0, hbi, hM, hF⟩ := h
  have hx : l[i]? = some (nth l i) := nth_some hi
  have hg := hown g (by simp [Value.ownBlock])
  have hsz := hB.size
  have hraw2 := Kd.R_below hraw hb2
  obtain ⟨c', hcl, hMM, hcc, hfr⟩ := Kd.R_elem hraw2 [] (i : Int) (by omega) (by omega)
  have hone : ∀ u ∈ ([.int .i64 (nth l i).f0, .string (nth l i).f1, .int .i64 (nth l i).f2, v] : List Value), u.oneCell' = true := by
    intro u hu
    simp only [List.mem_cons, List.mem_nil_iff, or_false] at hu
    rcases hu with rfl | rfl | rfl | rfl
    · rfl
    · rfl
    · rfl
    · obtain ⟨A, c, rfl⟩ := Kd.R_slice hv; rfl
  have hcat : c'.take 0 ++ [Value.int .i64 (nth l i).f0, .string (nth l i).f1, .int .i64 (nth l i).f2, v] ++ c'.drop (0 + 4) = [Value.int .i64 (nth l i).f0, .string (nth l i).f1, .int .i64 (nth l i).f2, v] := by
    have h4 : c'.length = 4 := hcl
    rw [List.take_zero, List.nil_append, List.drop_eq_nil_of_le (by omega), List.append_nil]
  obtain ⟨hset, hgrow⟩ := Kd.R_seg hraw2 (i : Int) (by omega) (by omega) (seg := [.int .i64 (nth l i).f0, .string (nth l i).f1, .int .i64 (nth l i).f2, v]) (j := 0) (x' := [.int .i64 (nth l i).f0, .string (nth l i).f1, .int .i64 (nth l i).f2, v]) (okp := fun _ => False) hcl hcc (by show 0 + 4 ≤ 4; omega) (by show (Kd.raw 4).M _ _ _ _ (c'.take 0 ++ _ ++ c'.drop (0 + 4)); rw [hcat]; exact ⟨rfl, rfl, hone⟩) (fun _ h => h.elim)
  simp only [Int.toNat_natCast, Nat.add_zero] at hset hgrow
  have hszg : w2.heap.size ≤ (w2.setCells g (i * 4) [.int .i64 (nth l i).f0, .string (nth l i).f1, .int .i64 (nth l i).f2, v]).heap.size := hgrow.size
  have hfar : ∀ k, k < w2.heap.size → k ≠ g → (w2.setCells g (i * 4) [.int .i64 (nth l i).f0, .string (nth l i).f1, .int .i64 (nth l i).f2, v]).heap[k]? = w2.heap[k]? := fun k hk hne => hgrow.block k hk (fun he => hne (by injection he))
  have hw2 : wr.heap.size ≤ w2.heap.size := hb2.size
  obtain ⟨b', hbe, hbs⟩ : ∃ b' : Nat → Nat, (∀ j, j ≤ i → b' j = b j) ∧ b' (i + 1) = w2.heap.size := ⟨fun j => if j ≤ i then b j else w2.heap.size, fun j hj => if_pos hj, if_neg (by omega)⟩
  have hbz := hbe 0 (Nat.zero_le _)
  have hbb := b_mono hmono i (Nat.le_refl _)
  refine ⟨(below_then hB hsz hb2).grown hgrow (by omega) (fun k hk => by injection hk with hk; omega), ?_, ?_, rows.set i _, b', by rw [List.length_set]; exact hl, hset, fun k hk => ⟨(hown k hk).1, by rw [hbz]; exact (hown k hk).2⟩, fun j hj => ?_, by rw [hbz]; exact hb0, by rw [hbs]; exact hszg, ?_, ?_⟩
  · rw [hfar _ (by omega) (by omega), hb2.block _ (by omega)]; exact hb
  · rw [hfar _ (by omega) (by omega), hb2.block _ (by omega)]; exact hr
  · rw [hbe j (by omega)]
    by_cases h1 : j < i
    · rw [hbe (j + 1) (by omega)]; exact hmono j h1
    · have : j = i := by omega
      subst this
      rw [hbs]
      omega
  · intro j x c hj hxj hcj
    rw [hbe j (by omega)]
    by_cases h1 : j < i
    · rw [List.getElem?_set_ne (by omega)] at hcj
      rw [hbe (j + 1) (by omega)]
      have h3 := hM j x c h1 hxj hcj
      have hb1 := b_mono2 hmono i (j + 1) (by omega) (Nat.le_refl _)
      have hbj := b_mono hmono j (by omega)
      exact k24.M_move (fun k hk => hfar k (by omega) (by omega)) (Kd.M_below h3 hb2)
    · have : j = i := by omega
      subst this
      rw [List.getElem?_set_self (by omega)] at hcj
      injection hcj with hcj
      rw [hx] at hxj
      injection hxj with hxj
      subst hcj
      rw [hbs, ← hxj]
      have h4 := Kd.R_mono (Kd.R_bound hv) (ok' := fun k => b j ≤ k ∧ k < w2.heap.size) (fun k hk => ⟨by have := hk.1; omega, hk.2.2.1⟩)
      have hbj := b_mono hmono j (by omega)
      have h5 := Kd.R_step (w1 := w2.setCells g (j * 4) [.int .i64 (nth l j).f0, .string (nth l j).f1, .int .i64 (nth l j).f2, v]) h4 (fun k hk hlt => hfar k hlt (by omega))
      exact k24.M_lower (by omega) (k24_mkM _ _ _ _ h5)
  · intro j x c hj hxj hcj
    rw [List.getElem?_set_ne (by omega)] at hcj
    exact hF j x c (by omega) hxj hcj
/-- Behind the loop: the row, its elements apart. -/
theorem CRel_end {w0 wr : World} {l : List S24} {f0 : Int} {f1 : ByteArray} {f2 : Int} {A1 : Option Addr} {c1 : Nat} (h : CRel w0 l f0 f1 f2 A1 c1 l.length wr) : Kd.S k24 24 wr w0.heap.size (fun k => w0.heap.size + 2 ≤ k) (.slice A1 l.length c1) l := by
  obtain ⟨hB, hb, hr, rows, b, hl, hraw, hown, hmono, hb0, hbi, hM, hF⟩ := h
  have hex : ∃ f : Nat → Nat, ∀ j k, j < l.length → b j ≤ k → k < b (j + 1) → f k = j := by
    refine ⟨fun k => if h : ∃ j, j < l.length ∧ b j ≤ k ∧ k < b (j + 1) then h.choose else 0, fun j k hj h1 h2 => ?_⟩
    have h3 : ∃ j, j < l.length ∧ b j ≤ k ∧ k < b (j + 1) := ⟨j, hj, h1, h2⟩
    simp only [dif_pos h3]
    obtain ⟨h4, h5, h6⟩ := h3.choose_spec
    rcases Nat.lt_trichotomy h3.choose j with hlt | heq | hgt
    · have := b_mono2 hmono j (h3.choose + 1) hlt (by omega); omega
    · exact heq
    · have := b_mono2 hmono h3.choose (j + 1) hgt (by omega); omega
  obtain ⟨f, hf⟩ := hex
  refine ⟨f, raw_R_of (d := Kd.tag f k24) hraw (by rw [List.length_zipIdx]; exact hl) (fun k hk => (hown k hk).1) (fun j p c hp hc => ?_)⟩
  have hjl : j < l.length := by have := (List.getElem?_eq_some_iff.1 hc).1; omega
  rw [List.getElem?_zipIdx, List.getElem?_eq_getElem hjl] at hp
  simp only [Option.map_some, Option.some.injEq, Nat.zero_add] at hp
  subst hp
  have h3 := hM j _ c hjl (List.getElem?_eq_getElem hjl) hc
  have hbj := b_mono hmono j (by omega)
  refine k24.M_mono (fun k hk => ⟨⟨?_, fun he => ?_⟩, hf j k hjl hk.1 hk.2⟩) h3
  · have := hk.1; omega
  · have := (hown k he.symm).2; omega
end Go.Proofs.YtgcpfelccfnnbaaDoor.X
namespace Go.Proofs.YtgcpfelccfnnbaaDoor.X
open Go.RowKit Go.Proofs.YtgcpfelccfnnbaaDoorW.PrintWords Go.Proofs.YtgcpfelccfnnbaaDoorW.PrintLast Go.Proofs.YtgcpfelccfnnbaaDoorW.PrintMore
attribute [local go_sem] max2_int min2_int max_two min_two max_three min_three max_four min_four   -- for this text's walks alone
set_option linter.unusedVariables false
set_option linter.unusedSimpArgs false
def api_Node_54.f (l0 : List S24) : Option (List S24) := if l0.length * 56 ≤ 140737488355328 then some l0 else none
set_option maxRecDepth 100000 in
set_option maxHeartbeats 400000 in
theorem api_Node_54.fresh (P : Nat → Prop) (A0 : Option Addr) (c0 : Nat) (l0 : List S24) (w : World) (hr0 : Kd.F k24 w P A0 l0.length l0) (hlen : l0.length * 56 ≤ 140737488355328) :
    Calls Tryd.prog 54 #[.slice A0 l0.length c0] w fun e w' => ∃ v_ : Value, e = .returned v_ ∧ (held k24 w P).R 24 w' w.heap.size (fun k => w.heap.size ≤ k) v_ l0 ∧ Below w.heap.size w w' := by
  have hu24 := Tryd.underlying22
  cases A0 with
  | none =>
    have hl : l0 = [] := C_nil_list (Kd.F_now hr0)
    subst hl
    have hq : ∀ w, Sem.run Tryd.prog (binOp BinOp.eql 22 (Value.slice none 0 c0) (Value.slice none 0 0)) w = Result.ok (Value.bool true) w := fun w => Lib.run_eql_slice_nil (P:=Tryd.prog) w 22 24 none 0 c0 0 0 Tryd.underlying22
    go_enter Tryd.func54, Tryd.ntmps54
    go_wp2_with fail
    go_ret
    exact ⟨_, rfl, Kd.R_nil _ _ _ _ _, Below.refl _ _⟩
  | some ad =>
    have hq := fun w => Lib.run_eql_slice_nil (P:=Tryd.prog) w 22 24 (some ad) l0.length c0 0 0 Tryd.underlying22
    go_enter Tryd.func54, Tryd.ntmps54
    go_wp2_with (at_builtin; go_loud (refine Kd.R_append_rows (held k24 w P) (Rr := Kd.FK k24 w P) (w0 := w) w.heap.size rfl (.tmp 5) (.tmp 6) 22 24 _ 56 rfl Tryd.underlying22 infoN rfl (show 0 < 4 from by decide) (by omega) (.slice (some ⟨w.heap.size, 0, none⟩) 0 0) [] l0 (some ad) l0.length c0 (fun k => w.heap.size ≤ k) (fun _ => False) rfl rfl ?aO ?aR (fun _ _ h => h) (fun _ h => h.elim) ?aF ?aB ?aS ?aL ?_; (case aO => exact R_lit0 _ _ _ _ _ (Nat.le_refl _) (Nat.le_refl _)); (case aR => exact (Kd.F_rows hr0).imp_ (below_alloc (Below.refl _ _) _) (fun _ _ h => h)); (case aF => exact fun k hk => (Nat.le_trans (by simp) hk)); (case aB => exact (Below.refl _ _).alloc (Nat.le_refl _) _); (case aS => simp); (case aL => simpa using hlen); intro v1 w1 HN HB HG HA))
    go_ret
    exact ⟨_, rfl, by simpa using HN, HB⟩
theorem api_Node_54.calls (P0_ : Nat → Prop) (A0 : Option Addr) (c0 : Nat) (l0 : List S24) (r : List S24) (w : World) (hs0 : Kd.V k24 24 w w.heap.size (fun k_ => P0_ k_) (.slice A0 l0.length c0) l0) (h : api_Node_54.f l0 = some r) :
    Calls Tryd.prog 54 #[.slice A0 l0.length c0] w fun e w' => ∃ v_ : Value, e = .returned v_ ∧ Kd.N k24 24 w' w.heap.size (fun k_ => (P0_ k_ ∨ w.heap.size ≤ k_)) v_ r ∧ Below w.heap.size w w' := by
  have hlen : l0.length * 56 ≤ 140737488355328 := by
    unfold api_Node_54.f at h; split at h; assumption; cases h
  have hr : l0 = r := by
    unfold api_Node_54.f at h; rw [if_pos hlen] at h; injection h
  subst hr
  refine (api_Node_54.fresh P0_ A0 c0 l0 w (Kd.V_F hs0) hlen).mono ?_
  rintro e w' ⟨v_, rfl, hR, hB⟩
  exact ⟨v_, rfl, held_N hR hB (fun k hk => hk) (fun k hk => .inr hk) (fun k hk => .inl hk), hB⟩
end Go.Proofs.YtgcpfelccfnnbaaDoor.X
