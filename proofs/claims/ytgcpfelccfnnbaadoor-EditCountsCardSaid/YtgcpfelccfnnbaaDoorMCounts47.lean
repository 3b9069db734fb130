/-
Part 47 of the texts of this proof: the walks through the program's functions.
-/
import Derived.StillTailTactics
import Derived.Test.YtgcpfelccfnnbaaDoorMCounts2
import Derived.Test.YtgcpfelccfnnbaaDoorMCounts8
import Derived.Test.YtgcpfelccfnnbaaDoorMCounts20
import Derived.Test.YtgcpfelccfnnbaaDoorMCounts35
import Derived.Test.YtgcpfelccfnnbaaDoorMCounts41
namespace Go.Proofs.YtgcpfelccfnnbaaDoor.X
open Go.RowKit Go.Proofs.YtgcpfelccfnnbaaDoorW.PrintWords Go.Proofs.YtgcpfelccfnnbaaDoorW.PrintLast Go.Proofs.YtgcpfelccfnnbaaDoorW.PrintMore
attribute [local go_sem] max2_int min2_int max_two min_two max_three min_three max_four min_four   -- for this text's walks alone
set_option linter.unusedVariables false
set_option linter.unusedSimpArgs false
set_option maxRecDepth 100000 in
set_option maxHeartbeats 1000000 in
theorem sameItems_step (N : Nat) (hE : EqSpec 15 N) (l ys : List S24) (A B : Option Addr) (c d : Nat) (w : World) (hN : cntL l ≤ N) (hc : l.length ≤ c) (hd : ys.length ≤ d) (hA : Kd.C k24 w A l.length l) (hB : Kd.C k24 w B ys.length ys) :
    Calls Tryd.prog 36 #[.slice A l.length c, .slice B ys.length d] w fun e w' => e = .returned (.bool (eqL l ys)) ∧ Below w.heap.size w w' := by
  have hlA := hA.2.1
  have hlB := hB.2.1
  by_cases hl : l.length = ys.length
  · have HA := Aside0.mk hA
    have HB := Aside0.mk hB
    have HL := Aside0.mk hl
    have q0 : ((l.length : Int) != (ys.length : Int)) = false := by rw [hl]; simp
    have q1 : (l.length != ys.length) = false := by rw [hl]; simp
    have q2 : (l.length == ys.length) = true := by rw [hl]; simp
    clear hl hA hB
    go_enter Tryd.func36, Tryd.ntmps36
    go_wp2_with fail
    go_loopg [5] l.length (fun kq v5 wr => ∃ i : Nat, v5 = .int .i64 i ∧ Aside0 (i + kq = l.length) ∧ Aside0 (Below w.heap.size w wr) ∧ Aside0 (eqL (l.drop i) (ys.drop i) = eqL l ys))
    case atStart => exact ⟨0, rfl, ⟨by omega⟩, ⟨Below.refl _ _⟩, ⟨by rw [List.drop_zero, List.drop_zero]⟩⟩
    case round =>
      obtain ⟨i, rfl, HK, HW, HE⟩ := hrel
      by_cases hlt : i < l.length
      · have hlt2 : i < ys.length := by have := HL.out; omega
        obtain ⟨ad, A3, c3, rfl, hl3, HF3, e0, e1, e2, e3⟩ := elemAt HA.out HW.out hlt
        obtain ⟨bd, B3, d3, rfl, hm3, HG3, g0, g1, g2, g3⟩ := elemAt HB.out HW.out hlt2
        have HC2 : Aside0 (cnt (nth l i) ≤ N) := ⟨Nat.le_trans (cntL_get (nth_some hlt)) hN⟩
        have HE2 : Aside0 ((eqN (nth l i) (nth ys i) && eqL (l.drop (i + 1)) (ys.drop (i + 1))) = eqL l ys) := ⟨by have h2 := HE.out; rw [drop_nth hlt, drop_nth hlt2, eqL] at h2; exact h2⟩
        have g0' := fun o => cell_alloc g0 o
        have g1' := fun o => cell_alloc g1 o
        have g2' := fun o => cell_alloc g2 o
        have g3' := fun o => cell_alloc g3 o
        clear HE
        cases he : eqN (nth l i) (nth ys i) with
        | false =>
          have HEN := Aside0.mk he
          clear he
          go_wp2_with fail
          go_still_tail 8, (by kernel_rfl)
          change wpList _ _ _ _ _ wr.drew
          have hdb : Aside0 (Below wr.heap.size wr wr.drew) := ⟨below_drew (Below.refl _ _)⟩
          generalize wr.drew = w2 at hdb ⊢
          go_wp2_with (go_at_call 15; go_loud (refine (hE (nth l i) (nth ys i) A3 B3 c3 d3 _ HC2.out hl3 hm3 ?qa ?qb).mono ?_; (case qa => exact Kd.C_below HF3.out hdb.out); (case qb => exact Kd.C_below HG3.out hdb.out); rintro e w3 ⟨he, hb3⟩; rw [HEN.out] at he; subst he))
          go_ret
          refine ⟨by rw [← HE2.out, HEN.out]; rfl, below_then (below_then HW.out HW.out.size hdb.out) ?_ hb3⟩
          exact Nat.le_trans HW.out.size hdb.out.size
        | true =>
          have HEN := Aside0.mk he
          clear he
          go_wp2_with fail
          go_still_tail 8, (by kernel_rfl)
          change wpList _ _ _ _ _ wr.drew
          have hdb : Aside0 (Below wr.heap.size wr wr.drew) := ⟨below_drew (Below.refl _ _)⟩
          generalize wr.drew = w2 at hdb ⊢
          go_wp2_with (go_at_call 15; go_loud (refine (hE (nth l i) (nth ys i) A3 B3 c3 d3 _ HC2.out hl3 hm3 ?qa ?qb).mono ?_; (case qa => exact Kd.C_below HF3.out hdb.out); (case qb => exact Kd.C_below HG3.out hdb.out); rintro e w3 ⟨he, hb3⟩; rw [HEN.out] at he; subst he))
          obtain ⟨k', rfl⟩ : ∃ k', gk = k' + 1 := ⟨gk - 1, by have := HK.out; omega⟩
          have HB3 : Aside0 (Below w.heap.size w w3) := ⟨below_then (below_then HW.out HW.out.size hdb.out) (Nat.le_trans HW.out.size hdb.out.size) hb3⟩
          go_roundg k'
          case measure => omega
          case rel => exact ⟨i + 1, by go_num, ⟨by have := HK.out; omega⟩, HB3, ⟨by rw [← HE2.out, HEN.out]; rfl⟩⟩
      · have hil : i = l.length := by have := HK.out; omega
        have HR : Aside0 (eqL l ys = true) := ⟨by rw [← HE.out, hil, List.drop_eq_nil_of_le (Nat.le_refl _), List.drop_eq_nil_of_le (by have := HL.out; omega)]; rfl⟩
        clear hil
        go_wp2
        go_ret
        exact ⟨by rw [HR.out]; rfl, HW.out⟩
  · have HR : Aside0 (eqL l ys = false) := ⟨eqL_len hl⟩
    have q0 : ((l.length : Int) != (ys.length : Int)) = true := by rw [bne_iff_ne]; omega
    have q1 : (l.length != ys.length) = true := by rw [bne_iff_ne]; exact hl
    have q2 : (l.length == ys.length) = false := beq_eq_false_iff_ne.2 hl
    clear hl hA hB
    go_enter Tryd.func36, Tryd.ntmps36
    go_wp2_with fail
    go_ret
    exact ⟨by rw [HR.out]; rfl, Below.refl _ _⟩
end Go.Proofs.YtgcpfelccfnnbaaDoor.X
namespace Go.Proofs.YtgcpfelccfnnbaaDoor.X
open Go.RowKit Go.Proofs.YtgcpfelccfnnbaaDoorW.PrintWords Go.Proofs.YtgcpfelccfnnbaaDoorW.PrintLast Go.Proofs.YtgcpfelccfnnbaaDoorW.PrintMore
attribute [local go_sem] max2_int min2_int max_two min_two max_three min_three max_four min_four   -- for this text's walks alone
set_option linter.unusedVariables false
set_option linter.unusedSimpArgs false
set_option maxRecDepth 100000 in
set_option maxHeartbeats 1000000 in
theorem refEqual_any (N : Nat) : EqSpec 15 N := by
  induction N with
  | zero => intro x y A B c d w h; have := cnt_pos x; omega
  | succ N ih =>
  intro x y A B c d w hN hc hd hA hB
  have hsub : cntL x.f3 ≤ N := by rw [cnt_eq] at hN; omega
  obtain ⟨f0, f1, f2, l⟩ := x
  obtain ⟨g0, g1, g2, m⟩ := y
  simp only at hsub hc hd hA hB ⊢
  have hbb : ∀ o1 o2 : Obj, Aside0 (Below w.heap.size w ((w.alloc o1).alloc o2)) := fun o1 o2 => ⟨below_alloc (below_alloc (Below.refl _ _) _) _⟩
  have hstep := fun o1 o2 : Obj => sameItems_step N ih l m A B c d ((w.alloc o1).alloc o2) hsub hc hd (Kd.C_below hA (hbb o1 o2).out) (Kd.C_below hB (hbb o1 o2).out)
  have HST := Aside0.mk hstep
  clear hstep ih hA hB hN
  by_cases h0 : f0 = g0
  · by_cases h1 : f1.data.toList = g1.data.toList
    · by_cases h2 : f2 = g2
      · have HR : Aside0 (eqN ⟨f0, f1, f2, l⟩ ⟨g0, g1, g2, m⟩ = eqL l m) := ⟨by rw [eqN, decide_eq_true h0, decide_eq_true h1, decide_eq_true h2]; rfl⟩
        have q0 : (f0 == g0) = true := beq_iff_eq.2 h0
        have q1 : (f1.toList == g1.toList) = true := by rw [ba_toList, ba_toList, h1]; simp
        have q2 : (f2 == g2) = true := beq_iff_eq.2 h2
        clear h0 h1 h2
        go_enter Tryd.func15, Tryd.ntmps15
        go_wp2_with (go_at_call 36; go_loud (refine (HST.out _ _).mono ?_; rintro e w3 ⟨rfl, hb3⟩))
        go_ret
        exact ⟨by rw [HR.out]; rfl, below_then (hbb _ _).out (hbb _ _).out.size hb3⟩
      · have HR : Aside0 (eqN ⟨f0, f1, f2, l⟩ ⟨g0, g1, g2, m⟩ = false) := ⟨by rw [eqN, decide_eq_true h0, decide_eq_true h1, decide_eq_false h2]; rfl⟩
        have q0 : (f0 == g0) = true := beq_iff_eq.2 h0
        have q1 : (f1.toList == g1.toList) = true := by rw [ba_toList, ba_toList, h1]; simp
        have q2 : (f2 == g2) = false := beq_eq_false_iff_ne.2 h2
        clear h0 h1 h2
        go_enter Tryd.func15, Tryd.ntmps15
        go_wp2_with fail
        go_ret
        exact ⟨by rw [HR.out]; rfl, (hbb _ _).out⟩
    · have HR : Aside0 (eqN ⟨f0, f1, f2, l⟩ ⟨g0, g1, g2, m⟩ = false) := ⟨by rw [eqN, decide_eq_true h0, decide_eq_false h1]; rfl⟩
      have q0 : (f0 == g0) = true := beq_iff_eq.2 h0
      have q1 : (f1.toList == g1.toList) = false := by rw [ba_toList, ba_toList]; simpa using h1
      clear h0 h1
      go_enter Tryd.func15, Tryd.ntmps15
      go_wp2_with fail
      go_ret
      exact ⟨by rw [HR.out]; rfl, (hbb _ _).out⟩
  · have HR : Aside0 (eqN ⟨f0, f1, f2, l⟩ ⟨g0, g1, g2, m⟩ = false) := ⟨by rw [eqN, decide_eq_false h0]; rfl⟩
    have q0 : (f0 == g0) = false := beq_eq_false_iff_ne.2 h0
    clear h0
    go_enter Tryd.func15, Tryd.ntmps15
    go_wp2_with fail
    go_ret
    exact ⟨by rw [HR.out]; rfl, (hbb _ _).out⟩
def vinculumref09_Equal.f (a0_0 : Int) (a0_1 : ByteArray) (a0_2 : Int) (l0_3 : List S24) (a1_0 : Int) (a1_1 : ByteArray) (a1_2 : Int) (l1_3 : List S24) : Option Bool := some (eqN ⟨a0_0, a0_1, a0_2, l0_3⟩ ⟨a1_0, a1_1, a1_2, l1_3⟩)
theorem vinculumref09_Equal.calls (a0_0 : Int) (a0_1 : ByteArray) (a0_2 : Int) (A0_3 : Option Addr) (c0_3 : Nat) (l0_3 : List S24) (a1_0 : Int) (a1_1 : ByteArray) (a1_2 : Int) (A1_3 : Option Addr) (c1_3 : Nat) (l1_3 : List S24) (r : Bool) (w : World) (hr0_3 : Kd.C k24 w A0_3 l0_3.length l0_3) (hc0_3 : l0_3.length ≤ c0_3) (hr1_3 : Kd.C k24 w A1_3 l1_3.length l1_3) (hc1_3 : l1_3.length ≤ c1_3) (h : vinculumref09_Equal.f a0_0 a0_1 a0_2 l0_3 a1_0 a1_1 a1_2 l1_3 = some r) :
    Calls Tryd.prog 15 #[.agg #[.int .i64 a0_0, .string a0_1, .int .i64 a0_2, .slice A0_3 l0_3.length c0_3], .agg #[.int .i64 a1_0, .string a1_1, .int .i64 a1_2, .slice A1_3 l1_3.length c1_3]] w fun e w' => e = .returned (.bool r) ∧ Below w.heap.size w w' := by
  unfold vinculumref09_Equal.f at h
  injection h with h
  subst h
  exact refEqual_any _ ⟨a0_0, a0_1, a0_2, l0_3⟩ ⟨a1_0, a1_1, a1_2, l1_3⟩ A0_3 A1_3 c0_3 c1_3 w (Nat.le_refl _) hc0_3 hc1_3 hr0_3 hr1_3
theorem sameItems_any0 (l ys : List S24) (A B : Option Addr) (c d : Nat) (w : World) (hc : l.length ≤ c) (hd : ys.length ≤ d) (hA : Kd.C k24 w A l.length l) (hB : Kd.C k24 w B ys.length ys) :
    Calls Tryd.prog 36 #[.slice A l.length c, .slice B ys.length d] w fun e w' => e = .returned (.bool (eqL l ys)) ∧ Below w.heap.size w w' :=
  sameItems_step (cntL l) (refEqual_any _) l ys A B c d w (Nat.le_refl _) hc hd hA hB
def vinculumref09_SameItems.f (l0 l1 : List S24) : Option Bool := some (eqL l0 l1)
theorem vinculumref09_SameItems.calls (A0 : Option Addr) (c0 : Nat) (l0 : List S24) (A1 : Option Addr) (c1 : Nat) (l1 : List S24) (r : Bool) (w : World) (hr0 : Kd.C k24 w A0 l0.length l0) (hc0 : l0.length ≤ c0) (hr1 : Kd.C k24 w A1 l1.length l1) (hc1 : l1.length ≤ c1) (h : vinculumref09_SameItems.f l0 l1 = some r) :
    Calls Tryd.prog 36 #[.slice A0 l0.length c0, .slice A1 l1.length c1] w fun e w' => e = .returned (.bool r) ∧ Below w.heap.size w w' := by
  unfold vinculumref09_SameItems.f at h
  injection h with h
  subst h
  exact sameItems_any0 l0 l1 A0 A1 c0 c1 w hc0 hc1 hr0 hr1
end Go.Proofs.YtgcpfelccfnnbaaDoor.X
namespace Go.Proofs.YtgcpfelccfnnbaaDoor.X
open Go.RowKit Go.Proofs.YtgcpfelccfnnbaaDoorW.PrintWords Go.Proofs.YtgcpfelccfnnbaaDoorW.PrintLast Go.Proofs.YtgcpfelccfnnbaaDoorW.PrintMore
attribute [local go_sem] max2_int min2_int max_two min_two max_three min_three max_four min_four   -- for this text's walks alone
set_option linter.unusedVariables false
set_option linter.unusedSimpArgs false
theorem twoF {W : World} {x y : S24} {A3 B3 : Option Addr} {c3 d3 : Nat} {ok : Nat → Prop} (h3 : x.f3.length ≤ c3) (hF : Kd.F k24 W ok A3 x.f3.length x.f3) (h4 : y.f3.length ≤ d3) (hG : Kd.F k24 W ok B3 y.f3.length y.f3) :
    Kd.F k24 (W.alloc (.cells #[.int .i64 x.f0, .string x.f1, .int .i64 x.f2, .slice A3 x.f3.length c3, .int .i64 y.f0, .string y.f1, .int .i64 y.f2, .slice B3 y.f3.length d3] 24)) (fun j => ok j ∨ j = W.heap.size) (some ⟨W.heap.size, 0, none⟩) 2 [x, y] := by
  intro W' hW
  have hb : W'.heap[W.heap.size]? = some (.cells #[.int .i64 x.f0, .string x.f1, .int .i64 x.f2, .slice A3 x.f3.length c3, .int .i64 y.f0, .string y.f1, .int .i64 y.f2, .slice B3 y.f3.length d3] 24 (0, 0)) := (hW _ (.inr rfl) (by simp)).trans (heap_alloc_new W _)
  have hs : ∀ k, ok k → k < W.heap.size → W'.heap[k]? = W.heap[k]? := fun k hk hlt => (hW k (.inl hk) (by simp; omega)).trans (Below.heap_alloc _ _ _ hlt)
  have hK : k24.K W' x [.int .i64 x.f0, .string x.f1, .int .i64 x.f2, .slice A3 x.f3.length c3] := k24_mk W' x h3 (hF W' hs)
  have hL : k24.K W' y [.int .i64 y.f0, .string y.f1, .int .i64 y.f2, .slice B3 y.f3.length d3] := k24_mk W' y h4 (hG W' hs)
  refine ⟨rfl, by simp, fun _ => ⟨_, rfl, fun j p hj => ?_⟩⟩
  match j, hj with
  | 0, hj =>
    simp only [List.getElem?_cons_zero, Option.some.injEq] at hj
    subst hj
    refine ⟨_, rfl, hK, fun i u hu => ?_⟩
    rw [add_plain, Nat.zero_mul, Nat.zero_add, blk_cell hb i]
    match i, hu with
    | 0, hu => simpa using hu
    | 1, hu => simpa using hu
    | 2, hu => simpa using hu
    | 3, hu => simpa using hu
    | i + 4, hu => simp at hu
  | 1, hj =>
    simp only [List.getElem?_cons_succ, List.getElem?_cons_zero, Option.some.injEq] at hj
    subst hj
    refine ⟨_, rfl, hL, fun i u hu => ?_⟩
    rw [add_plain, blk_cell hb]
    match i, hu with
    | 0, hu => exact hu
    | 1, hu => exact hu
    | 2, hu => exact hu
    | 3, hu => exact hu
    | i + 4, hu => simp at hu
  | j + 2, hj => simp at hj
set_option maxRecDepth 100000 in
theorem awakeRow_any (n : Nat) (A : Option Addr) (c : Nat) (w : World) :
    Calls Tryd.prog 24 #[.slice A n c] w fun e w' => e = .returned (.agg #[.int .i64 1, .string ⟨#[]⟩, .int .i64 0, .slice A n c]) ∧ Below w.heap.size w w' := by
  go_enter Tryd.func24, Tryd.ntmps24
  go_wp2
  refine bodyPost_ret (results_cell_row rfl _ _ w.heap.size 24 #[.int .i64 1, .string ⟨#[]⟩, .int .i64 0, .slice A n c] (0, 0) _ rfl (heap_alloc_new _ _) Tryd.underlying24 rfl (by kernel_rfl)) rfl ?_
  exact ⟨rfl, below_alloc (Below.refl _ _) _⟩
def nodeA : S24 := ⟨2, ⟨#[97]⟩, 0, []⟩
def nodeB : S24 := ⟨2, ⟨#[98]⟩, 0, []⟩
def nodeR : S24 := ⟨1, ⟨#[]⟩, 0, []⟩
def opW : S27 := ⟨3, [], 0, 2, [⟨5, ⟨#[]⟩, 0, [nodeR, nodeR]⟩], 0, ⟨#[]⟩, ⟨#[]⟩⟩
def treeIn : S24 := ⟨1, ⟨#[]⟩, 0, [nodeA, nodeB]⟩
def treeOut : S24 := ⟨1, ⟨#[]⟩, 0, [⟨5, ⟨#[]⟩, 0, [⟨1, ⟨#[]⟩, 0, [nodeA, nodeB]⟩, nodeR]⟩]⟩
theorem awake_apply : applyE treeIn opW = (treeOut, 0) := by kernel_rfl
theorem awake_eq : eqN treeOut treeOut = true := (eqN_iff _ _).2 rfl
end Go.Proofs.YtgcpfelccfnnbaaDoor.X
