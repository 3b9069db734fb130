/-
Part 42 of the texts of this proof: the walks through the program's functions.
-/
import Derived.Deep.Slices
import Derived.Deep.Fields
import Derived.ChangeSame
import Derived.Test.YtgcpfelccfnnbaaDoorRows
import Derived.ProofKit
import Derived.OpenShut
import Derived.LaidMore
import Derived.Lay
import Derived.Stop.Joined
import Derived.Carry
import Derived.Below
import Derived.Test.YtgcpfelccfnnbaaDoorMCounts41
namespace Go.Proofs.YtgcpfelccfnnbaaDoor
namespace X
open Go.RowKit Go.Proofs.YtgcpfelccfnnbaaDoorW.PrintWords Go.Proofs.YtgcpfelccfnnbaaDoorW.PrintLast Go.Proofs.YtgcpfelccfnnbaaDoorW.PrintMore
set_option linter.unusedVariables false
set_option linter.unusedSimpArgs false
open Go.ChangeShapes Go.WideShapes Go.Deep
section
variable {H : Type} {enc : TypeId × Value → H} {W : World} {sp : Nat → Bool}
theorem open_rows {α : Type} (k : Kd α) (ok : α → Prop) {t e fuel : Nat} {c : Value} {x : DataW H × List MemPlace} (ht : Tryd.prog.underlying t = some (.slice e)) (hsz : Tryd.prog.cellsOf e = k.sz)
    (hel : ∀ (n : Nat) (cs : List Value) (x : DataW H × List MemPlace), n < fuel → DataW.trod enc Tryd.prog W 0 sp true n e cs = some x → ∃ y, k.K W y cs ∧ ok y)
    (h : DataW.trod enc Tryd.prog W 0 sp true fuel t [c] = some x) : ∃ (A : Option Addr) (ys : List α) (cap : Nat), c = .slice A ys.length cap ∧ ys.length ≤ cap ∧ k.C W A ys.length ys ∧ ∀ y, y ∈ ys → ok y := by
  rcases DataW.trod_slice ht h with ⟨hc, _⟩ | ⟨a, len, cap, elems, rest, n, hfu, hc, _, _, hl, hm, hlen, hel2, _, _⟩
  · injection hc with hc _
    subst hc
    exact ⟨none, [], 0, rfl, Nat.le_refl _, Kd.C_nil _ _, fun y hy => by simp at hy⟩
  · injection hc with hc _
    subst hc
    have hq : ∀ i : Fin len, ∃ y : α, (∃ cs' : List Value, cs'.length = k.sz ∧ k.K W y cs' ∧ ∀ j u, cs'[j]? = some u → W.cell? (a.add (i.val * k.sz + j)) = some u) ∧ ok y := by
      intro i
      have h1 := hel2 i.val i.isLt
      rw [List.getElem?_eq_getElem (by omega)] at h1
      obtain ⟨cs', h2, h3⟩ := Option.bind_eq_some_iff.1 h1
      obtain ⟨y, hK, hy⟩ := hel n cs' _ (by omega) h3
      rw [hsz] at h2
      obtain ⟨_, h4, h5⟩ := World.cells?_some h2
      refine ⟨y, ⟨cs', h4, hK, fun j u hu => ?_⟩, hy⟩
      have hj : j < k.sz := by rw [← h4]; exact (List.getElem?_eq_some_iff.1 hu).1
      have h6 := h5 j hj
      rw [Go.Deep.add_add] at h6
      rw [h6, hu]
    let f : Fin len → α := fun i => Classical.choose (hq i)
    have hf : ∀ i : Fin len, (∃ cs' : List Value, cs'.length = k.sz ∧ k.K W (f i) cs' ∧ ∀ j u, cs'[j]? = some u → W.cell? (a.add (i.val * k.sz + j)) = some u) ∧ ok (f i) := fun i => Classical.choose_spec (hq i)
    have hlf : (List.ofFn f).length = len := List.length_ofFn
    have hmx : len ≤ 9223372036854775807 := Nat.le_trans hl (Nat.le_trans hm (by decide))
    refine ⟨some a, List.ofFn f, cap, by rw [hlf], by rw [hlf]; exact hl, ⟨rfl, by rw [hlf]; exact hmx, fun _ => ⟨a, rfl, fun j p hj => ?_⟩⟩, fun y hy => ?_⟩
    · rw [List.getElem?_ofFn] at hj
      split at hj
      · rename_i hjl
        injection hj with hj
        subst hj
        obtain ⟨⟨cs', h1, h2, h3⟩, _⟩ := hf ⟨j, hjl⟩
        exact ⟨cs', h1, h2, h3⟩
      · cases hj
    · obtain ⟨i, hi⟩ := List.mem_ofFn.1 hy
      rw [← hi]
      exact (hf i).2
theorem one_cell {fs : Array Field} (hone : oneCellFields Tryd.prog fs = true) {j : Nat} {f : Field} (hj : fs[j]? = some f) {n : Nat} {cs : List Value} {c : Value} {y : Option (DataW H × List MemPlace)} (hc : cs[j]? = some c)
    (h : DataW.trod enc Tryd.prog W 0 sp true n f.type ((cs.drop f.offset).take (Tryd.prog.cellsOf f.type)) = y) : DataW.trod enc Tryd.prog W 0 sp true n f.type [c] = y := by
  obtain ⟨h1, h2⟩ := hone_of hone j f hj
  obtain ⟨hl, hg⟩ := List.getElem?_eq_some_iff.1 hc
  rw [h1, h2] at h
  have h3 : (cs.drop j).take 1 = [c] := by
    rw [List.drop_eq_getElem_cons hl, hg]
    rfl
  rw [h3] at h
  exact h
theorem four {cs : List Value} (h : cs.length = 4) : ∃ a b c d, cs = [a, b, c, d] := by
  match cs, h with
  | [a, b, c, d], _ => exact ⟨a, b, c, d, rfl⟩
theorem eight {cs : List Value} (h : cs.length = 8) : ∃ a b c d e f g i, cs = [a, b, c, d, e, f, g, i] := by
  match cs, h with
  | [a, b, c, d, e, f, g, i], _ => exact ⟨a, b, c, d, e, f, g, i, rfl⟩
theorem some_at {β : Type} {xs : List β} {n i : Nat} (h : xs.length = n) (hi : i < n) : ∃ y, xs[i]? = some y := ⟨_, List.getElem?_eq_getElem (by omega)⟩
theorem fineL_all {l : List S24} (h : ∀ y, y ∈ l → fine y = true) : fineL l = true := by
  induction l with
  | nil => rfl
  | cons x l ih => rw [fineL, h x (by simp), ih (fun y hy => h y (by simp [hy]))]; rfl
set_option maxRecDepth 100000 in
theorem open_node (fuel : Nat) : ∀ (cs : List Value) (x : DataW H × List MemPlace), DataW.trod enc Tryd.prog W 0 sp true fuel 24 cs = some x → ∃ y : S24, k24.K W y cs ∧ fine y = true := by
  induction fuel using Nat.strongRecOn with
  | ind fuel ih =>
    intro cs x h
    obtain ⟨xs, n, hn, _, hlen, hxl, hf⟩ := DataW.trod_struct Tryd.underlying24 h
    subst hn
    obtain ⟨c0, c1, c2, c3, rfl⟩ := four (hlen.trans (by kernel_rfl))
    have hone : oneCellFields Tryd.prog _ = true := (by kernel_rfl : oneCellFields Tryd.prog (match Tryd.prog.underlying 24 with | some (.struct fs) => fs | _ => #[]) = true)
    have e0 := one_cell (c := c0) hone (j := 0) rfl rfl (hf 0 _ rfl)
    have e1 := one_cell (c := c1) hone (j := 1) rfl rfl (hf 1 _ rfl)
    have e2 := one_cell (c := c2) hone (j := 2) rfl rfl (hf 2 _ rfl)
    have e3 := one_cell (c := c3) hone (j := 3) rfl rfl (hf 3 _ rfl)
    obtain ⟨y0, hy0⟩ := some_at hxl (i := 0) (by decide)
    obtain ⟨y1, hy1⟩ := some_at hxl (i := 1) (by decide)
    obtain ⟨y2, hy2⟩ := some_at hxl (i := 2) (by decide)
    obtain ⟨y3, hy3⟩ := some_at hxl (i := 3) (by decide)
    rw [hy0] at e0; rw [hy1] at e1; rw [hy2] at e2; rw [hy3] at e3
    obtain ⟨f0, h0, _, _⟩ := DataW.trod_int Tryd.underlying3 e0
    obtain ⟨f1, h1, _, hs1⟩ := DataW.trod_string Tryd.underlying9 e1
    obtain ⟨f2, h2, _, _⟩ := DataW.trod_int Tryd.underlying3 e2
    obtain ⟨A3, ys, c, rfl, hl, hC, hys⟩ := open_rows k24 (fun y => fine y = true) Tryd.underlying22 (by kernel_rfl) (fun m cs x hm => ih m (by omega) cs x) e3
    injection h0 with h0 _; injection h1 with h1 _; injection h2 with h2 _
    subst h0; subst h1; subst h2
    refine ⟨⟨f0, f1, f2, ys⟩, k24_mk W ⟨f0, f1, f2, ys⟩ hl hC, ?_⟩
    rw [fine_eq, fineL_all hys, Bool.and_true]
    refine decide_eq_true ?_
    have : f1.size = f1.data.toList.length := ba_size f1
    simp only
    rw [← this]
    exact Nat.le_trans hs1 (by decide)
set_option maxRecDepth 100000 in
theorem open_op (fuel : Nat) (cs : List Value) (x : DataW H × List MemPlace) (h : DataW.trod enc Tryd.prog W 0 sp true fuel 27 cs = some x) : ∃ y : S27, k27.K W y cs ∧ fineO y = true := by
  obtain ⟨xs, n, hn, _, hlen, hxl, hf⟩ := DataW.trod_struct Tryd.underlying27 h
  subst hn
  obtain ⟨c0, c1, c2, c3, c4, c5, c6, c7, rfl⟩ := eight (hlen.trans (by kernel_rfl))
  have hone : oneCellFields Tryd.prog _ = true := (by kernel_rfl : oneCellFields Tryd.prog (match Tryd.prog.underlying 27 with | some (.struct fs) => fs | _ => #[]) = true)
  have e0 := one_cell (c := c0) hone (j := 0) rfl rfl (hf 0 _ rfl)
  have e1 := one_cell (c := c1) hone (j := 1) rfl rfl (hf 1 _ rfl)
  have e2 := one_cell (c := c2) hone (j := 2) rfl rfl (hf 2 _ rfl)
  have e3 := one_cell (c := c3) hone (j := 3) rfl rfl (hf 3 _ rfl)
  have e4 := one_cell (c := c4) hone (j := 4) rfl rfl (hf 4 _ rfl)
  have e5 := one_cell (c := c5) hone (j := 5) rfl rfl (hf 5 _ rfl)
  have e6 := one_cell (c := c6) hone (j := 6) rfl rfl (hf 6 _ rfl)
  have e7 := one_cell (c := c7) hone (j := 7) rfl rfl (hf 7 _ rfl)
  obtain ⟨y0, hy0⟩ := some_at hxl (i := 0) (by decide)
  obtain ⟨y1, hy1⟩ := some_at hxl (i := 1) (by decide)
  obtain ⟨y2, hy2⟩ := some_at hxl (i := 2) (by decide)
  obtain ⟨y3, hy3⟩ := some_at hxl (i := 3) (by decide)
  obtain ⟨y4, hy4⟩ := some_at hxl (i := 4) (by decide)
  obtain ⟨y5, hy5⟩ := some_at hxl (i := 5) (by decide)
  obtain ⟨y6, hy6⟩ := some_at hxl (i := 6) (by decide)
  obtain ⟨y7, hy7⟩ := some_at hxl (i := 7) (by decide)
  rw [hy0] at e0; rw [hy1] at e1; rw [hy2] at e2; rw [hy3] at e3; rw [hy4] at e4; rw [hy5] at e5; rw [hy6] at e6; rw [hy7] at e7
  obtain ⟨f0, h0, _, _⟩ := DataW.trod_int Tryd.underlying3 e0
  obtain ⟨f2, h2, _, _⟩ := DataW.trod_int Tryd.underlying3 e2
  obtain ⟨f3, h3, _, _⟩ := DataW.trod_int Tryd.underlying3 e3
  obtain ⟨f5, h5, _, _⟩ := DataW.trod_int Tryd.underlying3 e5
  obtain ⟨f6, h6, _, hs6⟩ := DataW.trod_string Tryd.underlying9 e6
  obtain ⟨f7, h7, _, hs7⟩ := DataW.trod_string Tryd.underlying9 e7
  obtain ⟨A1, l1, d1, rfl, hl1, hC1, _⟩ := open_rows (Kd.int .i64) (fun _ => True) Tryd.underlying25 (by kernel_rfl) (fun m cs x _ hx => by
    obtain ⟨z, hz, _, _⟩ := DataW.trod_int Tryd.underlying3 hx
    subst hz
    exact ⟨z, rfl, trivial⟩) e1
  obtain ⟨A4, l4, d4, rfl, hl4, hC4, hfy⟩ := open_rows k24 (fun y => fine y = true) Tryd.underlying22 (by kernel_rfl) (fun m cs x _ => open_node m cs x) e4
  injection h0 with h0 _; injection h2 with h2 _; injection h3 with h3 _; injection h5 with h5 _; injection h6 with h6 _; injection h7 with h7 _
  subst h0; subst h2; subst h3; subst h5; subst h6; subst h7
  refine ⟨⟨f0, l1, f2, f3, l4, f5, f6, f7⟩, k27_mk W ⟨f0, l1, f2, f3, l4, f5, f6, f7⟩ hl1 hC1 hl4 hC4, ?_⟩
  unfold fineO
  have z6 : f6.size = f6.data.toList.length := ba_size f6
  have z7 : f7.size = f7.data.toList.length := ba_size f7
  simp only
  rw [fineL_all hfy, ← z6, ← z7, decide_eq_true (Nat.le_trans hs6 (by decide)), decide_eq_true (Nat.le_trans hs7 (by decide))]
  rfl
set_option maxRecDepth 100000 in
/-- A tree that came in as an argument. -/
theorem arg_node {r : Reach} {b0 : Nat} {v : Value} {d : DataW H} {p : List MemPlace} (hv : Value.okWide Tryd.prog W r b0 24 v) (h : DataW.Trod enc Tryd.prog W 0 sp true 24 v d p) :
    ∃ (x : S24) (A : Option Addr) (c : Nat), v = .agg #[.int .i64 x.f0, .string x.f1, .int .i64 x.f2, .slice A x.f3.length c] ∧ x.f3.length ≤ c ∧ k24.C W A x.f3.length x.f3 ∧ fine x = true := by
  obtain ⟨cs, rfl, _⟩ := okWide_struct Tryd.underlying24 hv
  obtain ⟨fuel, hf⟩ := h
  obtain ⟨y, hK, hy⟩ := open_node fuel _ _ hf
  obtain ⟨A, c, he, hl, hC⟩ := k24_open hK
  obtain ⟨l⟩ := cs
  have he2 : l = [.int .i64 y.f0, .string y.f1, .int .i64 y.f2, .slice A y.f3.length c] := he
  subst he2
  exact ⟨y, A, c, rfl, hl, hC, hy⟩
set_option maxRecDepth 100000 in
theorem arg_op {r : Reach} {b0 : Nat} {v : Value} {d : DataW H} {p : List MemPlace} (hv : Value.okWide Tryd.prog W r b0 27 v) (h : DataW.Trod enc Tryd.prog W 0 sp true 27 v d p) :
    ∃ (o : S27) (A1 A4 : Option Addr) (c1 c4 : Nat), v = .agg #[.int .i64 o.f0, .slice A1 o.f1.length c1, .int .i64 o.f2, .int .i64 o.f3, .slice A4 o.f4.length c4, .int .i64 o.f5, .string o.f6, .string o.f7] ∧ o.f1.length ≤ c1 ∧ (Kd.int .i64).C W A1 o.f1.length o.f1 ∧ o.f4.length ≤ c4 ∧ k24.C W A4 o.f4.length o.f4 ∧ fineO o = true := by
  obtain ⟨cs, rfl, _⟩ := okWide_struct Tryd.underlying27 hv
  obtain ⟨fuel, hf⟩ := h
  obtain ⟨y, hK, hy⟩ := open_op fuel _ _ hf
  obtain ⟨A1, c1, A4, c4, he, hl1, hC1, hl4, hC4⟩ := k27_open hK
  obtain ⟨l⟩ := cs
  have he2 : l = [.int .i64 y.f0, .slice A1 y.f1.length c1, .int .i64 y.f2, .int .i64 y.f3, .slice A4 y.f4.length c4, .int .i64 y.f5, .string y.f6, .string y.f7] := he
  subst he2
  exact ⟨y, A1, A4, c1, c4, rfl, hl1, hC1, hl4, hC4, hy⟩
end
end X
end Go.Proofs.YtgcpfelccfnnbaaDoor
namespace Go.Proofs.YtgcpfelccfnnbaaDoor
namespace X
open Go.RowKit Go.Proofs.YtgcpfelccfnnbaaDoorW.PrintWords Go.Proofs.YtgcpfelccfnnbaaDoorW.PrintLast Go.Proofs.YtgcpfelccfnnbaaDoorW.PrintMore
set_option linter.unusedVariables false
set_option linter.unusedSimpArgs false
open Go.ChangeShapes Go.WideShapes Go.ChangeAt
theorem own : ownKnob Tryd.prog.godebug = none := by kernel_rfl
theorem laidOut : laidOutB Tryd.prog = true := by kernel_rfl
def LAID : List (String × DataW Unit) := [("unicode/utf8.acceptRanges", Rows.laid_unicode_utf8_acceptRanges), ("unicode/utf8.first", Rows.laid_unicode_utf8_first)]
theorem laid_world (os : Os) (args : Array Value) : laidMetH Tryd.prog LAID ((World.laidAll Tryd.prog os LAID).forCall (fun _ _ => 0) ⟨#[], args, []⟩).memory := by
  rw [MakeChecks.laidMetH_plain _ _ _ (by kernel_rfl)]
  exact laidMet_laidAll _ (by kernel_rfl) (by kernel_rfl)
theorem readable_node : Tryd.prog.readableRec 24 = true := by kernel_rfl
theorem readable_op : Tryd.prog.readableRec 27 = true := by kernel_rfl
theorem node_lt : 24 < Tryd.prog.types.size := of_decide_eq_true (by kernel_rfl)
theorem op_lt : 27 < Tryd.prog.types.size := of_decide_eq_true (by kernel_rfl)
end X
end Go.Proofs.YtgcpfelccfnnbaaDoor
