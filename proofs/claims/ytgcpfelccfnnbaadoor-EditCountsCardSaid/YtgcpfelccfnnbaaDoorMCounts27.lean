/-
Part 27 of the texts of this proof: the walks through the program's functions.
-/
import Derived.Test.YtgcpfelccfnnbaaDoorMCounts2
namespace Go.Proofs.YtgcpfelccfnnbaaDoor.X
open Go.RowKit Go.Proofs.YtgcpfelccfnnbaaDoorW.PrintWords Go.Proofs.YtgcpfelccfnnbaaDoorW.PrintLast Go.Proofs.YtgcpfelccfnnbaaDoorW.PrintMore
attribute [local go_sem] max2_int min2_int max_two min_two max_three min_three max_four min_four   -- for this text's walks alone
set_option linter.unusedVariables false
set_option linter.unusedSimpArgs false
def slices_Clone_int_int.f (l0 : List Int) : Option (List Int) := if l0.length * 8 ≤ 140737488355328 then some l0 else none
theorem slices_Clone_int_int.info : (Tryd.prog.info? 3).map (fun i => (i.zero, i.size, i.bytes)) = some (some (.int .i64 0), 1, 8) := by kernel_rfl
set_option maxRecDepth 100000 in
set_option maxHeartbeats 400000 in
theorem slices_Clone_int_int.fresh (A0 : Option Addr) (c0 : Nat) (l0 : List Int) (w : World) (hr0 : Kd.C (Kd.int .i64) w A0 l0.length l0) (hlen : l0.length * 8 ≤ 140737488355328) :
    Calls Tryd.prog 53 #[.slice A0 l0.length c0] w fun e w' => ∃ v_ : Value, e = .returned v_ ∧ (Kd.int .i64).R 3 w' w.heap.size (fun k => w.heap.size ≤ k) v_ l0 ∧ Below w.heap.size w w' := by
  have hu24 := Tryd.underlying25
  cases A0 with
  | none =>
    have hl : l0 = [] := C_nil_list hr0
    subst hl
    have hq : ∀ w, Sem.run Tryd.prog (binOp BinOp.eql 25 (Value.slice none 0 c0) (Value.slice none 0 0)) w = Result.ok (Value.bool true) w := fun w => Lib.run_eql_slice_nil (P:=Tryd.prog) w 25 3 none 0 c0 0 0 Tryd.underlying25
    go_enter Tryd.func53, Tryd.ntmps53
    go_wp2_with fail
    go_ret
    exact ⟨_, rfl, Kd.R_nil _ _ _ _ _, Below.refl _ _⟩
  | some ad =>
    have hq := fun w => Lib.run_eql_slice_nil (P:=Tryd.prog) w 25 3 (some ad) l0.length c0 0 0 Tryd.underlying25
    go_enter Tryd.func53, Tryd.ntmps53
    go_wp2_with (at_builtin; go_loud (refine Kd.R_append_rows (Kd.int .i64) (Rr := fun x cs => (Kd.int .i64).K w x cs) (w0 := w) w.heap.size rfl (.tmp 5) (.tmp 6) 25 3 (.int .i64 0) 8 rfl Tryd.underlying25 slices_Clone_int_int.info rfl (show 0 < 1 from by decide) (by omega) (.slice (some ⟨w.heap.size, 0, none⟩) 0 0) [] l0 (some ad) l0.length c0 (fun k => w.heap.size ≤ k) (fun _ => False) rfl rfl ?aO ?aR (fun _ _ h => h) (fun _ h => h.elim) ?aF ?aB ?aS ?aL ?_; (case aO => exact R_lit0 _ _ _ _ _ (Nat.le_refl _) (Nat.le_refl _)); (case aR => exact ReadsRow.imp_ hr0 (below_alloc (Below.refl _ _) _) (fun _ _ h => h)); (case aF => exact fun k hk => (Nat.le_trans (by simp) hk)); (case aB => exact (Below.refl _ _).alloc (Nat.le_refl _) _); (case aS => simp); (case aL => simpa using hlen); intro v1 w1 HN HB HG HA))
    go_ret
    exact ⟨_, rfl, by simpa using HN, HB⟩
theorem slices_Clone_int_int.calls (A0 : Option Addr) (c0 : Nat) (l0 : List Int) (r : List Int) (w : World) (hr0 : Kd.C (Kd.int .i64) w A0 l0.length l0) (hc0 : l0.length ≤ c0) (h : slices_Clone_int_int.f l0 = some r) :
    Calls Tryd.prog 53 #[.slice A0 l0.length c0] w fun e w' => ∃ v_ : Value, e = .returned v_ ∧ Kd.R (Kd.int .i64) 3 w' w.heap.size (fun _ => True) v_ r ∧ Below w.heap.size w w' := by
  have hlen : l0.length * 8 ≤ 140737488355328 := by
    unfold slices_Clone_int_int.f at h; split at h; assumption; cases h
  have hr : l0 = r := by
    unfold slices_Clone_int_int.f at h; rw [if_pos hlen] at h; injection h
  subst hr
  refine (slices_Clone_int_int.fresh A0 c0 l0 w hr0 hlen).mono ?_
  rintro e w' ⟨v_, rfl, hR, hB⟩
  exact ⟨v_, rfl, Kd.R_mono hR (fun _ _ => trivial), hB⟩
end Go.Proofs.YtgcpfelccfnnbaaDoor.X
