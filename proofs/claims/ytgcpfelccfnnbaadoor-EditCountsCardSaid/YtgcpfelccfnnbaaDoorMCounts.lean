/-
The law EditCounts holds for every tree and every operation: the tied card, no further condition.
-/
import Derived.Test.YtgcpfelccfnnbaaDoorCards
import Derived.Test.YtgcpfelccfnnbaaDoorTie
import Derived.SevenTiedAt
import Derived.Test.YtgcpfelccfnnbaaDoorMCounts42
import Derived.Test.YtgcpfelccfnnbaaDoorMCounts50
namespace Go.Proofs.YtgcpfelccfnnbaaDoor
namespace X
open Go.RowKit Go.Proofs.YtgcpfelccfnnbaaDoorW.PrintWords Go.Proofs.YtgcpfelccfnnbaaDoorW.PrintLast Go.Proofs.YtgcpfelccfnnbaaDoorW.PrintMore
set_option linter.unusedVariables false
set_option linter.unusedSimpArgs false
open Go.ChangeShapes Go.WideShapes Go.ChangeAt
set_option maxRecDepth 100000 in
theorem counts_any (x : S24) (o : S27) (A A1 A4 : Option Addr) (c c1 c4 : Nat) (w : World) (hfx : fine x = true) (hfo : fineO o = true) (hc : x.f3.length ≤ c) (h1 : o.f1.length ≤ c1) (h4 : o.f4.length ≤ c4) (hA : k24.C w A x.f3.length x.f3) (hR : (Kd.int .i64).C w A1 o.f1.length o.f1) (hN : k24.C w A4 o.f4.length o.f4) :
    Calls Tryd.prog 3 #[.agg #[.int .i64 x.f0, .string x.f1, .int .i64 x.f2, .slice A x.f3.length c], .agg #[.int .i64 o.f0, .slice A1 o.f1.length c1, .int .i64 o.f2, .int .i64 o.f3, .slice A4 o.f4.length c4, .int .i64 o.f5, .string o.f6, .string o.f7]] w fun e w' => e = .returned (.bool true) ∧ Below w.heap.size w w' := by
  obtain ⟨k, h⟩ := counts_f x o hfx hfo
  exact vinculumlaw12_EditCounts.calls k x.f0 x.f1 x.f2 A c x.f3 o.f0 (fun k => k < w.heap.size) A1 c1 o.f1 o.f2 o.f3 (fun k => k < w.heap.size) A4 c4 o.f4 o.f5 o.f6 o.f7 true w hA hc (Kd.V_mk h1 (Kd.C_F (Kd.heap_int .i64) hR)) (Kd.V_mk h4 (Kd.C_F k24_heap hN)) h
set_option maxRecDepth 100000 in
theorem counts_lifted (os : Os) (started : os.Started) (H : Type) (enc : TypeId × Value → H) :
    ReturnsInHanded {} Tryd.checked os 3 .any (fun w args => (Rows.editCountsSpec.pre enc Tryd.prog Tryd.f3 Rows.editCountsRow.domain false w args ∧ laidMetH Tryd.prog LAID w) ∧ sizedMet enc Tryd.prog Tryd.f3 (OpenSpec.ofChange Rows.editCountsSpec) false w args)
      (Rows.editCountsSpec.post enc Tryd.prog Tryd.f3 false true false false) := by
  refine returnsInHanded_of_change_and (C := Tryd.checked) (X := fun w _ => laidMetH Tryd.prog LAID w) (fun _ _ _ hh h => h.of_heap hh) own started (by kernel_rfl) Tryd.func3
    (ChangeSpec.witness_shaped (enc := enc) (C := Tryd.checked) (os := os) (X := fun w _ => laidMetH Tryd.prog LAID w) false (World.laidAll Tryd.prog os LAID) #[.agg #[.int .i64 0, .string ⟨#[]⟩, .int .i64 0, .slice none 0 0], .agg #[.int .i64 0, .slice none 0 0, .int .i64 0, .int .i64 0, .slice none 0 0, .int .i64 0, .string ⟨#[]⟩, .string ⟨#[]⟩]] 8 (World.laidAll_os _ _ _)
      (World.shaped_of_ZipB (by kernel_rfl) (by kernel_rfl)) (by kernel_rfl) (by kernel_rfl) (by kernel_rfl)
      (laid_world os _)) ?_
  intro W base args ds gs before hval0 hW hc _ hL _
  have hval : ∀ (j : Nat) t v, Tryd.f3.params[j]? = some t → args[j]? = some v → Value.okWide Tryd.prog W .any base t v := hval0
  have hW' := hW
  obtain ⟨p, q, hA0, hV, rfl, _, _⟩ := hW
  have hA : DataW.TrodAll enc Tryd.prog W 0 (fun _ => true) true Tryd.f3.params.toList args.toList ds p := hA0
  rw [Tryd.params3] at hA hval
  obtain ⟨v0, v1, d0, d1, p0, p1, rfl, rfl, rfl, g0, g1⟩ := trodAll_two hA
  obtain ⟨rfl, rfl⟩ := trodVars_none hV
  have k0 := g0
  have k1 := g1
  have lt0 : ∀ x ∈ p0, x.block < W.heap.size := by obtain ⟨m, hm⟩ := k0; exact DataW.trod_lt m _ _ _ hm
  have lt1 : ∀ x ∈ p1, x.block < W.heap.size := by obtain ⟨m, hm⟩ := k1; exact DataW.trod_lt m _ _ _ hm
  obtain ⟨x, A, c, rfl, hc0, hC0, hfx⟩ := arg_node (hval 0 24 v0 rfl rfl) g0
  obtain ⟨o, A1, A4, c1, c4, rfl, h1, hC1, h4, hC4, hfo⟩ := arg_op (hval 1 27 v1 rfl rfl) g1
  clear hA0 hval0
  refine (counts_any x o A A1 A4 c c1 c4 W hfx hfo hc0 h1 h4 hC0 hC1 hC4).mono fun e W' ⟨he, bel⟩ => ?_
  subst he
  exact ⟨_, rfl, _, _, _, [], _, [], hW', trodAll_mk1 (shut_bool Tryd.underlying4 _), trodAll_mk2 (Below.trod laidOut readable_node node_lt k0 bel lt0) (Below.trod laidOut readable_op op_lt k1 bel lt1), rfl, bel.frame _, fun h => by cases h⟩
theorem counts_holds : Rows.EditCountsSaid :=
  OpenClaim.holds_of_wide 3 Tryd.f3 rfl rfl rfl rfl rfl rfl rfl ⟨rfl, rfl, rfl, rfl, rfl⟩ rfl rfl rfl rfl rfl (by kernel_rfl) Tryd.func3 (by kernel_rfl)
    (of_decide_eq_true (by kernel_rfl)) (by unfold Func.isWrapper; first | (rw [if_pos (by decide +kernel)]; kernel_rfl) | (rw [if_neg (by decide +kernel)]; exact ⟨rfl, rfl⟩))
    (fun os started H enc _ => counts_lifted os started H enc)
end X
/-- The law EditCounts, tied. -/
theorem editCounts_card : Rows.EditCountsCardSaid :=
  Claim7.holds_tied_plain_at .later [] [.data, .pinned] true (true, "0ae34c3fefcdf26d6d1102cd902ac9537eccb9a6a5e49a24574dc39263dabe95") false X.counts_holds (fun _ h => by cases h) (by kernel_rfl) (fun _ h => by cases h) editCounts_row_tie rfl ⟨rfl, rfl⟩ (by kernel_rfl) rfl
    (fun f fn hf hfn => by
      obtain rfl : f = 3 := Option.some.inj ((show Tryd.prog.funcNamed "vinculum/vinculumlaw12.EditCounts" = some 3 by kernel_rfl).symm.trans hf) |>.symm
      obtain rfl : fn = Tryd.f3 := (Option.some.inj (Tryd.func3.symm.trans hfn)).symm
      exact ⟨by kernel_rfl, fun j t ht => by
        rw [Tryd.params3] at ht
        have hm : t ∈ [24, 27] := by simpa using Array.mem_of_getElem? ht
        have hall : ([24, 27].all fun u => !Tryd.prog.wantsStandIn u) = true := by kernel_rfl
        exact (show Tryd.prog.wantsStandIn t = false by simpa using List.all_eq_true.1 hall t hm)⟩)
    (by kernel_rfl)
#print axioms editCounts_card
namespace X
end X
end Go.Proofs.YtgcpfelccfnnbaaDoor
