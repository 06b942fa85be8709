/-
PassNil: without a key the tag is 32 noughts, and nothing is opened. For every argument; no condition; the two tables (rounds, first) are tied to the program's text by the card.
-/
import Derived.Test.YtpigkgnmegpddaaDoorCards
import Derived.Test.YtpigkgnmegpddaaDoorTie
import Derived.Test.YtpigkgnmegpddaaDoorLs
import Derived.SevenTiedAt
import Derived.Test.YtpigkgnmegpddaaDoorLt
import Derived.Test.YtpigkgnmegpddaaDoorQn
namespace Go.Proofs.YtpigkgnmegpddaaDoor.Sh
open Go.ChangeShapes Go.WideShapes Go.ChangeAt Go.RowKit Go.Deep Go.Proofs.YtpigkgnmegpddaaDoorW.PrintWords
set_option linter.unusedVariables false
set_option maxRecDepth 100000 in
theorem passNil_lifted (os : Os) (started : os.Started) (H : Type) (enc : TypeId × Value → H) :
    ReturnsInHanded {} Tryd.checked os 20 .any (fun w args => (Rows.passNilSpec.pre enc Tryd.prog Tryd.f20 [] false w args ∧ laidMetH Tryd.prog laid2 w) ∧ sizedMet enc Tryd.prog Tryd.f20 (OpenSpec.ofChange Rows.passNilSpec) false w args)
      (Rows.passNilSpec.post enc Tryd.prog Tryd.f20 false true false false) := by
  refine returnsInHanded_of_change_and (C := Tryd.checked) (X := fun w _ => laidMetH Tryd.prog laid2 w) (fun _ _ _ hh h => h.of_heap hh) own started (by kernel_rfl) Tryd.func20
    (ChangeSpec.witness_shaped (enc := enc) (C := Tryd.checked) (os := os) (X := fun w _ => laidMetH Tryd.prog laid2 w) false (laidWorld os) #[.agg #[.int .u32 0, .int .i64 0, .int .u64 0], .agg #[.int .u32 0, .int .u32 0, .int .u16 0, .int .u8 0, .int .i64 0, .int .u64 0], .string "".toUTF8] 12 rfl (laid_shaped os _) (by kernel_rfl) (by kernel_rfl) (by kernel_rfl) (laid_met os _)) ?_
  intro W base args ds gs before hval0 hW _ _ hL _
  have hval : ∀ (j : Nat) t v, Tryd.f20.params[j]? = some t → args[j]? = some v → Value.okWide Tryd.prog W .any base t v := hval0
  have hW' := hW
  obtain ⟨p, q, hA0, hV, rfl, hfz, hnd⟩ := hW
  have hA : DataW.TrodAll enc Tryd.prog W 0 (fun _ => true) true Tryd.f20.params.toList args.toList ds p := hA0
  rw [Tryd.params20] at hA hval
  obtain ⟨v0, vs0, d0, ds0, p0, q0, hargs, rfl, rfl, h0, r0⟩ := trodAll_cons hA
  obtain ⟨v1, vs1, d1, ds1, p1, q1, rfl, rfl, rfl, h1, r1⟩ := trodAll_cons r0
  obtain ⟨v2, vs2, d2, ds2, p2, q2, rfl, rfl, rfl, h2, r2⟩ := trodAll_cons r1
  obtain ⟨rfl, rfl, rfl⟩ := trodAll_nil r2
  obtain rfl : args = #[v0, v1, v2] := by cases args; simp_all
  obtain ⟨rfl, rfl⟩ := trodVars_none hV
  obtain ⟨z0, o0, rfl, c0⟩ := ticket_open h0
  obtain ⟨z1, o1, rfl, c1⟩ := token_open h1
  obtain ⟨s2, rfl, rfl, rfl, w2⟩ := ChangeMaps.open_string Tryd.underlying9 (hval 2 9 v2 rfl rfl) h2
  clear hA0 hval0
  have hT := tab_of_laid hL
  refine (nil_law W hT o0 o1).mono fun e W' ⟨he, bel⟩ => ?_
  subst he
  exact ⟨_, rfl, _, _, _, [], _, [], hW', trodAll_mk1 (shut_bool Tryd.underlying4 _), (trodAll_cons_mk (c0 _ _ _ _) (trodAll_cons_mk (c1 _ _ _ _) (trodAll_cons_mk (ChangeMaps.shut_string Tryd.underlying9 w2) trodAll_mk0))), rfl, bel.frame _, fun h => by cases h⟩
theorem passNil_holds : Rows.PassNilSaid :=
  OpenClaim.holds_of_wide 20 Tryd.f20 rfl rfl rfl rfl rfl rfl rfl ⟨rfl, rfl, rfl, rfl, rfl⟩ rfl rfl rfl rfl rfl (by kernel_rfl) Tryd.func20 (by kernel_rfl)
    (of_decide_eq_true (by kernel_rfl)) (by unfold Func.isWrapper; first | (rw [if_pos (by decide +kernel)]; kernel_rfl) | (rw [if_neg (by decide +kernel)]; exact ⟨rfl, rfl⟩))
    (fun os started H enc _ => passNil_lifted os started H enc)
theorem passNil_plain (f : FuncId) (fn : Func) (hf : Tryd.pinned.checked.prog.funcNamed "tiltyard/tiltyardlaw06.PassNil" = some f) (hfn : Tryd.pinned.checked.prog.funcs[f]? = some fn) :
    false = Tryd.pinned.checked.prog.looks [] ∧ ∀ (j : Nat) t, fn.params[j]? = some t → Tryd.pinned.checked.prog.wantsStandIn t = false := by
  obtain rfl : f = 20 := Option.some.inj ((show Tryd.prog.funcNamed "tiltyard/tiltyardlaw06.PassNil" = some 20 by kernel_rfl).symm.trans hf) |>.symm
  obtain rfl : fn = Tryd.f20 := (Option.some.inj (Tryd.func20.symm.trans hfn)).symm
  refine ⟨by kernel_rfl, fun j t ht => ?_⟩
  rw [Tryd.params20] at ht
  have hm : t ∈ [53, 56, 9] := by simpa using Array.mem_of_getElem? ht
  have hall : ([53, 56, 9].all fun u => !Tryd.prog.wantsStandIn u) = true := by kernel_rfl
  exact (show Tryd.prog.wantsStandIn t = false by simpa using List.all_eq_true.1 hall t hm)
end Go.Proofs.YtpigkgnmegpddaaDoor.Sh
namespace Go.Proofs.YtpigkgnmegpddaaDoor
/-- The card, for the claim. -/
theorem passNil_card : Rows.PassNilCardSaid :=
  Claim7.holds_tied_plain_at .later [] _ _ _ _ Sh.passNil_holds (fun _ h => by cases h) (by kernel_rfl) (fun _ h => by cases h) passNil_row_tie rfl ⟨rfl, rfl⟩ (by kernel_rfl) rfl Sh.passNil_plain (by kernel_rfl)
end Go.Proofs.YtpigkgnmegpddaaDoor
