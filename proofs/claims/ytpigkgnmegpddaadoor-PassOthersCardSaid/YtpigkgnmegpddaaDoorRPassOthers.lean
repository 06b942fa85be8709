/-
PassOthers: by another key a ticket is refused for its tag, unless both keys give its bytes one tag; so is one of which a byte was turned, unless its tag is that of what it says now. For every argument; no condition; the two tables (rounds, first) are tied to the program's text by the card.
-/
import Derived.Test.YtpigkgnmegpddaaDoorCards
import Derived.Test.YtpigkgnmegpddaaDoorTie
import Derived.Test.YtpigkgnmegpddaaDoorLs
import Derived.SevenTiedAt
import Derived.Test.YtpigkgnmegpddaaDoorLt
import Derived.Test.YtpigkgnmegpddaaDoorQo
namespace Go.Proofs.YtpigkgnmegpddaaDoor.Sh
open Go.ChangeShapes Go.WideShapes Go.ChangeAt Go.RowKit Go.Deep Go.Proofs.YtpigkgnmegpddaaDoorW.PrintWords
set_option linter.unusedVariables false
section
variable {H : Type} {enc : TypeId × Value → H} {W : World} {base : Nat} {held : Bool}
set_option maxRecDepth 100000 in
theorem keys_open {v : Value} {d : DataW H} {p : List MemPlace} (h : DataW.Trod enc Tryd.prog W base (fun _ => true) held 81 v d p) :
    ∃ (A0 A1 : Option Addr) (n0 c0 n1 c1 : Nat) (k0 k1 : List Int), v = .agg #[.slice A0 n0 c0, .slice A1 n1 c1] ∧ (Kd.int .u8).C W A0 n0 k0 ∧ n0 ≤ c0 ∧ Byt k0 ∧ (Kd.int .u8).C W A1 n1 k1 ∧ n1 ≤ c1 ∧ Byt k1 := by
  obtain ⟨fuel, hf⟩ := h
  obtain ⟨xs, m, rfl, hx, hlen, hxl, hel⟩ := DataW.trod_array Tryd.underlying81 hf
  have hct : Tryd.prog.cellsOf 81 = 2 := by kernel_rfl
  have hce : Tryd.prog.cellsOf 27 = 1 := by kernel_rfl
  rw [hct] at hlen
  have hz : ∀ i, i < 2 → ∃ (A : Option Addr) (l c : Nat) (k : List Int), v.cells.toList[i]? = some (.slice A l c) ∧ (Kd.int .u8).C W A l k ∧ l ≤ c ∧ Byt k := fun i hi => by
    have h1 := hel i hi
    have h2 : i < xs.length := by omega
    rw [List.getElem?_eq_getElem h2, hce, Nat.mul_one] at h1
    rcases open_ints Tryd.underlying27 Tryd.underlying5 (by kernel_rfl) h1 with ⟨hcs, _⟩ | ⟨x, l, c, zs, hcs, _, hl, hm, hz, _, hcell, hwz⟩
    · refine ⟨none, 0, 0, [], ?_, C_none _ _, by omega, fun x hx => by cases hx⟩
      have h3 := congrArg (·[0]?) hcs
      simpa [List.getElem?_take, List.getElem?_drop] using h3
    · simp only [if_true] at hz
      refine ⟨some x, l, c, zs.take l, ?_, C_of_ints2 (by omega) (by unfold maxLen at hm; omega) hcell, hl, fun x hx => byte_wf (hwz x (List.mem_of_mem_take hx))⟩
      have h3 := congrArg (·[0]?) hcs
      simpa [List.getElem?_take, List.getElem?_drop] using h3
  obtain ⟨A0, n0, c0, k0, e0, w0, y0, u0⟩ := hz 0 (by decide)
  obtain ⟨A1, n1, c1, k1, e1, w1, y1, u1⟩ := hz 1 (by decide)
  refine ⟨A0, A1, n0, c0, n1, c1, k0, k1, ?_, w0, y0, u0, w1, y1, u1⟩
  have hcs : v.cells.toList = [.slice A0 n0 c0, .slice A1 n1 c1] := by
    generalize v.cells.toList = l at e0 e1 hlen
    match l, hlen with
    | [x, y], _ =>
      have f0 : x = .slice A0 n0 c0 := Option.some.inj e0
      have f1 : y = .slice A1 n1 c1 := Option.some.inj e1
      rw [f0, f1]
  rw [agg_of_cells hcs (by simp)]
set_option maxRecDepth 100000 in
theorem turns_open {v : Value} {d : DataW H} {p : List MemPlace} (h : DataW.Trod enc Tryd.prog W base (fun _ => true) held 82 v d p) :
    ∃ x y : Int, (0 ≤ x ∧ x ≤ 255) ∧ (0 ≤ y ∧ y ≤ 255) ∧ v = .agg #[.int .u8 x, .int .u8 y] ∧ ∀ (W' : World) (base' : Nat) (sp' : Nat → Bool) (held' : Bool), DataW.Trod enc Tryd.prog W' base' sp' held' 82 v d p := by
  obtain ⟨zs, h1, h2, h3, h4⟩ := arr_open Tryd.underlying82 Tryd.underlying5 (by kernel_rfl) (by kernel_rfl) h
  match zs, h2, h1, h3 with
  | [x, y], _, h1, h3 => exact ⟨x, y, byte_wf (h3 x (by simp)), byte_wf (h3 y (by simp)), by rw [agg_of_cells h1 (by simp)]; rfl, h4⟩
end
set_option maxRecDepth 100000 in
theorem passOthers_lifted (os : Os) (started : os.Started) (H : Type) (enc : TypeId × Value → H) :
    ReturnsInHanded {} Tryd.checked os 18 .any (fun w args => (Rows.passOthersSpec.pre enc Tryd.prog Tryd.f18 [] false w args ∧ laidMetH Tryd.prog laid2 w) ∧ sizedMet enc Tryd.prog Tryd.f18 (OpenSpec.ofChange Rows.passOthersSpec) false w args)
      (Rows.passOthersSpec.post enc Tryd.prog Tryd.f18 false true false false) := by
  refine returnsInHanded_of_change_and (C := Tryd.checked) (X := fun w _ => laidMetH Tryd.prog laid2 w) (fun _ _ _ hh h => h.of_heap hh) own started (by kernel_rfl) Tryd.func18
    (ChangeSpec.witness_shaped (enc := enc) (C := Tryd.checked) (os := os) (X := fun w _ => laidMetH Tryd.prog laid2 w) false (laidWorld os) #[.agg #[.slice none 0 0, .slice none 0 0], .agg #[.int .u32 0, .int .i64 0, .int .u64 0], .agg #[.int .u8 0, .int .u8 0]] 12 rfl (laid_shaped os _) (by kernel_rfl) (by kernel_rfl) (by kernel_rfl) (laid_met os _)) ?_
  intro W base args ds gs before hval0 hW _ _ hL _
  have hval : ∀ (j : Nat) t v, Tryd.f18.params[j]? = some t → args[j]? = some v → Value.okWide Tryd.prog W .any base t v := hval0
  have hW' := hW
  obtain ⟨p, q, hA0, hV, rfl, hfz, hnd⟩ := hW
  have hA : DataW.TrodAll enc Tryd.prog W 0 (fun _ => true) true Tryd.f18.params.toList args.toList ds p := hA0
  rw [Tryd.params18] at hA hval
  obtain ⟨v0, vs0, d0, ds0, p0, q0, hargs, rfl, rfl, h0, r0⟩ := trodAll_cons hA
  obtain ⟨v1, vs1, d1, ds1, p1, q1, rfl, rfl, rfl, h1, r1⟩ := trodAll_cons r0
  obtain ⟨v2, vs2, d2, ds2, p2, q2, rfl, rfl, rfl, h2, r2⟩ := trodAll_cons r1
  obtain ⟨rfl, rfl, rfl⟩ := trodAll_nil r2
  obtain rfl : args = #[v0, v1, v2] := by cases args; simp_all
  obtain ⟨rfl, rfl⟩ := trodVars_none hV
  have k0 := h0
  have lt0 : ∀ x ∈ p0, x.block < W.heap.size := by obtain ⟨m, hm⟩ := k0; exact DataW.trod_lt m _ _ _ hm
  obtain ⟨A0, B0, n0, c0, m0, e0, ka0, kb0, rfl, wa0, ya0, ua0, wb0, yb0, ub0⟩ := keys_open h0
  obtain ⟨z1, o1, rfl, c1⟩ := ticket_open h1
  obtain ⟨x2, y2, rx2, ry2, rfl, c2⟩ := turns_open h2
  clear hA0 hval0
  have hT := tab_of_laid hL
  refine (others_law W hT wa0 ya0 ua0 wb0 yb0 ub0 o1 rx2 ry2).mono fun e W' ⟨he, bel⟩ => ?_
  subst he
  exact ⟨_, rfl, _, _, _, [], _, [], hW', trodAll_mk1 (shut_bool Tryd.underlying4 _), (trodAll_cons_mk (Below.trod laidOut (by kernel_rfl) (of_decide_eq_true (by kernel_rfl)) k0 bel lt0) (trodAll_cons_mk (c1 _ _ _ _) (trodAll_cons_mk (c2 _ _ _ _) trodAll_mk0))), rfl, bel.frame _, fun h => by cases h⟩
theorem passOthers_holds : Rows.PassOthersSaid :=
  OpenClaim.holds_of_wide 18 Tryd.f18 rfl rfl rfl rfl rfl rfl rfl ⟨rfl, rfl, rfl, rfl, rfl⟩ rfl rfl rfl rfl rfl (by kernel_rfl) Tryd.func18 (by kernel_rfl)
    (of_decide_eq_true (by kernel_rfl)) (by unfold Func.isWrapper; first | (rw [if_pos (by decide +kernel)]; kernel_rfl) | (rw [if_neg (by decide +kernel)]; exact ⟨rfl, rfl⟩))
    (fun os started H enc _ => passOthers_lifted os started H enc)
theorem passOthers_plain (f : FuncId) (fn : Func) (hf : Tryd.pinned.checked.prog.funcNamed "tiltyard/tiltyardlaw06.PassOthers" = some f) (hfn : Tryd.pinned.checked.prog.funcs[f]? = some fn) :
    false = Tryd.pinned.checked.prog.looks [] ∧ ∀ (j : Nat) t, fn.params[j]? = some t → Tryd.pinned.checked.prog.wantsStandIn t = false := by
  obtain rfl : f = 18 := Option.some.inj ((show Tryd.prog.funcNamed "tiltyard/tiltyardlaw06.PassOthers" = some 18 by kernel_rfl).symm.trans hf) |>.symm
  obtain rfl : fn = Tryd.f18 := (Option.some.inj (Tryd.func18.symm.trans hfn)).symm
  refine ⟨by kernel_rfl, fun j t ht => ?_⟩
  rw [Tryd.params18] at ht
  have hm : t ∈ [81, 53, 82] := by simpa using Array.mem_of_getElem? ht
  have hall : ([81, 53, 82].all fun u => !Tryd.prog.wantsStandIn u) = true := by kernel_rfl
  exact (show Tryd.prog.wantsStandIn t = false by simpa using List.all_eq_true.1 hall t hm)
end Go.Proofs.YtpigkgnmegpddaaDoor.Sh
namespace Go.Proofs.YtpigkgnmegpddaaDoor
/-- The card, for the claim. -/
theorem passOthers_card : Rows.PassOthersCardSaid :=
  Claim7.holds_tied_plain_at .later [] _ _ _ _ Sh.passOthers_holds (fun _ h => by cases h) (by kernel_rfl) (fun _ h => by cases h) passOthers_row_tie rfl ⟨rfl, rfl⟩ (by kernel_rfl) rfl Sh.passOthers_plain (by kernel_rfl)
end Go.Proofs.YtpigkgnmegpddaaDoor
