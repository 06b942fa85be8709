/-
Arguments opened that are arrays of numbers, or structs of numbers: their cells; they read the same in every world.
-/
import Derived.Test.YtpigkgnmegpddaaDoorLr
import Derived.Test.YtpigkgnmegpddaaDoorPp
namespace Go.Proofs.YtpigkgnmegpddaaDoor.Sh
set_option linter.unusedVariables false
set_option linter.unusedSimpArgs false
open Go.ChangeShapes Go.WideShapes Go.ChangeAt Go.RowKit Go.Deep Go.Proofs.YtpigkgnmegpddaaDoorW.PrintWords Go.Proofs.YtpigkgnmegpddaaDoorW.PrintLast Go.Proofs.YtpigkgnmegpddaaDoorW.PrintMore

section
variable {H : Type} {enc : TypeId × Value → H} {P : Program} {W W' : World} {base base' : Nat} {sp sp' : Nat → Bool} {held held' : Bool}
theorem trod_num {t : TypeId} {k : IntKind} (ht : P.underlying t = some (.int k)) (m : Nat) (cs : List Value) : DataW.trod enc P W base sp held m t cs = DataW.trod enc P W' base' sp' held' m t cs := by
  cases m with
  | zero => rfl
  | succ m =>
    unfold DataW.trod
    rw [ht]
    rcases cs with _ | ⟨c, _ | ⟨c2, r⟩⟩
    · rfl
    · cases c <;> rfl
    · cases c <;> rfl
theorem trod_arr {t e : TypeId} {n : Nat} {k : IntKind} (ht : P.underlying t = some (.array n e)) (he : P.underlying e = some (.int k)) (m : Nat) (cs : List Value) : DataW.trod enc P W base sp held m t cs = DataW.trod enc P W' base' sp' held' m t cs := by
  cases m with
  | zero => rfl
  | succ m =>
    simp only [DataW.trod, ht]
    simp only [trod_num (W := W) (W' := W') (base := base) (base' := base') (sp := sp) (sp' := sp') (held := held) (held' := held') (enc := enc) he m]
theorem trod_str {t : TypeId} {fs : Array Field} (ht : P.underlying t = some (.struct fs)) (hf : ∀ f ∈ fs.toList, ∃ k, P.underlying f.type = some (.int k)) (m : Nat) (cs : List Value) : DataW.trod enc P W base sp held m t cs = DataW.trod enc P W' base' sp' held' m t cs := by
  cases m with
  | zero => rfl
  | succ m =>
    simp only [DataW.trod, ht]
    have h : ∀ l : List Field, (∀ f ∈ l, ∃ k, P.underlying f.type = some (.int k)) → (l.mapM fun f => DataW.trod enc P W base sp held m f.type ((cs.drop f.offset).take (P.cellsOf f.type))) = l.mapM fun f => DataW.trod enc P W' base' sp' held' m f.type ((cs.drop f.offset).take (P.cellsOf f.type)) := by
      intro l hl
      induction l with
      | nil => rfl
      | cons f l ih =>
        obtain ⟨k, hk⟩ := hl f (List.mem_cons_self ..)
        rw [List.mapM_cons, List.mapM_cons, ih (fun g hg => hl g (List.mem_cons_of_mem _ hg)), trod_num (W' := W') (base' := base') (sp' := sp') (held' := held') hk]
    rw [h fs.toList hf]
/-- An array of numbers that came in. -/
theorem arr_open {t e : TypeId} {n : Nat} {k : IntKind} (ht : P.underlying t = some (.array n e)) (he : P.underlying e = some (.int k)) (hce : P.cellsOf e = 1) (hct : P.cellsOf t = n) {v : Value} {d : DataW H} {p : List MemPlace}
    (h : DataW.Trod enc P W base sp held t v d p) : ∃ zs : List Int, v.cells.toList = zs.map (Value.int k) ∧ zs.length = n ∧ (∀ z ∈ zs, (Lit.int k z).wf = true) ∧ ∀ (W' : World) (base' : Nat) (sp' : Nat → Bool) (held' : Bool), DataW.Trod enc P W' base' sp' held' t v d p := by
  obtain ⟨fuel, hf⟩ := h
  have hf' := hf
  obtain ⟨xs, m, rfl, hx, hlen, hxl, hel⟩ := DataW.trod_array ht hf
  rw [hct] at hlen
  have hz : ∀ i, i < n → ∃ z, v.cells.toList[i]? = some (.int k z) ∧ (Lit.int k z).wf = true := fun i hi => by
    have h1 := hel i hi
    have h2 : i < xs.length := by omega
    rw [List.getElem?_eq_getElem h2, hce, Nat.mul_one] at h1
    obtain ⟨z, hc, _, hw⟩ := DataW.trod_int he h1
    refine ⟨z, ?_, hw⟩
    have h3 := congrArg (·[0]?) hc
    simpa [List.getElem?_take, List.getElem?_drop] using h3
  have hall : ∃ zs : List Int, v.cells.toList = zs.map (Value.int k) ∧ ∀ z ∈ zs, (Lit.int k z).wf = true := by
    have : ∀ l : List Value, (∀ i, i < l.length → ∃ z, l[i]? = some (.int k z) ∧ (Lit.int k z).wf = true) → ∃ zs : List Int, l = zs.map (Value.int k) ∧ ∀ z ∈ zs, (Lit.int k z).wf = true := by
      intro l
      induction l with
      | nil => exact fun _ => ⟨[], rfl, fun z hz => by cases hz⟩
      | cons c l ih =>
        intro hl
        obtain ⟨z, h1, h2⟩ := hl 0 (by simp)
        obtain ⟨zs, h3, h4⟩ := ih (fun i hi => by simpa using hl (i + 1) (by simpa using hi))
        simp only [List.getElem?_cons_zero, Option.some.injEq] at h1
        subst h1; subst h3
        exact ⟨z :: zs, rfl, fun y hy => by
          rcases List.mem_cons.1 hy with rfl | hy
          · exact h2
          · exact h4 y hy⟩
    exact this _ (fun i hi => hz i (by omega))
  obtain ⟨zs, h1, h2⟩ := hall
  exact ⟨zs, h1, by rw [h1, List.length_map] at hlen; exact hlen, h2, fun W' base' sp' held' => ⟨m + 1, by rw [trod_arr (W := W') (W' := W) (base' := base) (sp' := sp) (held' := held) ht he]; exact hf'⟩⟩
/-- A struct of numbers. -/
theorem str_same {t : TypeId} {fs : Array Field} (ht : P.underlying t = some (.struct fs)) (hf : ∀ f ∈ fs.toList, ∃ k, P.underlying f.type = some (.int k)) {v : Value} {d : DataW H} {p : List MemPlace} (h : DataW.Trod enc P W base sp held t v d p) (W' : World) (base' : Nat) (sp' : Nat → Bool) (held' : Bool) :
    DataW.Trod enc P W' base' sp' held' t v d p := by
  obtain ⟨fuel, h⟩ := h
  exact ⟨fuel, by rw [trod_str (W := W') (W' := W) (base' := base) (sp' := sp) (held' := held) ht hf]; exact h⟩
theorem agg_of_cells {v : Value} {l : List Value} (h : v.cells.toList = l) (hl : l.length ≠ 1) : v = .agg l.toArray := by
  cases v with
  | agg cs =>
    have : cs.toList = l := h
    rw [← this]
  | _ => exact absurd (congrArg List.length h) (by simp [Value.cells]; omega)
end
theorem wf_u32 {x : Int} (h : (Lit.int .u32 x).wf = true) : 0 ≤ x ∧ x ≤ 4294967295 := by
  simp [Lit.wf, IntKind.min, IntKind.max, IntKind.signed, IntKind.bits] at h
  omega
theorem wf_u64 {x : Int} (h : (Lit.int .u64 x).wf = true) : 0 ≤ x ∧ x ≤ 18446744073709551615 := by
  simp [Lit.wf, IntKind.min, IntKind.max, IntKind.signed, IntKind.bits] at h
  omega
theorem wf_i64 {x : Int} (h : (Lit.int .i64 x).wf = true) : -9223372036854775808 ≤ x ∧ x ≤ 9223372036854775807 := by
  simp [Lit.wf, IntKind.min, IntKind.max, IntKind.signed, IntKind.bits] at h
  omega
theorem num_of {x : Int} (h : 0 ≤ x ∧ x ≤ 4294967295) : num (BitVec.ofInt 32 x) = x := by
  unfold num
  rw [BitVec.toNat_ofInt]
  omega
section
variable {H : Type} {enc : TypeId × Value → H} {W : World} {base : Nat} {held : Bool}
set_option maxRecDepth 100000 in
theorem words_open {v : Value} {d : DataW H} {p : List MemPlace} (h : DataW.Trod enc Tryd.prog W base (fun _ => true) held 23 v d p) :
    ∃ s : S8, v = .agg (v32 s.list) ∧ ∀ (W' : World) (base' : Nat) (sp' : Nat → Bool) (held' : Bool), DataW.Trod enc Tryd.prog W' base' sp' held' 23 v d p := by
  obtain ⟨zs, h1, h2, h3, h4⟩ := arr_open Tryd.underlying23 Tryd.underlying22 cells22 cells23 h
  refine ⟨⟨BitVec.ofInt 32 (zs.getD 0 0), BitVec.ofInt 32 (zs.getD 1 0), BitVec.ofInt 32 (zs.getD 2 0), BitVec.ofInt 32 (zs.getD 3 0), BitVec.ofInt 32 (zs.getD 4 0), BitVec.ofInt 32 (zs.getD 5 0), BitVec.ofInt 32 (zs.getD 6 0), BitVec.ofInt 32 (zs.getD 7 0)⟩, ?_, h4⟩
  rw [agg_of_cells h1 (by simp; omega)]
  match zs, h2, h3 with
  | [a, b, c, d, e, f, g, k], _, h3 =>
    have n := fun x hx => num_of (wf_u32 (h3 x hx))
    simp [v32, S8.list, n]
set_option maxRecDepth 100000 in
theorem block_open {v : Value} {d : DataW H} {p : List MemPlace} (h : DataW.Trod enc Tryd.prog W base (fun _ => true) held 24 v d p) :
    ∃ l : List Int, l.length = 64 ∧ Byt l ∧ v = .agg (v8 l) ∧ ∀ (W' : World) (base' : Nat) (sp' : Nat → Bool) (held' : Bool), DataW.Trod enc Tryd.prog W' base' sp' held' 24 v d p := by
  obtain ⟨zs, h1, h2, h3, h4⟩ := arr_open Tryd.underlying24 Tryd.underlying5 (by kernel_rfl) (by kernel_rfl) h
  exact ⟨zs, h2, fun x hx => byte_wf (h3 x hx), by rw [agg_of_cells h1 (by simp; omega)]; rfl, h4⟩
end
end Go.Proofs.YtpigkgnmegpddaaDoor.Sh
