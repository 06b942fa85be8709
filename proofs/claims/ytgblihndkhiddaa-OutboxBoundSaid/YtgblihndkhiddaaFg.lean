/-
Arguments opened: a []byte and a [][]byte that came in, as rows that are read.
-/
import Derived.Test.YtgblihndkhiddaaFe
import Derived.ProofKit
import Derived.Deep.Matrix
namespace Go.Proofs.Ytgblihndkhiddaa.Fr
set_option linter.unusedVariables false
set_option linter.unusedSimpArgs false
open Go.RowKit Go.Proofs.YtgblihndkhiddaaW.PrintWords Go.Proofs.YtgblihndkhiddaaW.PrintLast Go.Proofs.YtgblihndkhiddaaW.PrintMore
open Go.ChangeShapes Go.WideShapes Go.ChangeAt Go.Deep

theorem byte_wf {x : Int} (h : (Lit.int .u8 x).wf = true) : 0 ≤ x ∧ x ≤ 255 := by
  simp [Lit.wf, IntKind.min, IntKind.max, IntKind.signed, IntKind.bits] at h
  omega
theorem wf_u8 {x : Int} (h : (Lit.int .u8 x).wf = true) : 0 ≤ x ∧ x ≤ 255 := byte_wf h
theorem wf_u16 {x : Int} (h : (Lit.int .u16 x).wf = true) : 0 ≤ x ∧ x ≤ 65535 := by
  simp [Lit.wf, IntKind.min, IntKind.max, IntKind.signed, IntKind.bits] at h
  omega
theorem C_of_ints {W : World} {a : Addr} {len : Nat} {zs : List Int} (hl : len ≤ zs.length) (hm : len ≤ 9223372036854775807) (hc : ∀ i, i < zs.length → W.cell? (a.add i) = some (.int .u8 (zs.getD i 0))) : (Kd.int .u8).C W (some a) len (zs.take len) := by
  refine ⟨by rw [List.length_take]; omega, hm, fun _ => ⟨a, rfl, fun j p hj => ⟨[.int .u8 p], rfl, rfl, fun i u hu => ?_⟩⟩⟩
  match i, hu with
  | 0, hu =>
    simp only [List.getElem?_cons_zero, Option.some.injEq] at hu
    subst hu
    have hjl : j < zs.length := by
      rcases Nat.lt_or_ge j (zs.take len).length with h | h
      · rw [List.length_take] at h; omega
      · rw [List.getElem?_eq_none h] at hj; cases hj
    have hp : zs.getD j 0 = p := by
      rw [List.getElem?_take] at hj
      split at hj
      · rw [List.getD_eq_getElem?_getD, hj]; rfl
      · cases hj
    have := hc j hjl
    rw [hp] at this
    simpa [Kd.int, Kd.scalar] using this
theorem C_none {α : Type} (d : Kd α) (W : World) : d.C W none 0 [] := ⟨rfl, by omega, fun h => absurd h (by omega)⟩
section
variable {H : Type} {enc : TypeId × Value → H} {P : Program} {W : World} {base : Nat} {held : Bool}
/-- A []byte that came in. -/
theorem bytes_open {t q : TypeId} {a : Option Addr} {len cap : Nat} {d : DataW H} {p : List MemPlace} (ht : P.underlying t = some (.slice q)) (hq : P.underlying q = some (.int .u8)) (cq : P.cellsOf q = 1)
    (h : DataW.Trod enc P W base (fun _ => true) held t (.slice a len cap) d p) : ∃ xs, (Kd.int .u8).C W a len xs ∧ len ≤ cap ∧ Byt xs := by
  obtain ⟨fuel, hf⟩ := h
  rcases open_ints ht hq cq hf with ⟨hcs, _⟩ | ⟨x, l, c, zs, hcs, _, hl, hm, hz, _, hcell, hwz⟩
  · simp [Value.cells] at hcs
    obtain ⟨rfl, rfl, rfl⟩ := hcs
    exact ⟨[], C_none _ _, by omega, fun x hx => by cases hx⟩
  · simp [Value.cells] at hcs
    obtain ⟨rfl, rfl, rfl⟩ := hcs
    simp only [if_true] at hz
    refine ⟨zs.take len, C_of_ints (by omega) (by unfold maxLen at hm; omega) hcell, hl, fun x hx => byte_wf (hwz x (List.mem_of_mem_take hx))⟩
/-- A [][]byte that came in. -/
theorem rows_open {t e q : TypeId} {a : Option Addr} {len cap : Nat} {d : DataW H} {p : List MemPlace} (ht : P.underlying t = some (.slice e)) (he : P.underlying e = some (.slice q)) (hq : P.underlying q = some (.int .u8)) (ce : P.cellsOf e = 1) (cq : P.cellsOf q = 1)
    (h : DataW.Trod enc P W base (fun _ => true) held t (.slice a len cap) d p) : ∃ ls, (Kd.slice q (Kd.int .u8)).C W a len ls ∧ len ≤ cap ∧ ∀ l ∈ ls, Byt l := by
  obtain ⟨fuel, hf⟩ := h
  rcases open_int_rows ht he hq ce cq hf with ⟨hcs, _⟩ | ⟨x, l, c, A, L, C, Z, hcs, _, hl, hm, _, hr⟩
  · simp [Value.cells] at hcs
    obtain ⟨rfl, rfl, rfl⟩ := hcs
    exact ⟨[], C_none _ _, by omega, fun l hl => by cases hl⟩
  · simp [Value.cells] at hcs
    obtain ⟨rfl, rfl, rfl⟩ := hcs
    refine ⟨(List.range len).map fun r => (Z r).take (L r), ⟨by simp, by unfold maxLen at hm; omega, fun _ => ⟨x, rfl, fun j p hj => ?_⟩⟩, hl, ?_⟩
    · have hjl : j < len := by
        rcases Nat.lt_or_ge j len with h | h
        · exact h
        · rw [List.getElem?_eq_none (by simpa using h)] at hj; cases hj
      obtain ⟨h1, h2, h3, h4, h5, h6, h7⟩ := hr j (by omega)
      have hp : (Z j).take (L j) = p := by
        simp only [List.getElem?_map, List.getElem?_range hjl, Option.map_some, Option.some.injEq] at hj
        exact hj
      have hpl : p.length = L j := by rw [← hp, List.length_take]; omega
      refine ⟨[.slice (A j) (L j) (C j)], rfl, ⟨A j, C j, by rw [hpl], by omega, ?_⟩, fun i u hu => ?_⟩
      · rw [hpl, ← hp]
        cases hA : A j with
        | none =>
          have : C j = 0 := h6 hA
          have h0 : L j = 0 := by omega
          rw [h0, List.take_zero]
          exact C_none _ _
        | some a' =>
          exact C_of_ints (by omega) (by unfold maxLen at h3; omega) (fun i hi => (h7 a' hA).2 i (by omega))
      · match i, hu with
        | 0, hu =>
          simp only [List.getElem?_cons_zero, Option.some.injEq] at hu
          subst hu
          simpa [Kd.slice] using h1
    · intro l hl x hx
      simp only [List.mem_map, List.mem_range] at hl
      obtain ⟨r, hr2, rfl⟩ := hl
      exact byte_wf ((hr r (by omega)).2.2.2.2.1 x (List.mem_of_mem_take hx))
end
theorem own : ownKnob Try.prog.godebug = none := by kernel_rfl
theorem laidOut : laidOutB Try.prog = true := by kernel_rfl
end Go.Proofs.Ytgblihndkhiddaa.Fr
