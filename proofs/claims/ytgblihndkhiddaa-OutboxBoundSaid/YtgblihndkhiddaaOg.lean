/-
An argument opened: the acts that came in, as a row that is read.
-/
import Derived.Test.YtgblihndkhiddaaFg
import Derived.Test.YtgblihndkhiddaaPOutboxRunsx0
import Derived.Deep.Slices
import Derived.Deep.Fields
namespace Go.Proofs.Ytgblihndkhiddaa.Ou
set_option linter.unusedVariables false
set_option linter.unusedSimpArgs false
open Go.RowKit Go.Proofs.YtgblihndkhiddaaW.PrintWords Go.Proofs.YtgblihndkhiddaaW.PrintLast Go.Proofs.YtgblihndkhiddaaW.PrintMore Go.Proofs.Ytgblihndkhiddaa.POutboxRuns
open Go.ChangeShapes Go.WideShapes Go.ChangeAt Go.Deep
section
variable {H : Type} {enc : TypeId × Value → H} {W : World} {base : Nat} {held : Bool}
theorem rows_cs {fuel : Nat} {v : Value} {x : DataW H × List MemPlace} (h : DataW.trod enc Try.prog W base (fun _ => true) held fuel 29 [v] = some x) :
    ∃ a len cap ls, v = .slice a len cap ∧ (Kd.slice 5 (Kd.int .u8)).C W a len ls ∧ len ≤ cap := by
  have hv : ∃ a len cap, v = .slice a len cap := by
    rcases open_int_rows Try.underlying29 Try.underlying32 Try.underlying5 (by kernel_rfl) (by kernel_rfl) h with ⟨hcs, _⟩ | ⟨x, l, c, A, L, C, Z, hcs, _⟩
    · exact ⟨none, 0, 0, by simpa using hcs⟩
    · exact ⟨some x, l, c, by simpa using hcs⟩
  obtain ⟨a, len, cap, rfl⟩ := hv
  obtain ⟨d, p⟩ := x
  obtain ⟨ls, h1, h2, _⟩ := Fr.rows_open (d := d) (p := p) Try.underlying29 Try.underlying32 Try.underlying5 (by kernel_rfl) (by kernel_rfl) ⟨fuel, h⟩
  exact ⟨a, len, cap, ls, rfl, h1, h2⟩
theorem act_cs {fuel : Nat} {cs : List Value} {x : DataW H × List MemPlace} (h : DataW.trod enc Try.prog W base (fun _ => true) held fuel 31 cs = some x) : ∃ y : S31, k31.K W y cs := by
  obtain ⟨xs, n, _, rfl, hl, hlen, hf⟩ := DataW.trod_struct Try.underlying31 h
  have hc31 : Try.prog.cellsOf 31 = 3 := by kernel_rfl
  have hc5 : Try.prog.cellsOf 5 = 1 := by kernel_rfl
  have hc3 : Try.prog.cellsOf 3 = 1 := by kernel_rfl
  have hc29 : Try.prog.cellsOf 29 = 1 := by kernel_rfl
  rw [hc31] at hl
  match cs, hl with
  | [v0, v1, v2], _ =>
    have h0 : DataW.trod enc Try.prog W base (fun _ => true) held n 5 (([v0, v1, v2].drop 0).take (Try.prog.cellsOf 5)) = xs[0]? := hf 0 _ rfl
    have h1 : DataW.trod enc Try.prog W base (fun _ => true) held n 3 (([v0, v1, v2].drop 1).take (Try.prog.cellsOf 3)) = xs[1]? := hf 1 _ rfl
    have h2 : DataW.trod enc Try.prog W base (fun _ => true) held n 29 (([v0, v1, v2].drop 2).take (Try.prog.cellsOf 29)) = xs[2]? := hf 2 _ rfl
    rw [hc5] at h0
    rw [hc3] at h1
    rw [hc29] at h2
    match xs, hlen with
    | [y0, y1, y2], _ =>
      obtain ⟨n0, e0, _⟩ := DataW.trod_int Try.underlying5 h0
      obtain ⟨n1, e1, _⟩ := DataW.trod_int Try.underlying3 h1
      obtain ⟨a, len, cap, ls, e2, hC, hle⟩ := rows_cs h2
      obtain rfl : v0 = .int .u8 n0 := by simpa using e0
      obtain rfl : v1 = .int .i64 n1 := by simpa using e1
      subst e2
      obtain rfl := hC.1
      exact ⟨⟨n0, n1, ls⟩, k31_mk W ⟨n0, n1, ls⟩ hle hC⟩
theorem wf_i64 {x : Int} (h : (Lit.int .i64 x).wf = true) : x ≤ 9223372036854775807 := by
  simp [Lit.wf, IntKind.min, IntKind.max, IntKind.signed, IntKind.bits] at h
  omega
/-- The acts that came in. -/
theorem acts_open {a : Option Addr} {len cap : Nat} {d : DataW H} {p : List MemPlace} (h : DataW.Trod enc Try.prog W base (fun _ => true) held 22 (.slice a len cap) d p) : ∃ acts : List S31, k31.C W a len acts ∧ len ≤ cap := by
  obtain ⟨fuel, hf⟩ := h
  have hc31 : Try.prog.cellsOf 31 = 3 := by kernel_rfl
  rcases open_slice Try.underlying22 hf with ⟨hcs, _⟩ | ⟨ad, l, c, m, n, D, Pl, hcs, hb, hl, hm, hmm, hx, hi⟩
  · simp [Value.cells] at hcs
    obtain ⟨rfl, rfl, rfl⟩ := hcs
    exact ⟨[], Fr.C_none _ _, by omega⟩
  · simp [Value.cells] at hcs
    obtain ⟨rfl, rfl, rfl⟩ := hcs
    simp only [if_true] at hmm
    subst hmm
    have each : ∀ i, i < len → ∃ y : S31, ∃ cs, k31.K W y cs ∧ cs.length = 3 ∧ ∀ j, j < 3 → W.cell? (ad.add (i * 3 + j)) = cs[j]? := by
      intro i hlt
      obtain ⟨cs', h1, h2⟩ := hi i (by omega)
      rw [hc31] at h1
      obtain ⟨_, hcl, hat⟩ := World.cells?_some h1
      obtain ⟨y, hy⟩ := act_cs h2
      exact ⟨y, cs', hy, hcl, fun j hj => by rw [← Go.Deep.add_add]; exact hat j hj⟩
    haveI : Inhabited S31 := ⟨z31⟩
    obtain ⟨f, hf⟩ := choose_lt each
    refine ⟨(List.range len).map f, ⟨by simp, by unfold maxLen at hm; omega, fun _ => ⟨ad, rfl, fun j q hj => ?_⟩⟩, hl⟩
    have hjl : j < len := by
      rcases Nat.lt_or_ge j len with h | h
      · exact h
      · rw [List.getElem?_eq_none (by simpa using h)] at hj; cases hj
    simp only [List.getElem?_map, List.getElem?_range hjl, Option.map_some, Option.some.injEq] at hj
    subst hj
    obtain ⟨cs, hk, hcl, hat⟩ := hf j hjl
    refine ⟨cs, hcl, hk, fun i u hu => ?_⟩
    have hil : i < 3 := by
      rcases Nat.lt_or_ge i 3 with h | h
      · exact h
      · rw [List.getElem?_eq_none (by omega)] at hu; cases hu
    exact (hat i hil).trans hu
end
end Go.Proofs.Ytgblihndkhiddaa.Ou
