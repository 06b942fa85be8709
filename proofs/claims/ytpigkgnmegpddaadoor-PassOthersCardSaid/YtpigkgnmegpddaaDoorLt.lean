/-
Tickets and tokens that come in.
-/
import Derived.Test.YtpigkgnmegpddaaDoorLs
namespace Go.Proofs.YtpigkgnmegpddaaDoor.Sh
set_option linter.unusedVariables false
set_option linter.unusedSimpArgs false
open Go.ChangeShapes Go.WideShapes Go.ChangeAt Go.RowKit Go.Deep Go.Proofs.YtpigkgnmegpddaaDoorW.PrintWords Go.Proofs.YtpigkgnmegpddaaDoorW.PrintLast Go.Proofs.YtpigkgnmegpddaaDoorW.PrintMore

theorem field_num {H : Type} {enc : TypeId × Value → H} {P : Program} {W : World} {base : Nat} {sp : Nat → Bool} {held : Bool} {t : TypeId} {fs : Array Field} (ht : P.underlying t = some (.struct fs)) {fuel : Nat} {cs : List Value} {x : DataW H × List MemPlace}
    (h : DataW.trod enc P W base sp held fuel t cs = some x) (i : Nat) (f : Field) (hi : fs[i]? = some f) {k : IntKind} (hk : P.underlying f.type = some (.int k)) (hc : P.cellsOf f.type = 1) : ∃ z, cs[f.offset]? = some (.int k z) ∧ (Lit.int k z).wf = true := by
  obtain ⟨xs, m, rfl, hx, hlen, hxl, hel⟩ := DataW.trod_struct ht h
  have h1 := hel i f hi
  have h2 : i < xs.length := by rw [hxl]; exact (Array.getElem?_eq_some_iff.1 hi).1
  rw [List.getElem?_eq_getElem h2, hc] at h1
  obtain ⟨z, hcz, _, hw⟩ := DataW.trod_int hk h1
  refine ⟨z, ?_, hw⟩
  have h3 := congrArg (·[0]?) hcz
  simpa [List.getElem?_take, List.getElem?_drop] using h3
theorem wf_u16' {x : Int} (h : (Lit.int .u16 x).wf = true) : 0 ≤ x ∧ x ≤ 65535 := by
  simp [Lit.wf, IntKind.min, IntKind.max, IntKind.signed, IntKind.bits] at h
  omega
section
variable {H : Type} {enc : TypeId × Value → H} {W : World} {base : Nat} {held : Bool}
set_option maxRecDepth 100000 in
theorem ticket_open {v : Value} {d : DataW H} {p : List MemPlace} (h : DataW.Trod enc Tryd.prog W base (fun _ => true) held 53 v d p) :
    ∃ t : Tk, t.ok ∧ v = .agg #[.int .u32 t.p, .int .i64 t.e, .int .u64 t.n] ∧ ∀ (W' : World) (base' : Nat) (sp' : Nat → Bool) (held' : Bool), DataW.Trod enc Tryd.prog W' base' sp' held' 53 v d p := by
  have h0 := h
  obtain ⟨fuel, hf⟩ := h
  obtain ⟨a, ha, wa⟩ := field_num Tryd.underlying53 hf 0 _ rfl (k := .u32) Tryd.underlying22 (by kernel_rfl)
  obtain ⟨b, hb, wb⟩ := field_num Tryd.underlying53 hf 1 _ rfl (k := .i64) Tryd.underlying2 (by kernel_rfl)
  obtain ⟨c, hc, wc⟩ := field_num Tryd.underlying53 hf 2 _ rfl (k := .u64) Tryd.underlying40 (by kernel_rfl)
  obtain ⟨_, _, _, _, hlen, _, _⟩ := DataW.trod_struct Tryd.underlying53 hf
  have hl3 : v.cells.toList.length = 3 := hlen.trans (by kernel_rfl)
  have hcs : v.cells.toList = [.int .u32 a, .int .i64 b, .int .u64 c] := by
    generalize v.cells.toList = l at ha hb hc hl3
    match l, hl3 with
    | [x, y, z], _ =>
      have e1 : x = .int .u32 a := Option.some.inj ha
      have e2 : y = .int .i64 b := Option.some.inj hb
      have e3 : z = .int .u64 c := Option.some.inj hc
      rw [e1, e2, e3]
  have ra := wf_u32 wa
  have rb := wf_i64 wb
  have rc := wf_u64 wc
  refine ⟨⟨a.toNat, b, c.toNat⟩, ⟨by show a.toNat < _; omega, rb, by show c.toNat < _; omega⟩, ?_, fun W' base' sp' held' => str_same Tryd.underlying53 (fun f hf => ?_) h0 W' base' sp' held'⟩
  · rw [agg_of_cells hcs (by simp)]
    simp only [Int.toNat_of_nonneg ra.1, Int.toNat_of_nonneg rc.1]
  · simp only [List.mem_cons, List.not_mem_nil, or_false] at hf
    rcases hf with rfl | rfl | rfl
    · exact ⟨_, Tryd.underlying22⟩
    · exact ⟨_, Tryd.underlying2⟩
    · exact ⟨_, Tryd.underlying40⟩
set_option maxRecDepth 100000 in
theorem token_open {v : Value} {d : DataW H} {p : List MemPlace} (h : DataW.Trod enc Tryd.prog W base (fun _ => true) held 56 v d p) :
    ∃ t : Tn, t.ok ∧ v = .agg #[.int .u32 t.p, .int .u32 t.m, .int .u16 t.i, .int .u8 t.s, .int .i64 t.e, .int .u64 t.n] ∧ ∀ (W' : World) (base' : Nat) (sp' : Nat → Bool) (held' : Bool), DataW.Trod enc Tryd.prog W' base' sp' held' 56 v d p := by
  have h0 := h
  obtain ⟨fuel, hf⟩ := h
  obtain ⟨a, ha, wa⟩ := field_num Tryd.underlying56 hf 0 _ rfl (k := .u32) Tryd.underlying22 (by kernel_rfl)
  obtain ⟨a1, ha1, wa1⟩ := field_num Tryd.underlying56 hf 1 _ rfl (k := .u32) Tryd.underlying22 (by kernel_rfl)
  obtain ⟨a2, ha2, wa2⟩ := field_num Tryd.underlying56 hf 2 _ rfl (k := .u16) Tryd.underlying54 (by kernel_rfl)
  obtain ⟨a3, ha3, wa3⟩ := field_num Tryd.underlying56 hf 3 _ rfl (k := .u8) Tryd.underlying5 (by kernel_rfl)
  obtain ⟨b, hb, wb⟩ := field_num Tryd.underlying56 hf 4 _ rfl (k := .i64) Tryd.underlying2 (by kernel_rfl)
  obtain ⟨c, hc, wc⟩ := field_num Tryd.underlying56 hf 5 _ rfl (k := .u64) Tryd.underlying40 (by kernel_rfl)
  obtain ⟨_, _, _, _, hlen, _, _⟩ := DataW.trod_struct Tryd.underlying56 hf
  have hl3 : v.cells.toList.length = 6 := hlen.trans (by kernel_rfl)
  have hcs : v.cells.toList = [.int .u32 a, .int .u32 a1, .int .u16 a2, .int .u8 a3, .int .i64 b, .int .u64 c] := by
    generalize v.cells.toList = l at ha ha1 ha2 ha3 hb hc hl3
    match l, hl3 with
    | [x, x1, x2, x3, y, z], _ =>
      have e1 : x = .int .u32 a := Option.some.inj ha
      have f1 : x1 = .int .u32 a1 := Option.some.inj ha1
      have f2 : x2 = .int .u16 a2 := Option.some.inj ha2
      have f3 : x3 = .int .u8 a3 := Option.some.inj ha3
      have e2 : y = .int .i64 b := Option.some.inj hb
      have e3 : z = .int .u64 c := Option.some.inj hc
      rw [e1, f1, f2, f3, e2, e3]
  have ra := wf_u32 wa
  have ra1 := wf_u32 wa1
  have ra2 := wf_u16' wa2
  have ra3 := byte_wf wa3
  have rb := wf_i64 wb
  have rc := wf_u64 wc
  refine ⟨⟨a.toNat, a1.toNat, a2.toNat, a3.toNat, b, c.toNat⟩, ⟨by show a.toNat < _; omega, by show a1.toNat < _; omega, by show a2.toNat < _; omega, by show a3.toNat < _; omega, rb, by show c.toNat < _; omega⟩, ?_, fun W' base' sp' held' => str_same Tryd.underlying56 (fun f hf => ?_) h0 W' base' sp' held'⟩
  · rw [agg_of_cells hcs (by simp)]
    simp only [Int.toNat_of_nonneg ra.1, Int.toNat_of_nonneg ra1.1, Int.toNat_of_nonneg ra2.1, Int.toNat_of_nonneg ra3.1, Int.toNat_of_nonneg rc.1]
  · simp only [List.mem_cons, List.not_mem_nil, or_false] at hf
    rcases hf with rfl | rfl | rfl | rfl | rfl | rfl
    · exact ⟨_, Tryd.underlying22⟩
    · exact ⟨_, Tryd.underlying22⟩
    · exact ⟨_, Tryd.underlying54⟩
    · exact ⟨_, Tryd.underlying5⟩
    · exact ⟨_, Tryd.underlying2⟩
    · exact ⟨_, Tryd.underlying40⟩
end
end Go.Proofs.YtpigkgnmegpddaaDoor.Sh
