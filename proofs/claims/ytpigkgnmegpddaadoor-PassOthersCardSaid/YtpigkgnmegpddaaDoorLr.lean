/-
What the rows' lists give: the two tables lie where the program keeps them; opening and closing of arguments.
-/
import Derived.Test.YtpigkgnmegpddaaDoorRows
import Derived.Test.YtpigkgnmegpddaaDoorSg
import Derived.ProofKit
import Derived.OpenShut
import Derived.ShutString
import Derived.Deep.Matrix
import Derived.Deep.DeepHandedRow
import Derived.Lib.LaidTab
import Derived.SizedLaws
import Derived.Stop.LaidErr
import Derived.LaidMore
import Derived.Below
namespace Go.Proofs.YtpigkgnmegpddaaDoor.Sh
set_option linter.unusedVariables false
set_option linter.unusedSimpArgs false
open Go.ChangeShapes Go.WideShapes Go.ChangeAt Go.RowKit Go.Deep Go.Proofs.YtpigkgnmegpddaaDoorW.PrintWords Go.Proofs.YtpigkgnmegpddaaDoorW.PrintLast Go.Proofs.YtpigkgnmegpddaaDoorW.PrintMore

theorem own : ownKnob Tryd.prog.godebug = none := by kernel_rfl
theorem laidOut : laidOutB Tryd.prog = true := by kernel_rfl
theorem gFirst : Tryd.prog.globalNamed "tiltyard/sha.first" = some 1 := by kernel_rfl
theorem gRounds : Tryd.prog.globalNamed "tiltyard/sha.rounds" = some 0 := by kernel_rfl
theorem tFirst : (Tryd.prog.globals[1]?).map (·.type) = some 23 := by kernel_rfl
theorem tRounds : (Tryd.prog.globals[0]?).map (·.type) = some 85 := by kernel_rfl
theorem cells23 : Tryd.prog.cellsOf 23 = 8 := by kernel_rfl
theorem cells85 : Tryd.prog.cellsOf 85 = 64 := by kernel_rfl
theorem cells22 : Tryd.prog.cellsOf 22 = 1 := by kernel_rfl
def laid2 : List (String × DataW Unit) := [("tiltyard/sha.first", Rows.laid_tiltyard_sha_first), ("tiltyard/sha.rounds", Rows.laid_tiltyard_sha_rounds)]
def firstZ : List Int := first.list.map num
def roundsZ : List Int := (List.range 64).map fun i => num (Kw i)
theorem firstD : (Rows.laid_tiltyard_sha_first : DataW Unit) = Lib.tabData .u32 firstZ := by kernel_rfl
theorem roundsD : (Rows.laid_tiltyard_sha_rounds : DataW Unit) = Lib.tabData .u32 roundsZ := by kernel_rfl
theorem var_block {W : World} {name : String} {g : Nat} {cs : Array Value} (hg : Tryd.prog.globalNamed name = some g) (h : W.var? Tryd.prog name = some cs) : ∃ t fr, W.heap[g]? = some (.cells cs t fr) := by
  simp only [World.var?, hg, Option.bind_some] at h
  split at h
  · rename_i c t fr he
    injection h with h
    subst h
    exact ⟨t, fr, he⟩
  · cases h
set_option maxRecDepth 100000 in
theorem tab_of_laid {W : World} (h : laidMetH Tryd.prog laid2 W) : Tab W := by
  have h' : laidMet Tryd.prog [("tiltyard/sha.first", Lib.tabData .u32 firstZ), ("tiltyard/sha.rounds", Lib.tabData .u32 roundsZ)] W := by
    rw [← firstD, ← roundsD]
    exact h
  have hf := Lib.tabIs_of_head gFirst tFirst Tryd.underlying23 Tryd.underlying22 cells22 cells23 h'
  have hr := Lib.tabIs_of_head gRounds tRounds Tryd.underlying85 Tryd.underlying22 cells22 cells85 (laidMet.tail h')
  obtain ⟨t1, fr1, e1⟩ := var_block gFirst hf
  have hsz := (Array.getElem?_eq_some_iff.1 e1).1
  have ha : (firstZ.map fun z => Value.int .u32 z).toArray = v32 first.list := rfl
  rw [ha] at e1
  refine ⟨⟨fun i hi => ?_, fun i hi => ?_, by omega⟩, t1, fr1, e1⟩
  · rw [hr.cell gRounds i (by simpa [roundsZ] using hi)]
    simp [roundsZ, List.getD_eq_getElem?_getD, hi]
  · rw [hf.cell gFirst i (by simpa [firstZ, S8.list] using hi)]
    simp only [firstZ, List.getD_eq_getElem?_getD, List.getElem?_map]
    have hl : i < first.list.length := hi
    rw [List.getElem?_eq_getElem hl]
    rfl
theorem byte_wf {x : Int} (h : (Lit.int .u8 x).wf = true) : 0 ≤ x ∧ x ≤ 255 := by
  simp [Lit.wf, IntKind.min, IntKind.max, IntKind.signed, IntKind.bits] at h
  omega
theorem wf_u8 {x : Int} (h : (Lit.int .u8 x).wf = true) : 0 ≤ x ∧ x ≤ 255 := byte_wf h
theorem wf_u16 {x : Int} (h : (Lit.int .u16 x).wf = true) : 0 ≤ x ∧ x ≤ 65535 := by
  simp [Lit.wf, IntKind.min, IntKind.max, IntKind.signed, IntKind.bits] at h
  omega
theorem C_of_ints2 {W : World} {a : Addr} {len : Nat} {zs : List Int} (hl : len ≤ zs.length) (hm : len ≤ 9223372036854775807) (hc : ∀ i, i < zs.length → W.cell? (a.add i) = some (.int .u8 (zs.getD i 0))) : (Kd.int .u8).C W (some a) len (zs.take len) := by
  refine ⟨by rw [List.length_take]; omega, hm, fun _ => ⟨a, rfl, fun j p hj => ⟨[.int .u8 p], rfl, rfl, fun i u hu => ?_⟩⟩⟩
  match i, hu with
  | 0, hu =>
    simp only [List.getElem?_cons_zero, Option.some.injEq] at hu
    subst hu
    have hjl : j < zs.length := by
      rcases Nat.lt_or_ge j (zs.take len).length with h | h
      · rw [List.length_take] at h; omega
      · rw [List.getElem?_eq_none h] at hj; cases hj
    have hp : zs.getD j 0 = p := by
      rw [List.getElem?_take] at hj
      split at hj
      · rw [List.getD_eq_getElem?_getD, hj]; rfl
      · cases hj
    have := hc j hjl
    rw [hp] at this
    simpa [Kd.int, Kd.scalar] using this
theorem C_none {α : Type} (d : Kd α) (W : World) : d.C W none 0 [] := ⟨rfl, by omega, fun h => absurd h (by omega)⟩
section
variable {H : Type} {enc : TypeId × Value → H} {P : Program} {W : World} {base : Nat} {held : Bool}
/-- A []byte that came in. -/
theorem bytes_open {t q : TypeId} {a : Option Addr} {len cap : Nat} {d : DataW H} {p : List MemPlace} (ht : P.underlying t = some (.slice q)) (hq : P.underlying q = some (.int .u8)) (cq : P.cellsOf q = 1)
    (h : DataW.Trod enc P W base (fun _ => true) held t (.slice a len cap) d p) : ∃ xs, (Kd.int .u8).C W a len xs ∧ len ≤ cap ∧ Byt xs := by
  obtain ⟨fuel, hf⟩ := h
  rcases open_ints ht hq cq hf with ⟨hcs, _⟩ | ⟨x, l, c, zs, hcs, _, hl, hm, hz, _, hcell, hwz⟩
  · simp [Value.cells] at hcs
    obtain ⟨rfl, rfl, rfl⟩ := hcs
    exact ⟨[], C_none _ _, by omega, fun x hx => by cases hx⟩
  · simp [Value.cells] at hcs
    obtain ⟨rfl, rfl, rfl⟩ := hcs
    simp only [if_true] at hz
    refine ⟨zs.take len, C_of_ints2 (by omega) (by unfold maxLen at hm; omega) hcell, hl, fun x hx => byte_wf (hwz x (List.mem_of_mem_take hx))⟩
/-- A [][]byte that came in. -/
theorem rows_open {t e q : TypeId} {a : Option Addr} {len cap : Nat} {d : DataW H} {p : List MemPlace} (ht : P.underlying t = some (.slice e)) (he : P.underlying e = some (.slice q)) (hq : P.underlying q = some (.int .u8)) (ce : P.cellsOf e = 1) (cq : P.cellsOf q = 1)
    (h : DataW.Trod enc P W base (fun _ => true) held t (.slice a len cap) d p) : ∃ ls, (Kd.slice q (Kd.int .u8)).C W a len ls ∧ len ≤ cap ∧ ∀ l ∈ ls, Byt l := by
  obtain ⟨fuel, hf⟩ := h
  rcases open_int_rows ht he hq ce cq hf with ⟨hcs, _⟩ | ⟨x, l, c, A, L, C, Z, hcs, _, hl, hm, _, hr⟩
  · simp [Value.cells] at hcs
    obtain ⟨rfl, rfl, rfl⟩ := hcs
    exact ⟨[], C_none _ _, by omega, fun l hl => by cases hl⟩
  · simp [Value.cells] at hcs
    obtain ⟨rfl, rfl, rfl⟩ := hcs
    refine ⟨(List.range len).map fun r => (Z r).take (L r), ⟨by simp, by unfold maxLen at hm; omega, fun _ => ⟨x, rfl, fun j p hj => ?_⟩⟩, hl, ?_⟩
    · have hjl : j < len := by
        rcases Nat.lt_or_ge j len with h | h
        · exact h
        · rw [List.getElem?_eq_none (by simpa using h)] at hj; cases hj
      obtain ⟨h1, h2, h3, h4, h5, h6, h7⟩ := hr j (by omega)
      have hp : (Z j).take (L j) = p := by
        simp only [List.getElem?_map, List.getElem?_range hjl, Option.map_some, Option.some.injEq] at hj
        exact hj
      have hpl : p.length = L j := by rw [← hp, List.length_take]; omega
      refine ⟨[.slice (A j) (L j) (C j)], rfl, ⟨A j, C j, by rw [hpl], by omega, ?_⟩, fun i u hu => ?_⟩
      · rw [hpl, ← hp]
        cases hA : A j with
        | none =>
          have : C j = 0 := h6 hA
          have h0 : L j = 0 := by omega
          rw [h0, List.take_zero]
          exact C_none _ _
        | some a' =>
          exact C_of_ints2 (by omega) (by unfold maxLen at h3; omega) (fun i hi => (h7 a' hA).2 i (by omega))
      · match i, hu with
        | 0, hu =>
          simp only [List.getElem?_cons_zero, Option.some.injEq] at hu
          subst hu
          simpa [Kd.slice] using h1
    · intro l hl x hx
      simp only [List.mem_map, List.mem_range] at hl
      obtain ⟨r, hr2, rfl⟩ := hl
      exact byte_wf ((hr r (by omega)).2.2.2.2.1 x (List.mem_of_mem_take hx))
end

def Kv1 : Array Value := #[.int .u32 1116352408, .int .u32 1899447441, .int .u32 3049323471, .int .u32 3921009573, .int .u32 961987163, .int .u32 1508970993, .int .u32 2453635748, .int .u32 2870763221, .int .u32 3624381080, .int .u32 310598401, .int .u32 607225278, .int .u32 1426881987, .int .u32 1925078388, .int .u32 2162078206, .int .u32 2614888103, .int .u32 3248222580, .int .u32 3835390401, .int .u32 4022224774, .int .u32 264347078, .int .u32 604807628, .int .u32 770255983, .int .u32 1249150122, .int .u32 1555081692, .int .u32 1996064986, .int .u32 2554220882, .int .u32 2821834349, .int .u32 2952996808, .int .u32 3210313671, .int .u32 3336571891, .int .u32 3584528711, .int .u32 113926993, .int .u32 338241895, .int .u32 666307205, .int .u32 773529912, .int .u32 1294757372, .int .u32 1396182291, .int .u32 1695183700, .int .u32 1986661051, .int .u32 2177026350, .int .u32 2456956037, .int .u32 2730485921, .int .u32 2820302411, .int .u32 3259730800, .int .u32 3345764771, .int .u32 3516065817, .int .u32 3600352804, .int .u32 4094571909, .int .u32 275423344, .int .u32 430227734, .int .u32 506948616, .int .u32 659060556, .int .u32 883997877, .int .u32 958139571, .int .u32 1322822218, .int .u32 1537002063, .int .u32 1747873779, .int .u32 1955562222, .int .u32 2024104815, .int .u32 2227730452, .int .u32 2361852424, .int .u32 2428436474, .int .u32 2756734187, .int .u32 3204031479, .int .u32 3329325298]
def Fv1 : Array Value := #[.int .u32 1779033703, .int .u32 3144134277, .int .u32 1013904242, .int .u32 2773480762, .int .u32 1359893119, .int .u32 2600822924, .int .u32 528734635, .int .u32 1541459225]
/-- A world for the witness: the settled one, the two tables holding what their initialisers lay. -/
def putRow (cs : Array Value) : Obj → Obj
  | .cells _ t frozen => .cells cs t frozen
  | o => o
noncomputable def laidWorld (os : Os) : World :=
  { World.holding Tryd.prog os ⟨#[], #[], []⟩ with heap := ((World.holding Tryd.prog os ⟨#[], #[], []⟩).heap.modify 0 (putRow Kv1)).modify 1 (putRow Fv1) }
theorem laid_met (os : Os) (args : Array Value) : laidMetH Tryd.prog laid2 ((laidWorld os).forCall (fun _ _ => 0) ⟨#[], args, []⟩).memory :=
  laidMet_of_run' (P := Tryd.prog) (l := laid2) 8 (by kernel_rfl) (by kernel_rfl)
theorem laid_shaped (os : Os) (args : Array Value) : ((laidWorld os).forCall (fun _ _ => 0) ⟨#[], args, []⟩).Shaped Tryd.prog :=
  World.shaped_of_B (by kernel_rfl) (by kernel_rfl)
end Go.Proofs.YtpigkgnmegpddaaDoor.Sh
