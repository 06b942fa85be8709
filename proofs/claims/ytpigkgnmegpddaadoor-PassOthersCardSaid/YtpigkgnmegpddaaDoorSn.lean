/-
'==' of arrays of numbers.
-/
import Derived.Test.YtpigkgnmegpddaaDoorSc
import Derived.ChangeKeysEq
namespace Go.Proofs.YtpigkgnmegpddaaDoor.Sh
set_option linter.unusedVariables false
set_option linter.unusedSimpArgs false
open Go.RowKit Go.Proofs.YtpigkgnmegpddaaDoorW.PrintWords Go.Proofs.YtpigkgnmegpddaaDoorW.PrintLast Go.Proofs.YtpigkgnmegpddaaDoorW.PrintMore

def vals (k : IntKind) (l : List Int) : Array Value := (l.map (Value.int k)).toArray
theorem vals_get {k : IntKind} {l : List Int} {i : Nat} (h : i < l.length) : (vals k l)[i]? = some (.int k (l.getD i 0)) := by
  simp [vals, List.getD_eq_getElem?_getD, List.getElem?_eq_getElem h, h]
theorem eq_items {P : Program} (d : Nat) (e : TypeId) (k : IntKind) (he : P.underlying e = some (.int k)) (hp : P.plainKey e = true) (xs ys : List Int) (w : World) : ∀ is : List Nat, (∀ i ∈ is, i < xs.length ∧ i < ys.length) →
    (Op.eqItems (d + 1) e 1 (vals k xs) (vals k ys) is).run P w = .ok (decide (∀ i ∈ is, xs.getD i 0 = ys.getD i 0)) w
  | [], _ => by simp [Op.eqItems]
  | i :: is, h => by
    obtain ⟨h1, h2⟩ := h i (List.mem_cons_self ..)
    have ih := eq_items d e k he hp xs ys w is (fun j hj => h j (List.mem_cons_of_mem _ hj))
    have p1 := run_part_plain (P := P) (w := w) (off := i * 1) hp (by rw [Nat.mul_one]; exact vals_get (k := k) h1)
    have p2 := run_part_plain (P := P) (w := w) (off := i * 1) hp (by rw [Nat.mul_one]; exact vals_get (k := k) h2)
    simp only [Op.eqItems, Sem.run_bind, p1, p2, Result.andThen_ok, run_equalIn_int w d e k k _ _ he]
    by_cases hx : xs.getD i 0 = ys.getD i 0
    · rw [show (xs.getD i 0 == ys.getD i 0) = true from by simpa using hx]
      simp only [Bool.not_true, Bool.false_eq_true, if_false, Sem.run_pure, Result.andThen_ok, ih]
      congr 1
      refine decide_eq_decide.2 ⟨fun h j hj => ?_, fun h j hj => h j (List.mem_cons_of_mem _ hj)⟩
      rcases List.mem_cons.1 hj with rfl | hj
      · exact hx
      · exact h j hj
    · rw [show (xs.getD i 0 == ys.getD i 0) = false from by simpa using hx]
      have : decide (∀ j ∈ i :: is, xs.getD j 0 = ys.getD j 0) = false := by
        rw [decide_eq_false_iff_not]
        exact fun h => hx (h i (List.mem_cons_self ..))
      rw [this]
      simp [Sem.run_pure]
theorem list_eq_iff {xs ys : List Int} {n : Nat} (hx : xs.length = n) (hy : ys.length = n) : (∀ i ∈ List.range n, xs.getD i 0 = ys.getD i 0) ↔ xs = ys := by
  constructor
  · intro h
    apply List.ext_getElem (by omega)
    intro i h1 h2
    have := h i (List.mem_range.2 (by omega))
    rw [List.getD_eq_getElem?_getD, List.getD_eq_getElem?_getD, List.getElem?_eq_getElem h1, List.getElem?_eq_getElem h2] at this
    exact this
  · rintro rfl i _
    rfl
set_option maxRecDepth 100000 in
theorem eq_array (t e : TypeId) (k : IntKind) (n : Nat) {i : TypeInfo} (hu : Tryd.prog.underlying t = some (.array n e)) (he : Tryd.prog.underlying e = some (.int k)) (hp : Tryd.prog.plainKey e = true) (hc : Tryd.prog.cellsOf e = 1) (hi : Tryd.prog.info? e = some i)
    (xs ys : List Int) (hx : xs.length = n) (hy : ys.length = n) (w : World) : (Op.equalIn 10000 t (.agg (vals k xs)) (.agg (vals k ys))).run Tryd.prog w = .ok (decide (xs = ys)) w := by
  rw [run_equalIn_array w 9999 _ _ hu hi, hc, eq_items 9998 e k he hp xs ys w _ (fun i hi => by have := List.mem_range.1 hi; omega)]
  congr 1
  exact decide_eq_decide.2 (list_eq_iff hx hy)
set_option maxRecDepth 100000 in
theorem eq30 (xs ys : List Int) (hx : xs.length = 32) (hy : ys.length = 32) (w : World) : (Op.equalIn 10000 30 (.agg (v8 xs)) (.agg (v8 ys))).run Tryd.prog w = .ok (decide (xs = ys)) w := by
  obtain ⟨i, hi, _⟩ := Option.map_eq_some_iff.1 (show (Tryd.prog.info? 5).map (·.size) = some 1 from by kernel_rfl)
  exact eq_array 30 5 .u8 32 Tryd.underlying30 Tryd.underlying5 (by kernel_rfl) (by kernel_rfl) hi xs ys hx hy w
set_option maxRecDepth 100000 in
theorem eq23 (xs ys : List Wd) (hx : xs.length = 8) (hy : ys.length = 8) (w : World) : (Op.equalIn 10000 23 (.agg (v32 xs)) (.agg (v32 ys))).run Tryd.prog w = .ok (decide (xs = ys)) w := by
  obtain ⟨i, hi, _⟩ := Option.map_eq_some_iff.1 (show (Tryd.prog.info? 22).map (·.size) = some 1 from by kernel_rfl)
  have h := eq_array 23 22 .u32 8 Tryd.underlying23 Tryd.underlying22 (by kernel_rfl) (by kernel_rfl) hi (xs.map num) (ys.map num) (by simpa using hx) (by simpa using hy) w
  have e : ∀ ws : List Wd, vals .u32 (ws.map num) = v32 ws := fun ws => by simp [vals, v32]
  rw [e, e] at h
  rw [h]
  congr 1
  refine decide_eq_decide.2 ⟨fun h => ?_, fun h => by rw [h]⟩
  exact List.map_inj_right (fun _ _ => num_inj) |>.1 h
theorem guard30 : Tryd.prog.eqGuardType Tryd.prog.depth 30 = false := by kernel_rfl
theorem guard23 : Tryd.prog.eqGuardType Tryd.prog.depth 23 = false := by kernel_rfl
end Go.Proofs.YtpigkgnmegpddaaDoor.Sh
