/-
Words for Sum: a byte, or a row of bytes, appended; parts in a block; a row of cells loaded and stored in the midst.
-/
import Derived.Test.YtpigkgnmegpddaaDoorSg
namespace Go.Proofs.YtpigkgnmegpddaaDoor.Sh
set_option linter.unusedVariables false
set_option linter.unusedSimpArgs false
open Go.RowKit Go.Proofs.YtpigkgnmegpddaaDoorW.PrintWords Go.Proofs.YtpigkgnmegpddaaDoorW.PrintLast Go.Proofs.YtpigkgnmegpddaaDoorW.PrintMore

/-- A row of bytes of the call's own. -/
abbrev Own (W : World) (base : Nat) (v : Value) (xs : List Int) : Prop := (Kd.int .u8).R 5 W base (fun _ => True) v xs
theorem info5z : (Tryd.prog.info? 5).map (fun i => (i.zero, i.size, i.bytes)) = some (some (.int .u8 0), 1, 1) := by kernel_rfl
section
variable {ops : Array Oper} {rest : List Oper} {o : Oper} {a : Act} {Q : Exit → Act → World → Prop}
theorem append_one {w0 W : World} (hgd : o.guard = none) (s x : Operand) (ho : o.op = .call { callee := .builtin .append, args := #[s, x], argTypes := #[27, 27] })
    (base : Nat) (v : Value) (xs : List Int) (y : Int) (hs : a.eval s = v) (hx : a.eval x = .slice (some ⟨W.heap.size, 0, none⟩) 1 1) (HO : Own W base v xs) (HB : Below base w0 W) (hbase : base ≤ W.heap.size) (hl : xs.length + 1 ≤ 140737488355328)
    (h : ∀ v1 w1, Own w1 base v1 (xs ++ [y]) → Below base w0 w1 → wpList Tryd.prog ops Q rest (a.put o.dst v1) w1) :
    wpList Tryd.prog ops Q (o :: rest) a (W.alloc (.cells #[.int .u8 y] 5)) :=
  Kd.R_append (Kd.int .u8) (w0 := w0) base hgd s x 27 5 (.int .u8 0) 1 ho Tryd.underlying27 info5z rfl (by decide) (by decide) v xs y [.int .u8 y] (fun _ => True) (fun _ => False) hs hx rfl (fun _ hk => hk.elim) (fun _ _ => trivial) HO HB hbase (by omega)
    (fun v1 w1 h1 h2 _ _ => h v1 w1 h1 h2)
theorem append_row {w0 W : World} (hgd : o.guard = none) (s x : Operand) (ho : o.op = .call { callee := .builtin .append, args := #[s, x], argTypes := #[27, 27] })
    (base : Nat) (v : Value) (xs ys : List Int) (A : Option Addr) (m c : Nat) (hs : a.eval s = v) (hx : a.eval x = .slice A m c) (HO : Own W base v xs) (HR : (Kd.int .u8).C W A m ys) (HB : Below base w0 W) (hbase : base ≤ W.heap.size) (hl : xs.length + m ≤ 140737488355328)
    (h : ∀ v1 w1, Own w1 base v1 (xs ++ ys) → Below base w0 w1 → wpList Tryd.prog ops Q rest (a.put o.dst v1) w1) :
    wpList Tryd.prog ops Q (o :: rest) a W :=
  Kd.R_append_row (Value.int .u8) (0 : Int) (w0 := w0) base hgd s x 27 5 (.int .u8 0) 1 ho Tryd.underlying27 info5z rfl (by decide) v xs ys A m c (fun _ => True) hs hx (fun _ _ => trivial) HO HR HB hbase (by omega)
    (fun v1 w1 h1 h2 _ _ => h v1 w1 h1 h2)
/-- '[]byte{}'. -/
theorem lit_none {w0 W : World} (base : Nat) (hgd : o.guard = none) {N : Tmp} (hd : o.dst = some N)
    (hrun : (execOp a.eval o).run Tryd.prog W = .ok (.value (.slice (some ⟨W.heap.size, 0, none⟩) 0 0)) (W.alloc (.cells #[] 5)))
    (HB : Below base w0 W) (hb : base ≤ W.heap.size)
    (h : ∀ v1 w1, Own w1 base v1 [] → Below base w0 w1 → wpList Tryd.prog ops Q rest (a.put o.dst v1) w1) : wpList Tryd.prog ops Q (o :: rest) a W :=
  Kd.R_lit (Kd.int .u8) (w0 := w0) base 5 hgd hd (xs := ([] : List Int)) (inner := []) (ok := fun _ => True) (okp := fun _ => False) hrun (Reps.none _ _) (fun _ hk => hk.elim) trivial HB hb (by simp)
    (fun v1 w1 h1 h2 _ _ => h v1 w1 h1 h2)
/-- A row of cells out of the midst of a block. -/
theorem load_mid (hgd : o.guard = none) {N : Tmp} (_hd : o.dst = some N) {W : World} (ty : TypeId) (x : Operand) (ho : o.op = .load ty x) (b off : Nat) (hx : a.eval x = .pointer (some ⟨b, off, none⟩)) (cs : Array Value) (d : TypeDesc)
    (hc : W.rangeAt b off cs.toList) (hu : Tryd.prog.underlying ty = some d) (hd : d.isRow = true) (hi : (Tryd.prog.info? ty).map (·.size) = some cs.size)
    (h : wpList Tryd.prog ops Q rest (a.put o.dst (.agg cs)) W) : wpList Tryd.prog ops Q (o :: rest) a W :=
  wpList_load_mid hgd ty x ho b off hx cs.toList d hc hu hd (by rw [Array.length_toList]; exact hi) (by rw [Array.toArray_toList]; exact h)
end
/-- Bytes that can be read as long as no block of S is written. -/
def Rd (S : Nat → Prop) (w : World) (A : Option Addr) (n : Nat) (xs : List Int) : Prop := ∀ W', Kept w W' S → (Kd.int .u8).C W' A n xs
theorem Rd.now {S : Nat → Prop} {w : World} {A : Option Addr} {n : Nat} {xs : List Int} (h : Rd S w A n xs) : (Kd.int .u8).C w A n xs := h w (Kept.refl _ _)
theorem Rd.own {S : Nat → Prop} {w : World} {A : Option Addr} {n c base : Nat} {xs : List Int} (h : Own w base (.slice A n c) xs) (hS : ∀ k, (Value.slice A n c).ownBlock = some k → ¬ S k) : Rd S w A n xs :=
  Kd.C_kept_own (Kd.R_tight rfl h) (fun k hk => hS k hk.symm)
theorem Rd.mono {S S' : Nat → Prop} {w : World} {A : Option Addr} {n : Nat} {xs : List Int} (h : Rd S w A n xs) (hS : ∀ k, S' k → S k) : Rd S' w A n xs := fun W' hk => h W' (hk.mono hS)
/-- .. and later on: what has been written since is none of it. -/
theorem Rd.later {S S' T : Nat → Prop} {w w1 : World} {A : Option Addr} {n : Nat} {xs : List Int} (h : Rd S w A n xs) (hk : Kept w w1 T) (hT : ∀ k, T k → S k) (hS : ∀ k, S' k → S k ∨ w.heap.size ≤ k) : Rd S' w1 A n xs :=
  fun W' hk' => h W' ((hk.mono hT).then_ hk' hS)
/-- A block's bytes. -/
theorem Rd.block {S : Nat → Prop} {w : World} {g t o n : Nat} {fr : Nat × Nat} {cs : Array Value} {xs : List Int} (hb : w.heap[g]? = some (.cells cs t fr)) (hg : ¬ S g) (hn : xs.length = n) (hm : n ≤ 9223372036854775807) (hc : ∀ j, j < n → cs[o + j]? = some (.int .u8 (xs.getD j 0))) : Rd S w (some ⟨g, o, none⟩) n xs := fun W' hk => by
  have hb' := blk_kept hb hk hg
  refine ⟨hn, hm, fun _ => ⟨_, rfl, fun j p hj => ⟨[.int .u8 p], rfl, rfl, fun i u hu => ?_⟩⟩⟩
  match i, hu with
  | 0, hu =>
    simp only [List.getElem?_cons_zero, Option.some.injEq] at hu
    subst hu
    have hjl : j < n := by have := (List.getElem?_eq_some_iff.1 hj).1; omega
    rw [show (Kd.int .u8).sz = 1 from rfl, Nat.mul_one, Nat.add_zero, Addr.add_mid, cell_of_row W' g _ cs t fr hb', hc j hjl]
    rw [List.getD_eq_getElem?_getD, hj]
    rfl
/-- Parts that a block holds. -/
theorem parts_C {W : World} {b t : Nat} {fr : Nat × Nat} {vs : List Value} {ps : List (List Int)} (hb : W.heap[b]? = some (.cells vs.toArray t fr)) (hm : ps.length ≤ 9223372036854775807)
    (h : ∀ (i : Nat) (p : List Int), ps[i]? = some p → ∃ (A : Option Addr) (c : Nat), vs[i]? = some (Value.slice A p.length c) ∧ p.length ≤ c ∧ (Kd.int .u8).C W A p.length p) : (Kd.slice 27 (Kd.int .u8)).C W (some ⟨b, 0, none⟩) ps.length ps := by
  refine ⟨rfl, hm, fun _ => ⟨_, rfl, fun j p hj => ?_⟩⟩
  obtain ⟨A, c, hv, hle, hC⟩ := h j p hj
  refine ⟨[.slice A p.length c], rfl, ⟨A, c, rfl, hle, hC⟩, fun i u hu => ?_⟩
  match i, hu with
  | 0, hu =>
    simp only [List.getElem?_cons_zero, Option.some.injEq] at hu
    subst hu
    rw [show (Kd.slice 27 (Kd.int .u8)).sz = 1 from rfl, Nat.mul_one, Nat.add_zero, add_plain, cell_of_row W b _ _ t fr hb]
    simpa using hv
/-- One part. -/
theorem parts_one {S : Nat → Prop} {w : World} {b t n c : Nat} {fr : Nat × Nat} {A : Option Addr} {xs : List Int} (hb : w.heap[b]? = some (.cells #[.slice A n c] t fr)) (hg : ¬ S b) (h : Rd S w A n xs) (hc : n ≤ c) :
    ∀ W', Kept w W' S → (Kd.slice 27 (Kd.int .u8)).C W' (some ⟨b, 0, none⟩) 1 [xs] := fun W' hk => by
  have hn := h.now.1
  refine parts_C (vs := [.slice A n c]) (ps := [xs]) (blk_kept hb hk hg) (by simp) (fun i p hi => ?_)
  match i, hi with
  | 0, hi =>
    simp only [List.getElem?_cons_zero, Option.some.injEq] at hi
    subst hi
    exact ⟨A, c, by rw [hn]; rfl, by omega, by rw [hn]; exact h W' hk⟩
/-- Two. -/
theorem parts_two {S : Nat → Prop} {w : World} {b t n c n2 c2 : Nat} {fr : Nat × Nat} {A A2 : Option Addr} {xs ys : List Int} (hb : w.heap[b]? = some (.cells #[.slice A n c, .slice A2 n2 c2] t fr)) (hg : ¬ S b) (h : Rd S w A n xs) (hc : n ≤ c) (h2 : Rd S w A2 n2 ys) (hc2 : n2 ≤ c2) :
    ∀ W', Kept w W' S → (Kd.slice 27 (Kd.int .u8)).C W' (some ⟨b, 0, none⟩) 2 [xs, ys] := fun W' hk => by
  have hn := h.now.1
  have hn2 := h2.now.1
  refine parts_C (vs := [.slice A n c, .slice A2 n2 c2]) (ps := [xs, ys]) (blk_kept hb hk hg) (by simp) (fun i p hi => ?_)
  match i, hi with
  | 0, hi =>
    simp only [List.getElem?_cons_zero, Option.some.injEq] at hi
    subst hi
    exact ⟨A, c, by rw [hn]; rfl, by omega, by rw [hn]; exact h W' hk⟩
  | 1, hi =>
    simp only [List.getElem?_cons_succ, List.getElem?_cons_zero, Option.some.injEq] at hi
    subst hi
    exact ⟨A2, c2, by rw [hn2]; rfl, by omega, by rw [hn2]; exact h2 W' hk⟩
end Go.Proofs.YtpigkgnmegpddaaDoor.Sh
