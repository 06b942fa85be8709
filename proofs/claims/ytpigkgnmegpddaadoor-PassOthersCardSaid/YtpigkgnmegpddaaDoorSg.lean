/-
The hash in memory: what New makes; words on memory that the walks of Write and Sum need.
-/
import Derived.Test.YtpigkgnmegpddaaDoorSd
import Derived.Test.YtpigkgnmegpddaaDoorSp
import Derived.Deep.MidRow
import Derived.WalkSpells
import Derived.WalkLawsBesides
namespace Go.Proofs.YtpigkgnmegpddaaDoor.Sh
set_option linter.unusedVariables false
set_option linter.unusedSimpArgs false
open Go.RowKit Go.Proofs.YtpigkgnmegpddaaDoorW.PrintWords Go.Proofs.YtpigkgnmegpddaaDoorW.PrintLast Go.Proofs.YtpigkgnmegpddaaDoorW.PrintMore

/-- A hash's cells. -/
def hc (s : S8) (v : Value) (m : Nat) : Array Value := #[.int .u32 (num s.a), .int .u32 (num s.b), .int .u32 (num s.c), .int .u32 (num s.d), .int .u32 (num s.e), .int .u32 (num s.f), .int .u32 (num s.g), .int .u32 (num s.h), v, .int .u64 m]
/-- A hash that lies in block g. -/
structure Hh (W : World) (base g : Nat) (v : Value) (h : Hv) : Prop where
  b : W.heap[g]? = some (.cells (hc h.s v h.m) 93 (0, 0))
  q : (Kd.int .u8).Q 5 W base (fun k => k ≠ g) v h.r
  le : base ≤ g
  byt : Byt h.r
/-- A hash's blocks. -/
def Fv (g : Nat) (v : Value) : Nat → Prop := fun k => k = g ∨ v.ownBlock = some k
/-- A row that lies where the other one lay, or in what was made since. -/
def Mv (w : World) (v v' : Value) : Prop := ∀ k, v'.ownBlock = some k → v.ownBlock = some k ∨ w.heap.size ≤ k
theorem Hh.lt {w : World} {base g : Nat} {v : Value} {h : Hv} (H : Hh w base g v h) : g < w.heap.size := blk_lt H.b
theorem Hh.lt_all {w : World} {base g : Nat} {v : Value} {h : Hv} (H : Hh w base g v h) (k : Nat) (hk : Fv g v k) : k < w.heap.size := by
  rcases hk with rfl | hk
  · exact H.lt
  · exact Kd.Q_lt H.q k hk
theorem Hh.base_all {w : World} {base g : Nat} {v : Value} {h : Hv} (H : Hh w base g v h) (k : Nat) (hk : Fv g v k) : base ≤ k := by
  rcases hk with rfl | hk
  · exact H.le
  · exact Kd.Q_base H.q k hk
theorem Hh.move {w w' : World} {base g : Nat} {v : Value} {h : Hv} (H : Hh w base g v h) (hm : ∀ k, Fv g v k → w'.heap[k]? = w.heap[k]?) : Hh w' base g v h :=
  ⟨(hm g (.inl rfl)).trans H.b, Kd.Q_mono (Kd.Q_move (Kd.Q_mono (Kd.Q_tight rfl H.q) (ok' := fun k => k ≠ g ∧ some k = v.ownBlock) (fun k hk => ⟨H.q.1 k hk.symm, hk⟩)) (fun k hk => hm k (.inr hk.2.symm))) (fun _ hk => hk.1), H.le, H.byt⟩
theorem Hh.kept {w w' : World} {base g : Nat} {v : Value} {h : Hv} {S : Nat → Prop} (H : Hh w base g v h) (hk : Kept w w' S) (hS : ∀ k, Fv g v k → ¬ S k) : Hh w' base g v h :=
  H.move fun k hf => hk.2 k (H.lt_all k hf) (hS k hf)
theorem Hh.below {w w' : World} {base g : Nat} {v : Value} {h : Hv} (H : Hh w base g v h) (hb : Below w.heap.size w w') : Hh w' base g v h :=
  H.move fun k hf => hb.block k (H.lt_all k hf)
theorem Hh.drewN {w : World} {base g : Nat} {v : Value} {h : Hv} (H : Hh w base g v h) (m : Nat) : Hh (w.drewN m) base g v h :=
  H.move fun k hf => rfl
theorem Hh.slice {w : World} {base g : Nat} {v : Value} {h : Hv} (H : Hh w base g v h) : ∃ A c, v = .slice A h.r.length c ∧ h.r.length ≤ c := Kd.Q_slice H.q

/-- The tables, the second one whole. -/
structure Tab (W : World) : Prop where
  t : Tabs W
  f : ∃ t fr, W.heap[1]? = some (.cells (v32 first.list) t fr)
theorem Tab.below {W W' : World} (h : Tab W) (hb : Below W.heap.size W W') : Tab W' := by
  obtain ⟨t, fr, hf⟩ := h.f
  have h2 := h.t.2.2
  exact ⟨h.t.below hb, t, fr, (hb.block 1 (by omega)).trans hf⟩
theorem Tabs.kept {W W' : World} {S : Nat → Prop} (h : Tabs W) (hk : Kept W W' S) (hS : ∀ k, S k → 2 ≤ k) : Tabs W' := by
  have h2 := h.2.2
  refine ⟨fun i hi => ?_, fun i hi => ?_, Nat.le_trans h2 hk.1⟩
  · rw [← h.1 i hi]
    simp only [World.cell?, hk.2 0 (by omega) (fun hs => by have := hS 0 hs; omega)]
  · rw [← h.2.1 i hi]
    simp only [World.cell?, hk.2 1 (by omega) (fun hs => by have := hS 1 hs; omega)]
theorem Tab.kept {W W' : World} {S : Nat → Prop} (h : Tab W) (hk : Kept W W' S) (hS : ∀ k, S k → 2 ≤ k) : Tab W' := by
  obtain ⟨t, fr, hf⟩ := h.f
  have h2 := h.t.2.2
  exact ⟨h.t.kept hk hS, t, fr, (hk.2 1 (by omega) (fun hs => by have := hS 1 hs; omega)).trans hf⟩


set_option maxRecDepth 100000 in
theorem new_any (w : World) (hT : Tab w) : Calls Tryd.prog 27 #[] w fun e w' => e = .returned (.pointer (some ⟨w.heap.size, 0, none⟩)) ∧ Hh w' w.heap.size w.heap.size (.slice none 0 0) Hv.new ∧ Below w.heap.size w w' := by
  obtain ⟨t, fr, hf⟩ := hT.f
  have Hf := Aside0.mk hf
  clear hf hT
  have hu23 := Tryd.underlying23
  go_enter Tryd.func27, Tryd.ntmps27
  go_wp2_with (first | ((with_reducible refine gate_dst (N := 1) rfl ?_); refine wpList_load_row rfl 23 (.global 1) rfl 1 rfl t (v32 first.list) fr _ Hf.out hu23 rfl (size23 rfl) ?_) | ((with_reducible refine gate_dst (N := 3) rfl ?_); refine box_event ?hg (N := 3) ?hd (cs := hc first (.slice none 0 0) 0) (t := 93) ?hr ?_; (case hd => rfl); (case hg => rfl); (case hr => first | (go_simp; done) | (go_simp; rfl)); intro g hg_ w1 hbox_ hb_; have H1 := Aside0.mk hbox_; have HB := Aside0.mk hb_; have Hg := Aside0.mk hg_;clear hg_ hbox_ hb_))
  go_ret
  rw [← Hg.out]
  exact ⟨rfl, ⟨H1.out, Kd.Q_nil _ _ _ _ _, Nat.le_refl _, Byt.nil⟩, by rw [Hg.out]; exact HB.out⟩

theorem reps_nums {R : Int → List Value → Prop} {xs : List Int} {inner : List Value} (hR : ∀ x cs, R x cs → cs = [Value.int .u8 x]) (hr : Reps R 1 xs inner) : inner = nums .u8 xs := by
  apply List.ext_getElem?
  intro j
  have hlen := hr.1
  rw [Nat.mul_one] at hlen
  rcases Nat.lt_or_ge j xs.length with hj | hj
  · have h2 := hR _ _ (hr.2 j _ (List.getElem?_eq_getElem hj))
    have hl : j < inner.length := by omega
    rw [Nat.mul_one, List.drop_eq_getElem_cons hl] at h2
    have h4 : inner[j] = Value.int .u8 xs[j] := by
      have h5 := congrArg List.head? h2
      rw [List.take_succ_cons] at h5
      exact Option.some.inj h5
    rw [List.getElem?_eq_getElem hl, h4]
    simp [nums, List.getElem?_eq_getElem hj]
  · rw [List.getElem?_eq_none (by omega), List.getElem?_eq_none (by rw [nums_length]; omega)]
/-- 'append(v, ys...)' of bytes onto a row of one's own that may begin inside its block. -/
theorem run_append_q (W : World) (base : Nat) (ty : TypeId) (v : Value) (xs ys : List Int) (A : Option Addr) (m c : Nat) (ok : Nat → Prop) (hfresh : ∀ k, W.heap.size ≤ k → ok k)
    (HO : (Kd.int .u8).Q 5 W base ok v xs) (HR : (Kd.int .u8).C W A m ys) (hbase : base ≤ W.heap.size) (hl : xs.length + m ≤ 140737488355328) :
    ∃ v1 w1, (Builtin.append_ #[27, 27] ty #[v, .slice A m c]).run Tryd.prog W = .ok v1 w1 ∧ (Kd.int .u8).Q 5 w1 base ok v1 (xs ++ ys) ∧ W.grownBy w1 v.ownBlock ∧ (v1.ownBlock = v.ownBlock ∨ ∃ b, v1.ownBlock = some b ∧ W.heap.size ≤ b) := by
  obtain ⟨i5, hi, hz⟩ : ∃ i, Tryd.prog.info? 5 = some i ∧ i.zero = some (.int .u8 0) ∧ i.size = 1 ∧ i.bytes = 1 := by
    obtain ⟨i, h1, h2⟩ := Option.map_eq_some_iff.1 (show (Tryd.prog.info? 5).map (fun i => (i.zero, i.size, i.bytes)) = some (some (.int .u8 0), 1, 1) from by kernel_rfl)
    simp only [Prod.mk.injEq] at h2
    exact ⟨i, h1, h2⟩
  obtain ⟨hz0, hz1, hz2⟩ := hz
  have hm : ys.length = m := HR.1
  rcases Nat.eq_zero_or_pos m with h0 | h0
  · subst h0
    obtain rfl : ys = [] := List.eq_nil_of_length_eq_zero hm
    obtain ⟨A0, c0, rfl, hl0⟩ := Kd.Q_slice HO
    refine ⟨_, W, ?_, by rw [List.append_nil]; exact HO, World.grownBy.refl W _, .inl rfl⟩
    have h0 : ∀ a : Addr, (loadCells a 0).run Tryd.prog W = .ok #[] W := fun a => run_loadCells_list W a [] (by simp)
    cases A0 <;> cases A <;> simp [h0, Builtin.append_, run_underlying Tryd.underlying27, sizeOf, typeInfo, hi, Builtin.lenOf, Builtin.firstCells, hl0, storeCells, hz1]
  · obtain ⟨ad, rfl⟩ := C_some HR h0
    obtain ⟨h1, inner, hown, hr⟩ := HO
    have hin : inner = nums .u8 xs := reps_nums (fun _ _ h => h) hr
    subst hin
    obtain ⟨v1, w1, hrun, hq, hg, hat⟩ := q_append (P := Tryd.prog) W base 27 ty 5 i5 (.int .u8 0) 1 1 Tryd.underlying27 hi hz0 hz1 hz2 rfl (by decide) v xs.length (nums .u8 xs) hown ad m c (nums .u8 ys) (by rw [nums_length, hm, Nat.mul_one]) (fun j u hu => by
      have hj : j < ys.length := by
        have := (List.getElem?_eq_some_iff.1 hu).1
        rwa [nums_length] at this
      have := C_cell HR rfl j (by omega)
      rw [this]
      rw [← hu]
      simp [nums, List.getD_eq_getElem?_getD, hj]) (fun u hu => by
      simp only [nums, List.mem_map] at hu
      obtain ⟨x, _, rfl⟩ := hu
      rfl) h0 (by simp only [maxLen]; omega) (by omega) hbase
    refine ⟨v1, w1, hrun, ⟨fun k hk => ?_, nums .u8 xs ++ nums .u8 ys, by rw [List.length_append, hm]; exact hq, ?_⟩, hg, hat⟩
    · rcases hat with hat | ⟨b, hb, hle⟩
      · exact h1 k (hat ▸ hk)
      · rw [hb] at hk
        injection hk with hk
        exact hfresh k (by omega)
    · rw [← nums_append]
      exact Kd.reps_scalar (xs ++ ys)
section
variable {ops : Array Oper} {rest : List Oper} {o : Oper} {a : Act} {Q : Exit → Act → World → Prop}
/-- The same, as an operation of the walk. -/
theorem append_q {W : World} (hgd : o.guard = none) (s x : Operand) (ho : o.op = .call { callee := .builtin .append, args := #[s, x], argTypes := #[27, 27] })
    (base : Nat) (v : Value) (xs ys : List Int) (A : Option Addr) (m c : Nat) (ok : Nat → Prop) (hs : a.eval s = v) (hx : a.eval x = .slice A m c) (hfresh : ∀ k, W.heap.size ≤ k → ok k)
    (HO : (Kd.int .u8).Q 5 W base ok v xs) (HR : (Kd.int .u8).C W A m ys) (hbase : base ≤ W.heap.size) (hl : xs.length + m ≤ 140737488355328)
    (h : ∀ v1 w1, (Kd.int .u8).Q 5 w1 base ok v1 (xs ++ ys) → W.grownBy w1 v.ownBlock → (v1.ownBlock = v.ownBlock ∨ ∃ b, v1.ownBlock = some b ∧ W.heap.size ≤ b) → wpList Tryd.prog ops Q rest (a.put o.dst v1) w1) :
    wpList Tryd.prog ops Q (o :: rest) a W := by
  obtain ⟨v1, w1, hr, h1, h2, h3⟩ := run_append_q W base o.type v xs ys A m c ok hfresh HO HR hbase hl
  refine wpList_plain hgd fun K hK => ?_
  unfold Oper.wp execOp
  simp only [ho, resolve, invoke, builtin, Sem.run_bind, Sem.run_pure, Result.andThen_ok, List.map_toArray, List.map_cons, List.map_nil, hs, hx, hr]
  exact hK _ _ (h v1 w1 h1 h2 h3)
end
section
variable {P : Program} {ops : Array Oper} {S : World → Prop} {o : Oper} {a : Act}
/-- A row of cells by value, in a region that draws its order. -/
theorem yields_row (hw : Region.wanted o (yielded ops a.tmps) = true) (ty : TypeId) (x : Operand) (ho : o.op = .load ty x) (b off : Nat) (hx : a.eval x = .pointer (some ⟨b, off, none⟩)) (cs : Array Value) (d : TypeDesc)
    (hS : ∀ w, S w → w.rangeAt b off cs.toList) (hu : P.underlying ty = some d) (hd : d.isRow = true) (hi : (P.info? ty).map (·.size) = some cs.size) : YieldsIf P ops S o (.agg cs) a := by
  have h := yieldsIf_load_mid (P := P) (S := S) hw ty x ho b off hx cs.toList d hS hu hd (by rw [Array.length_toList]; exact hi)
  rwa [Array.toArray_toList] at h
/-- One cell. -/
theorem yields_cell (hw : Region.wanted o (yielded ops a.tmps) = true) {v : Value} (hS : ∀ w, S w → (execOp a.eval o).run P w = .ok (.value v) w) : YieldsIf P ops S o v a := .inl ⟨hw, hS⟩
theorem run_store_row {w : World} (ty : TypeId) (x y : Operand) (ho : o.op = .store ty x y) (b off : Nat) (cells : Array Value) (hx : a.eval x = .pointer (some ⟨b, off, none⟩)) (hy : a.eval y = .agg cells)
    (ht : w.there b off cells.size) (hi : (P.info? ty).map (·.size) = some cells.size) (h1 : cells.all (·.oneCell') = true) : (execOp a.eval o).run P w = .ok .skip (w.setCells b off cells.toList) := by
  unfold execOp
  simp only [ho, hx, hy, Instr.storeAt, Instr.sureAddr, Sem.run_bind, Sem.run_pure, Result.andThen_ok, run_storeVar_mid w b off ty cells ht hi h1]
end
theorem run_s2a (W : World) (ad : Addr) (n c : Nat) (h : 64 ≤ n) : (Instr.arrayAt 24 (.slice (some ad) n c)).run Tryd.prog W = .ok (.pointer (some ad)) W := by
  have h2 : ¬ n < 64 := by omega
  unfold Instr.arrayAt
  simp [Sem.run_bind, run_underlying Tryd.underlying24, h2]
theorem yields_s2a {ops : Array Oper} {o : Oper} {a : Act} (hw : Region.wanted o (yielded ops a.tmps) = true) (x : Operand) (ho : o.op = .sliceToArrayPointer 24 x) (ad : Addr) (n c : Nat) (hx : a.eval x = .slice (some ad) n c) (hn : 64 ≤ n) :
    Yields Tryd.prog ops o (.pointer (some ad)) a := .inl ⟨hw, fun W => by
  unfold execOp
  simp only [ho, hx, run_s2a W ad n c hn, Sem.run_bind, Sem.run_pure, Result.andThen_ok]⟩
/-- Where a row of bytes lies. -/
theorem Q_form {W : World} {base n c : Nat} {ok : Nat → Prop} {A : Option Addr} {xs : List Int} (h : (Kd.int .u8).Q 5 W base ok (.slice A n c) xs) (hp : 0 < xs.length) : ∃ b off, A = some ⟨b, off, none⟩ ∧ ok b := by
  obtain ⟨h0, inner, ho, hr⟩ := h
  rcases ho.2 with ⟨hz, _⟩ | ⟨b, off, cap, cur, he, _⟩
  · omega
  · injection he with he _ _
    subst he
    exact ⟨b, _, rfl, h0 b rfl⟩
theorem range_bytes {W : World} {n : Nat} {b off : Nat} {xs : List Int} (h : (Kd.int .u8).C W (some ⟨b, off, none⟩) n xs) (k : Nat) (hk : k ≤ n) : W.rangeAt b off (v8 (xs.take k)).toList := fun j u hu => by
  have hl := h.1
  have hj : j < (xs.take k).length := by
    have := (List.getElem?_eq_some_iff.1 hu).1
    simpa [v8] using this
  have hj2 : j < k ∧ j < xs.length := by rw [List.length_take] at hj; omega
  have h1 := C_cell h rfl j (by omega)
  rw [Addr.add_mid] at h1
  rw [h1, ← hu, Array.getElem?_toList, v8_get hj]
  congr 2
  rw [List.getD_eq_getElem?_getD, List.getD_eq_getElem?_getD, List.getElem?_take, if_pos hj2.1]
theorem range_block {W : World} {g t : Nat} {cs : Array Value} {fr : Nat × Nat} (h : W.heap[g]? = some (.cells cs t fr)) (xs : List Value) (hx : ∃ r, cs.toList = xs ++ r) : W.rangeAt g 0 xs := fun j u hu => by
  obtain ⟨r, hr⟩ := hx
  have hj := (List.getElem?_eq_some_iff.1 hu).1
  rw [cell_of_row W g _ cs t fr h, Nat.zero_add, ← Array.getElem?_toList, hr, List.getElem?_append_left hj]
  exact hu
theorem there_block {W : World} {g t : Nat} {cs : Array Value} (h : W.heap[g]? = some (.cells cs t (0, 0))) (o n : Nat) (hn : o + n ≤ cs.size) : W.there g o n := fun j hj => by
  refine ⟨?_, blk_frozen h _⟩
  rw [cell_of_row W g _ cs t (0, 0) h, Array.getElem?_eq_getElem (by omega)]
  rfl
/-- One part of the parts. -/
theorem part_get {W : World} {A : Option Addr} {n : Nat} {ps : List (List Int)} (h : (Kd.slice 27 (Kd.int .u8)).C W A n ps) (k : Nat) (hk : k < n) :
    ∃ ad Ap cp, A = some ad ∧ W.cell? (ad.add k) = some (.slice Ap (ps.getD k []).length cp) ∧ (ps.getD k []).length ≤ cp ∧ (Kd.int .u8).C W Ap (ps.getD k []).length (ps.getD k []) := by
  obtain ⟨ad, cs, he, hcl, ⟨Ap, cp, rfl, hle, hC⟩, hc⟩ := Kd.C_get h [] (k : Int) (by omega) (by omega)
  refine ⟨ad, Ap, cp, he, ?_, hle, hC⟩
  have := hc 0 _ rfl
  simpa [Kd.slice] using this
end Go.Proofs.YtpigkgnmegpddaaDoor.Sh
