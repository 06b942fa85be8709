/-
great, New, and the reference's New, Send, Gone, Ask, Tick: contracts in one form, over the printed ones.
-/
import Derived.Test.YtgblihndkhiddaaOa
namespace Go.Proofs.Ytgblihndkhiddaa.POutboxRuns
open Go.RowKit Go.Proofs.YtgblihndkhiddaaW.PrintWords Go.Proofs.YtgblihndkhiddaaW.PrintLast Go.Proofs.YtgblihndkhiddaaW.PrintMore
theorem great_l1 (l0 : List S31) (j : Nat) (hj : j < l0.length) (hn : l0.length ≤ 60) (P : Bool → Prop) (hl : ((rd_T31 l0 (j : Int)).f2).length ≤ 8) (ht : P true)
    (h : ∃ k r, tiltyardlaw25_great.l0 k l0 ((j + 1 : Nat) : Int) = some r ∧ P r) : ∀ d x : Nat, x + d = ((rd_T31 l0 (j : Int)).f2).length → ∃ k r, tiltyardlaw25_great.l1 k l0 (j : Int) (x : Int) = some r ∧ P r := by
  intro d
  induction d with
  | zero =>
    intro x hx
    obtain ⟨k, r, hk, hp⟩ := h
    refine ⟨k + 1, r, ?_, hp⟩
    simp only [tiltyardlaw25_great.l1]
    rw [if_pos (by omega), if_pos (by omega), if_neg (by omega), Fr.w64 (by omega) (by omega)]
    exact hk
  | succ d ih =>
    intro x hx
    by_cases hg : ((rd_L2 ((rd_T31 l0 (j : Int)).f2) (x : Int)).length : Int) > 1100
    · refine ⟨1, true, ?_, ht⟩
      simp only [tiltyardlaw25_great.l1]
      rw [if_pos (by omega), if_pos (by omega), if_pos (by omega), if_pos (by omega), if_pos hg]
    · obtain ⟨k, r, hk, hp⟩ := ih (x + 1) (by omega)
      refine ⟨k + 1, r, ?_, hp⟩
      simp only [tiltyardlaw25_great.l1]
      rw [if_pos (by omega), if_pos (by omega), if_pos (by omega), if_pos (by omega), if_neg hg, Fr.w64 (by omega) (by omega)]
      exact hk
theorem great_l0 (l0 : List S31) (hn : l0.length ≤ 60) : ∀ d j : Nat, j + d = l0.length → ∃ k r, tiltyardlaw25_great.l0 k l0 (j : Int) = some r ∧ (r = false → ∀ i, j ≤ i → i < l0.length → ((rd_T31 l0 (i : Int)).f2).length ≤ 8) := by
  intro d
  induction d with
  | zero =>
    intro j hj
    refine ⟨1, false, ?_, fun _ i h1 h2 => by omega⟩
    simp only [tiltyardlaw25_great.l0]
    rw [if_neg (by omega)]
  | succ d ih =>
    intro j hj
    by_cases hg : (((rd_T31 l0 (j : Int)).f2).length : Int) > 8
    · refine ⟨1, true, ?_, fun h => by cases h⟩
      simp only [tiltyardlaw25_great.l0]
      rw [if_pos (by omega), if_pos (by omega), if_pos hg]
    · obtain ⟨k, r, hk, hp⟩ := great_l1 l0 j (by omega) hn (fun r => r = false → ∀ i, j ≤ i → i < l0.length → ((rd_T31 l0 (i : Int)).f2).length ≤ 8) (by omega) (fun h => by cases h) (by
        obtain ⟨k, r, hk, hp⟩ := ih (j + 1) (by omega)
        exact ⟨k, r, hk, fun hr i h1 h2 => by
          by_cases hij : i = j
          · subst hij; omega
          · exact hp hr i (by omega) h2⟩) (((rd_T31 l0 (j : Int)).f2).length) 0 (by omega)
      refine ⟨k + 1, r, ?_, hp⟩
      simp only [tiltyardlaw25_great.l0]
      rw [if_pos (by omega), if_pos (by omega), if_neg hg]
      exact hk
/-- great answers; where it says no, there is little. -/
theorem great_few (l0 : List S31) : ∃ k r, tiltyardlaw25_great.f k l0 = some r ∧ (r = false → l0.length ≤ 60 ∧ ∀ i, i < l0.length → ((rd_T31 l0 (i : Int)).f2).length ≤ 8) := by
  by_cases hg : (l0.length : Int) > 60
  · exact ⟨0, true, by unfold tiltyardlaw25_great.f; rw [if_pos hg], fun h => by cases h⟩
  · obtain ⟨k, r, hk, hp⟩ := great_l0 l0 (by omega) l0.length 0 (by omega)
    exact ⟨k, r, by unfold tiltyardlaw25_great.f; rw [if_neg hg]; exact hk, fun h => ⟨by omega, fun i hi => hp h i (by omega) hi⟩⟩
end Go.Proofs.Ytgblihndkhiddaa.POutboxRuns
namespace Go.Proofs.Ytgblihndkhiddaa.Ou
open Go.RowKit Go.Proofs.YtgblihndkhiddaaW.PrintWords Go.Proofs.YtgblihndkhiddaaW.PrintLast Go.Proofs.YtgblihndkhiddaaW.PrintMore Go.Proofs.Ytgblihndkhiddaa.POutboxRuns
theorem great_any {n c : Nat} {A : Option Addr} {l0 : List S31} (w : World) (HR : k31.C w A n l0) (hc : n ≤ c) :
    Calls Try.prog 12 #[.slice A n c] w fun e w' => ∃ r m, e = .returned (.bool r) ∧ w.drewN m = w' ∧ (r = false → n ≤ 60 ∧ ∀ i, i < n → ((rd_T31 l0 (i : Int)).f2).length ≤ 8) := by
  --[
  obtain rfl := HR.1
  obtain ⟨k, r, hk, hp⟩ := great_few l0
  refine (tiltyardlaw25_great.calls k A c l0 r w HR hc hk).mono ?_
  rintro e w' ⟨rfl, ⟨m, rfl⟩⟩
  exact ⟨r, m, rfl, rfl, hp⟩
  --]
theorem new_any (a0 a1 : Int) (w : World) : Calls Try.prog 13 #[.int .i64 a0, .int .i64 a1] w fun e w' => ∃ g, e = .returned (.pointer (some ⟨g, 0, none⟩)) ∧ Fl w' g 0 (mx a0 0) 0 (mx a1 0) ∧ w.heap.size ≤ g ∧ Below w.heap.size w w' := by
  --[
  refine (outbox_New.calls a0 a1 _ _ _ _ w w (Below.refl _ _) rfl).mono ?_
  rintro e w' ⟨g, rfl, h, hb, _⟩
  exact ⟨g, rfl, h.1, h.2, hb⟩
  --]

section
variable {P : Program} {ops : Array Oper} {rest : List Oper} {o : Oper} {a : Act} {Q : Exit → Act → World → Prop} {W : World}
/-- Cells written in line. -/
def sets (W : World) (g : Nat) : Nat → List Value → World
  | _, [] => W
  | i, x :: xs => sets (W.setCell ⟨g, i, none⟩ x) g (i + 1) xs
theorem sets_kept (g : Nat) : ∀ (xs : List Value) (W : World) (i : Nat), Kept W (sets W g i xs) (fun k => k = g) ∧ Below g W (sets W g i xs)
  | [], W, i => ⟨Kept.refl _ _, Below.refl _ _⟩
  | x :: xs, W, i => by
    have h1 : Kept W (W.setCell ⟨g, i, none⟩ x) (fun k => k = g) := Kept.setCell (S := fun k => k = g) (p := ⟨g, i, none⟩) (Kept.refl _ _) (.inl rfl) x
    have h2 : Below g W (W.setCell ⟨g, i, none⟩ x) := (Below.refl _ _).setCell (p := ⟨g, i, none⟩) (Nat.le_refl _) x
    obtain ⟨h3, h4⟩ := sets_kept g xs (W.setCell ⟨g, i, none⟩ x) (i + 1)
    exact ⟨⟨Nat.le_trans h1.1 h3.1, fun k hk hn => (h3.2 k (Nat.lt_of_lt_of_le hk h1.1) hn).trans (h1.2 k hk hn)⟩, h2.trans h4⟩
theorem store4 (hgd : o.guard = none) {t : TypeId} {p : Tmp} {v : Operand} (_ho : o.op = .store t (.tmp p) v) (hN : o.dst = none) {g : Nat} {c0 c1 c2 c3 x0 x1 x2 x3 : Value} {t' : TypeId} (hb : W.heap[g]? = some (.cells #[c0, c1, c2, c3] t' (0, 0)))
    (hrun : (execOp a.eval o).run P W = .ok .skip (sets W g 0 [x0, x1, x2, x3])) (h : ∀ w', w'.heap[g]? = some (.cells #[x0, x1, x2, x3] t' (0, 0)) → Kept W w' (fun k => k = g) → Below g W w' → wpList P ops Q rest a w') : wpList P ops Q (o :: rest) a W := by
  refine wpList_plain hgd fun K hK => ?_
  unfold Oper.wp
  rw [hrun]
  show K (a.put o.dst undef) _
  rw [hN]
  refine hK _ _ (h _ ?_ (sets_kept g _ W 0).1 (sets_kept g _ W 0).2)
  exact (blk_set (blk_set (blk_set (blk_set hb 0 x0) 1 x1) 2 x2) 3 x3).trans rfl
theorem store3 (hgd : o.guard = none) {t : TypeId} {p : Tmp} {v : Operand} (_ho : o.op = .store t (.tmp p) v) (hN : o.dst = none) {g : Nat} {c0 c1 c2 x0 x1 x2 : Value} {t' : TypeId} (hb : W.heap[g]? = some (.cells #[c0, c1, c2] t' (0, 0)))
    (hrun : (execOp a.eval o).run P W = .ok .skip (sets W g 0 [x0, x1, x2])) (h : ∀ w', w'.heap[g]? = some (.cells #[x0, x1, x2] t' (0, 0)) → Kept W w' (fun k => k = g) → Below g W w' → wpList P ops Q rest a w') : wpList P ops Q (o :: rest) a W := by
  refine wpList_plain hgd fun K hK => ?_
  unfold Oper.wp
  rw [hrun]
  show K (a.put o.dst undef) _
  rw [hN]
  refine hK _ _ (h _ ?_ (sets_kept g _ W 0).1 (sets_kept g _ W 0).2)
  exact (blk_set (blk_set (blk_set hb 0 x0) 1 x1) 2 x2).trans rfl
end
/-- A block of four numbers. -/
def F4 (W : World) (g : Nat) (t : TypeId) (a b c d : Int) : Prop := W.heap[g]? = some (.cells #[.int .i64 a, .int .i64 b, .int .i64 c, .int .i64 d] t (0, 0))
set_option maxHeartbeats 1000000 in
theorem reftick_any {o r n a : Int} (w : World) :
    Calls Try.prog 22 #[.agg #[.int .i64 o, .int .i64 r, .int .i64 n, .int .i64 a]] w fun e w' => e = .returned (.agg #[.int .i64 o, .int .i64 r, .int .i64 n, .int .i64 0]) ∧ Below w.heap.size w w' := by
  have hu27 := Try.underlying27
  go_enter Try.func22, Try.ntmps22
  go_wp2_with (first | ((with_reducible refine gate_dst (N := 1) rfl ?_); refine box_event ?hg (N := 1) ?hd (cs := #[.int .i64 o, .int .i64 r, .int .i64 n, .int .i64 a]) (t := 27) ?hr ?_; (case hd => rfl); (case hg => rfl); (case hr => first | (go_simp; done) | (go_simp; rfl)); intro p hg_ w1 hbox_ hb_; have HP := Aside0.mk hbox_; have HB := Aside0.mk hb_; have hlp := Aside0.mk (Nat.le_of_eq hg_.symm); clear hg_ hbox_ hb_) | ((with_reducible refine gate_dst (N := 2) rfl ?_); refine box_event ?hg (N := 2) ?hd (cs := #[.int .i64 0, .int .i64 0, .int .i64 0, .int .i64 0]) (t := 27) ?hr ?_; (case hd => rfl); (case hg => rfl); (case hr => first | (go_simp; done) | (go_simp; rfl)); intro q hg_ w2 hbox_ hb_; have HQ := Aside0.mk hbox_; have HB2 := Aside0.mk (below_step HB.out hb_); have HP2 := Aside0.mk (blk_below HP.out hb_); have hpq : p ≠ q := (by rw [hg_]; exact Nat.ne_of_lt (blk_lt HP.out)); have hqp := hpq.symm; have hlq := Aside0.mk (Nat.le_trans HB.out.size (Nat.le_of_eq hg_.symm)); have c0 := (blk_cell HP2.out 0).trans rfl; have f0 := blk_frozen HP2.out 0; have c1 := (blk_cell HP2.out 1).trans rfl; have f1 := blk_frozen HP2.out 1; have c2 := (blk_cell HP2.out 2).trans rfl; have f2 := blk_frozen HP2.out 2; have c3 := (blk_cell HP2.out 3).trans rfl; have f3 := blk_frozen HP2.out 3; have d0 := (blk_cell HQ.out 0).trans rfl; have e0 := blk_frozen HQ.out 0; have d1 := (blk_cell HQ.out 1).trans rfl; have e1 := blk_frozen HQ.out 1; have d2 := (blk_cell HQ.out 2).trans rfl; have e2 := blk_frozen HQ.out 2; have d3 := (blk_cell HQ.out 3).trans rfl; have e3 := blk_frozen HQ.out 3; clear hg_ hbox_ hb_) | ((with_reducible refine gate_store (t := 27) (p := 2) rfl ?_); refine store4 ?hg (t := 27) (p := 2) (v := ?vo_1) ?ho ?hd (x0 := .int .i64 o) (x1 := .int .i64 r) (x2 := .int .i64 n) (x3 := .int .i64 0) (blk_far (p := ⟨p, 3, none⟩) HQ.out hqp _) ?hr ?_; (case hd => rfl); (case hg => rfl); (case ho => rfl); (case hr => first | (go_simp; done) | (go_simp; rfl)); intro w3 hbox_ hk_ hb_; have HQ3 := Aside0.mk hbox_; have HB3 := Aside0.mk ((HB2.out.setCell hlp.out _).trans (hb_.mono hlq.out));clear hbox_ hk_ hb_))
  refine bodyPost_ret (results_cell_row rfl _ _ q 27 #[.int .i64 o, .int .i64 r, .int .i64 n, .int .i64 0] (0, 0) _ rfl HQ3.out Try.underlying27 rfl (by kernel_rfl)) rfl ?_
  exact ⟨rfl, HB3.out⟩
set_option maxHeartbeats 1000000 in
theorem refgone_any {o r n a x z : Int} (w : World) (h0 : 0 ≤ n) (h1 : n ≤ 9223372036854775807) (hx : z = (if x ≤ 0 then n else if x ≤ n then n - x else 0)) :
    Calls Try.prog 18 #[.agg #[.int .i64 o, .int .i64 r, .int .i64 n, .int .i64 a], .int .i64 x] w fun e w' => e = .returned (.agg #[.int .i64 o, .int .i64 r, .int .i64 z, .int .i64 a]) ∧ Below w.heap.size w w' := by
  have hu27 := Try.underlying27
  by_cases g1 : x < 0
  · rw [if_pos (by omega)] at hx
    have d1 : decide (x < 0) = true := by simp; omega
    have d2 : decide (n < 0) = false := by simp; omega
    rw [hx]
    clear hx
    go_enter Try.func18, Try.ntmps18
    go_wp2_with (first | ((with_reducible refine gate_dst (N := 2) rfl ?_); refine box_event ?hg (N := 2) ?hd (cs := #[.int .i64 o, .int .i64 r, .int .i64 n, .int .i64 a]) (t := 27) ?hr ?_; (case hd => rfl); (case hg => rfl); (case hr => first | (go_simp; done) | (go_simp; rfl)); intro p hg_ w1 hbox_ hb_; have HP := Aside0.mk hbox_; have HB := Aside0.mk hb_; have hlp := Aside0.mk (Nat.le_of_eq hg_.symm); clear hg_ hbox_ hb_) | ((with_reducible refine gate_dst (N := 4) rfl ?_); refine box_event ?hg (N := 4) ?hd (cs := #[.int .i64 0, .int .i64 0, .int .i64 0, .int .i64 0]) (t := 27) ?hr ?_; (case hd => rfl); (case hg => rfl); (case hr => first | (go_simp; done) | (go_simp; rfl)); intro q hg_ w2 hbox_ hb_; have HQ := Aside0.mk hbox_; have HB2 := Aside0.mk (below_step HB.out hb_); have HP2 := Aside0.mk (blk_below HP.out hb_); have hpq : p ≠ q := (by rw [hg_]; exact Nat.ne_of_lt (blk_lt HP.out)); have hqp := hpq.symm; have hlq := Aside0.mk (Nat.le_trans HB.out.size (Nat.le_of_eq hg_.symm)); have c0 := (blk_cell HP2.out 0).trans rfl; have f0 := blk_frozen HP2.out 0; have c1 := (blk_cell HP2.out 1).trans rfl; have f1 := blk_frozen HP2.out 1; have c2 := (blk_cell HP2.out 2).trans rfl; have f2 := blk_frozen HP2.out 2; have c3 := (blk_cell HP2.out 3).trans rfl; have f3 := blk_frozen HP2.out 3; have d0 := (blk_cell HQ.out 0).trans rfl; have e0 := blk_frozen HQ.out 0; have d1 := (blk_cell HQ.out 1).trans rfl; have e1 := blk_frozen HQ.out 1; have d2 := (blk_cell HQ.out 2).trans rfl; have e2 := blk_frozen HQ.out 2; have d3 := (blk_cell HQ.out 3).trans rfl; have e3 := blk_frozen HQ.out 3; clear hg_ hbox_ hb_) | ((with_reducible refine gate_store (t := 27) (p := 4) rfl ?_); refine store4 ?hg (t := 27) (p := 4) (v := ?vo_2) ?ho ?hd (x0 := .int .i64 o) (x1 := .int .i64 r) (x2 := .int .i64 n) (x3 := .int .i64 a) (blk_far (p := ⟨p, 2, none⟩) HQ.out hqp _) ?hr ?_; (case hd => rfl); (case hg => rfl); (case ho => rfl); (case hr => first | (go_simp; done) | (go_simp; rfl)); intro w3 hbox_ hk_ hb_; have HQ3 := Aside0.mk hbox_; have HB3 := Aside0.mk ((HB2.out.setCell hlp.out _).trans (hb_.mono hlq.out));clear hbox_ hk_ hb_))
    refine bodyPost_ret (results_cell_row rfl _ _ q 27 #[.int .i64 o, .int .i64 r, .int .i64 n, .int .i64 a] (0, 0) _ rfl HQ3.out Try.underlying27 rfl (by kernel_rfl)) rfl ?_
    exact ⟨rfl, HB3.out⟩
  by_cases g2 : n < x
  · rw [if_neg (by omega), if_neg (by omega)] at hx
    have d1 : decide (x < 0) = false := by simp; omega
    have d2 : decide (n < x) = true := by simp; omega
    subst hx
    go_enter Try.func18, Try.ntmps18
    go_wp2_with (first | ((with_reducible refine gate_dst (N := 2) rfl ?_); refine box_event ?hg (N := 2) ?hd (cs := #[.int .i64 o, .int .i64 r, .int .i64 n, .int .i64 a]) (t := 27) ?hr ?_; (case hd => rfl); (case hg => rfl); (case hr => first | (go_simp; done) | (go_simp; rfl)); intro p hg_ w1 hbox_ hb_; have HP := Aside0.mk hbox_; have HB := Aside0.mk hb_; have hlp := Aside0.mk (Nat.le_of_eq hg_.symm); clear hg_ hbox_ hb_) | ((with_reducible refine gate_dst (N := 4) rfl ?_); refine box_event ?hg (N := 4) ?hd (cs := #[.int .i64 0, .int .i64 0, .int .i64 0, .int .i64 0]) (t := 27) ?hr ?_; (case hd => rfl); (case hg => rfl); (case hr => first | (go_simp; done) | (go_simp; rfl)); intro q hg_ w2 hbox_ hb_; have HQ := Aside0.mk hbox_; have HB2 := Aside0.mk (below_step HB.out hb_); have HP2 := Aside0.mk (blk_below HP.out hb_); have hpq : p ≠ q := (by rw [hg_]; exact Nat.ne_of_lt (blk_lt HP.out)); have hqp := hpq.symm; have hlq := Aside0.mk (Nat.le_trans HB.out.size (Nat.le_of_eq hg_.symm)); have c0 := (blk_cell HP2.out 0).trans rfl; have f0 := blk_frozen HP2.out 0; have c1 := (blk_cell HP2.out 1).trans rfl; have f1 := blk_frozen HP2.out 1; have c2 := (blk_cell HP2.out 2).trans rfl; have f2 := blk_frozen HP2.out 2; have c3 := (blk_cell HP2.out 3).trans rfl; have f3 := blk_frozen HP2.out 3; have d0 := (blk_cell HQ.out 0).trans rfl; have e0 := blk_frozen HQ.out 0; have d1 := (blk_cell HQ.out 1).trans rfl; have e1 := blk_frozen HQ.out 1; have d2 := (blk_cell HQ.out 2).trans rfl; have e2 := blk_frozen HQ.out 2; have d3 := (blk_cell HQ.out 3).trans rfl; have e3 := blk_frozen HQ.out 3; clear hg_ hbox_ hb_) | ((with_reducible refine gate_store (t := 27) (p := 4) rfl ?_); refine store4 ?hg (t := 27) (p := 4) (v := ?vo_3) ?ho ?hd (x0 := .int .i64 o) (x1 := .int .i64 r) (x2 := .int .i64 0) (x3 := .int .i64 a) (blk_far (p := ⟨p, 2, none⟩) HQ.out hqp _) ?hr ?_; (case hd => rfl); (case hg => rfl); (case ho => rfl); (case hr => first | (go_simp; done) | (go_simp; rfl)); intro w3 hbox_ hk_ hb_; have HQ3 := Aside0.mk hbox_; have HB3 := Aside0.mk ((HB2.out.setCell hlp.out _).trans (hb_.mono hlq.out));clear hbox_ hk_ hb_))
    refine bodyPost_ret (results_cell_row rfl _ _ q 27 #[.int .i64 o, .int .i64 r, .int .i64 0, .int .i64 a] (0, 0) _ rfl HQ3.out Try.underlying27 rfl (by kernel_rfl)) rfl ?_
    exact ⟨rfl, HB3.out⟩
  · replace hx : z = n - x := by rw [hx]; (repeat' split) <;> omega
    have d1 : decide (x < 0) = false := by simp; omega
    have d2 : decide (n < x) = false := by simp; omega
    subst hx
    go_enter Try.func18, Try.ntmps18
    go_wp2_with (first | ((with_reducible refine gate_dst (N := 2) rfl ?_); refine box_event ?hg (N := 2) ?hd (cs := #[.int .i64 o, .int .i64 r, .int .i64 n, .int .i64 a]) (t := 27) ?hr ?_; (case hd => rfl); (case hg => rfl); (case hr => first | (go_simp; done) | (go_simp; rfl)); intro p hg_ w1 hbox_ hb_; have HP := Aside0.mk hbox_; have HB := Aside0.mk hb_; have hlp := Aside0.mk (Nat.le_of_eq hg_.symm); clear hg_ hbox_ hb_) | ((with_reducible refine gate_dst (N := 4) rfl ?_); refine box_event ?hg (N := 4) ?hd (cs := #[.int .i64 0, .int .i64 0, .int .i64 0, .int .i64 0]) (t := 27) ?hr ?_; (case hd => rfl); (case hg => rfl); (case hr => first | (go_simp; done) | (go_simp; rfl)); intro q hg_ w2 hbox_ hb_; have HQ := Aside0.mk hbox_; have HB2 := Aside0.mk (below_step HB.out hb_); have HP2 := Aside0.mk (blk_below HP.out hb_); have hpq : p ≠ q := (by rw [hg_]; exact Nat.ne_of_lt (blk_lt HP.out)); have hqp := hpq.symm; have hlq := Aside0.mk (Nat.le_trans HB.out.size (Nat.le_of_eq hg_.symm)); have c0 := (blk_cell HP2.out 0).trans rfl; have f0 := blk_frozen HP2.out 0; have c1 := (blk_cell HP2.out 1).trans rfl; have f1 := blk_frozen HP2.out 1; have c2 := (blk_cell HP2.out 2).trans rfl; have f2 := blk_frozen HP2.out 2; have c3 := (blk_cell HP2.out 3).trans rfl; have f3 := blk_frozen HP2.out 3; have d0 := (blk_cell HQ.out 0).trans rfl; have e0 := blk_frozen HQ.out 0; have d1 := (blk_cell HQ.out 1).trans rfl; have e1 := blk_frozen HQ.out 1; have d2 := (blk_cell HQ.out 2).trans rfl; have e2 := blk_frozen HQ.out 2; have d3 := (blk_cell HQ.out 3).trans rfl; have e3 := blk_frozen HQ.out 3; clear hg_ hbox_ hb_) | ((with_reducible refine gate_store (t := 27) (p := 4) rfl ?_); refine store4 ?hg (t := 27) (p := 4) (v := ?vo_4) ?ho ?hd (x0 := .int .i64 o) (x1 := .int .i64 r) (x2 := .int .i64 (n - x)) (x3 := .int .i64 a) (blk_far (p := ⟨p, 2, none⟩) HQ.out hqp _) ?hr ?_; (case hd => rfl); (case hg => rfl); (case ho => rfl); (case hr => first | (go_simp; done) | (go_simp; rfl)); intro w3 hbox_ hk_ hb_; have HQ3 := Aside0.mk hbox_; have HB3 := Aside0.mk ((HB2.out.setCell hlp.out _).trans (hb_.mono hlq.out));clear hbox_ hk_ hb_))
    refine bodyPost_ret (results_cell_row rfl _ _ q 27 #[.int .i64 o, .int .i64 r, .int .i64 (n - x), .int .i64 a] (0, 0) _ rfl HQ3.out Try.underlying27 rfl (by kernel_rfl)) rfl ?_
    exact ⟨rfl, HB3.out⟩
set_option maxHeartbeats 1000000 in
theorem refask_no {o r n a : Int} (w : World) (h : r ≤ a) :
    Calls Try.prog 20 #[.agg #[.int .i64 o, .int .i64 r, .int .i64 n, .int .i64 a]] w fun e w' => e = .returned (.tuple #[.agg #[.int .i64 o, .int .i64 r, .int .i64 n, .int .i64 a], .bool false]) ∧ Below w.heap.size w w' := by
  have hu27 := Try.underlying27
  · have d1 : decide (r ≤ a) = true := by simp; omega
    go_enter Try.func20, Try.ntmps20
    go_wp2_with (first | ((with_reducible refine gate_dst (N := 1) rfl ?_); refine box_event ?hg (N := 1) ?hd (cs := #[.int .i64 o, .int .i64 r, .int .i64 n, .int .i64 a]) (t := 27) ?hr ?_; (case hd => rfl); (case hg => rfl); (case hr => first | (go_simp; done) | (go_simp; rfl)); intro p hg_ w1 hbox_ hb_; have HP := Aside0.mk hbox_; have HB := Aside0.mk hb_; have hlp := Aside0.mk (Nat.le_of_eq hg_.symm); clear hg_ hbox_ hb_) | ((with_reducible refine gate_dst (N := 2) rfl ?_); refine box_event ?hg (N := 2) ?hd (cs := #[.int .i64 0, .int .i64 0, .int .i64 0, .int .i64 0]) (t := 27) ?hr ?_; (case hd => rfl); (case hg => rfl); (case hr => first | (go_simp; done) | (go_simp; rfl)); intro q hg_ w2 hbox_ hb_; have HQ := Aside0.mk hbox_; have HB2 := Aside0.mk (below_step HB.out hb_); have HP2 := Aside0.mk (blk_below HP.out hb_); have hpq : p ≠ q := (by rw [hg_]; exact Nat.ne_of_lt (blk_lt HP.out)); have hqp := hpq.symm; have hlq := Aside0.mk (Nat.le_trans HB.out.size (Nat.le_of_eq hg_.symm)); have c0 := (blk_cell HP2.out 0).trans rfl; have f0 := blk_frozen HP2.out 0; have c1 := (blk_cell HP2.out 1).trans rfl; have f1 := blk_frozen HP2.out 1; have c2 := (blk_cell HP2.out 2).trans rfl; have f2 := blk_frozen HP2.out 2; have c3 := (blk_cell HP2.out 3).trans rfl; have f3 := blk_frozen HP2.out 3; have d0 := (blk_cell HQ.out 0).trans rfl; have e0 := blk_frozen HQ.out 0; have d1 := (blk_cell HQ.out 1).trans rfl; have e1 := blk_frozen HQ.out 1; have d2 := (blk_cell HQ.out 2).trans rfl; have e2 := blk_frozen HQ.out 2; have d3 := (blk_cell HQ.out 3).trans rfl; have e3 := blk_frozen HQ.out 3; clear hg_ hbox_ hb_) | ((with_reducible refine gate_store (t := 27) (p := 2) rfl ?_); refine store4 ?hg (t := 27) (p := 2) (v := ?vo_5) ?ho ?hd (x0 := .int .i64 o) (x1 := .int .i64 r) (x2 := .int .i64 n) (x3 := .int .i64 a) HQ.out ?hr ?_; (case hd => rfl); (case hg => rfl); (case ho => rfl); (case hr => first | (go_simp; done) | (go_simp; rfl)); intro w3 hbox_ hk_ hb_; have HQ3 := Aside0.mk hbox_; have HB3 := Aside0.mk (HB2.out.trans (hb_.mono hlq.out));clear hbox_ hk_ hb_))
    refine bodyPost_ret (results_ct rfl _ _ q 27 #[.int .i64 o, .int .i64 r, .int .i64 n, .int .i64 a] (0, 0) _ rfl HQ3.out Try.underlying27 rfl (by kernel_rfl)) rfl ?_
    exact ⟨rfl, HB3.out⟩
set_option maxHeartbeats 1000000 in
theorem refask_yes {o r n a : Int} (w : World) (h : a < r) (h0 : 0 ≤ a) (h1 : r ≤ 9223372036854775807) :
    Calls Try.prog 20 #[.agg #[.int .i64 o, .int .i64 r, .int .i64 n, .int .i64 a]] w fun e w' => e = .returned (.tuple #[.agg #[.int .i64 o, .int .i64 r, .int .i64 n, .int .i64 (a + 1)], .bool true]) ∧ Below w.heap.size w w' := by
  have hu27 := Try.underlying27
  · have d1 : decide (r ≤ a) = false := by simp; omega
    go_enter Try.func20, Try.ntmps20
    go_wp2_with (first | ((with_reducible refine gate_dst (N := 1) rfl ?_); refine box_event ?hg (N := 1) ?hd (cs := #[.int .i64 o, .int .i64 r, .int .i64 n, .int .i64 a]) (t := 27) ?hr ?_; (case hd => rfl); (case hg => rfl); (case hr => first | (go_simp; done) | (go_simp; rfl)); intro p hg_ w1 hbox_ hb_; have HP := Aside0.mk hbox_; have HB := Aside0.mk hb_; have hlp := Aside0.mk (Nat.le_of_eq hg_.symm); clear hg_ hbox_ hb_) | ((with_reducible refine gate_dst (N := 2) rfl ?_); refine box_event ?hg (N := 2) ?hd (cs := #[.int .i64 0, .int .i64 0, .int .i64 0, .int .i64 0]) (t := 27) ?hr ?_; (case hd => rfl); (case hg => rfl); (case hr => first | (go_simp; done) | (go_simp; rfl)); intro q hg_ w2 hbox_ hb_; have HQ := Aside0.mk hbox_; have HB2 := Aside0.mk (below_step HB.out hb_); have HP2 := Aside0.mk (blk_below HP.out hb_); have hpq : p ≠ q := (by rw [hg_]; exact Nat.ne_of_lt (blk_lt HP.out)); have hqp := hpq.symm; have hlq := Aside0.mk (Nat.le_trans HB.out.size (Nat.le_of_eq hg_.symm)); have c0 := (blk_cell HP2.out 0).trans rfl; have f0 := blk_frozen HP2.out 0; have c1 := (blk_cell HP2.out 1).trans rfl; have f1 := blk_frozen HP2.out 1; have c2 := (blk_cell HP2.out 2).trans rfl; have f2 := blk_frozen HP2.out 2; have c3 := (blk_cell HP2.out 3).trans rfl; have f3 := blk_frozen HP2.out 3; have d0 := (blk_cell HQ.out 0).trans rfl; have e0 := blk_frozen HQ.out 0; have d1 := (blk_cell HQ.out 1).trans rfl; have e1 := blk_frozen HQ.out 1; have d2 := (blk_cell HQ.out 2).trans rfl; have e2 := blk_frozen HQ.out 2; have d3 := (blk_cell HQ.out 3).trans rfl; have e3 := blk_frozen HQ.out 3; clear hg_ hbox_ hb_) | ((with_reducible refine gate_store (t := 27) (p := 2) rfl ?_); refine store4 ?hg (t := 27) (p := 2) (v := ?vo_6) ?ho ?hd (x0 := .int .i64 o) (x1 := .int .i64 r) (x2 := .int .i64 n) (x3 := .int .i64 (a + 1)) (blk_far (p := ⟨p, 3, none⟩) HQ.out hqp _) ?hr ?_; (case hd => rfl); (case hg => rfl); (case ho => rfl); (case hr => first | (go_simp; done) | (go_simp; rfl)); intro w3 hbox_ hk_ hb_; have HQ3 := Aside0.mk hbox_; have HB3 := Aside0.mk ((HB2.out.setCell hlp.out _).trans (hb_.mono hlq.out));clear hbox_ hk_ hb_))
    refine bodyPost_ret (results_ct rfl _ _ q 27 #[.int .i64 o, .int .i64 r, .int .i64 n, .int .i64 (a + 1)] (0, 0) _ rfl HQ3.out Try.underlying27 rfl (by kernel_rfl)) rfl ?_
    exact ⟨rfl, HB3.out⟩
set_option maxHeartbeats 1000000 in
theorem refnew_any (a0 a1 : Int) (w : World) : Calls Try.prog 14 #[.int .i64 a0, .int .i64 a1] w fun e w' => e = .returned (.agg #[.int .i64 (mx a0 0), .int .i64 (mx a1 0), .int .i64 0, .int .i64 0]) ∧ Below w.heap.size w w' := by
  have hu27 := Try.underlying27
  by_cases h0 : 0 < a0
  · by_cases h1 : 0 < a1
    · rw [show mx a0 0 = a0 from by unfold mx; split <;> omega, show mx a1 0 = a1 from by unfold mx; split <;> omega]
      have g0 : decide (0 < a0) = true := by simp; omega
      have g1 : decide (0 < a1) = true := by simp; omega
      go_enter Try.func14, Try.ntmps14
      go_wp2_with (first | ((with_reducible refine gate_dst (N := 4) rfl ?_); refine box_event ?hg (N := 4) ?hd (cs := #[.int .i64 0, .int .i64 0, .int .i64 0, .int .i64 0]) (t := 27) ?hr ?_; (case hd => rfl); (case hg => rfl); (case hr => first | (go_simp; done) | (go_simp; rfl)); intro p hg_ w1 hbox_ hb_; have HP := Aside0.mk hbox_; have HB := Aside0.mk hb_; have hlp := Aside0.mk (Nat.le_of_eq hg_.symm); clear hg_ hbox_ hb_) | ((with_reducible refine gate_dst (N := 5) rfl ?_); refine box_event ?hg (N := 5) ?hd (cs := #[.int .i64 0, .int .i64 0, .int .i64 0, .int .i64 0]) (t := 27) ?hr ?_; (case hd => rfl); (case hg => rfl); (case hr => first | (go_simp; done) | (go_simp; rfl)); intro q hg_ w2 hbox_ hb_; have HQ := Aside0.mk hbox_; have HB2 := Aside0.mk (below_step HB.out hb_); have HP2 := Aside0.mk (blk_below HP.out hb_); have hpq : p ≠ q := (by rw [hg_]; exact Nat.ne_of_lt (blk_lt HP.out)); have hqp := hpq.symm; have hlq := Aside0.mk (Nat.le_trans HB.out.size (Nat.le_of_eq hg_.symm)); have c0 := (blk_cell HP2.out 0).trans rfl; have f0 := blk_frozen HP2.out 0; have c1 := (blk_cell HP2.out 1).trans rfl; have f1 := blk_frozen HP2.out 1; have c2 := (blk_cell HP2.out 2).trans rfl; have f2 := blk_frozen HP2.out 2; have c3 := (blk_cell HP2.out 3).trans rfl; have f3 := blk_frozen HP2.out 3; have d0 := (blk_cell HQ.out 0).trans rfl; have e0 := blk_frozen HQ.out 0; have d1 := (blk_cell HQ.out 1).trans rfl; have e1 := blk_frozen HQ.out 1; have d2 := (blk_cell HQ.out 2).trans rfl; have e2 := blk_frozen HQ.out 2; have d3 := (blk_cell HQ.out 3).trans rfl; have e3 := blk_frozen HQ.out 3; clear hg_ hbox_ hb_) | ((with_reducible refine gate_store (t := 27) (p := 5) rfl ?_); refine store4 ?hg (t := 27) (p := 5) (v := ?vo_7) ?ho ?hd (x0 := .int .i64 0) (x1 := .int .i64 0) (x2 := .int .i64 0) (x3 := .int .i64 0) HQ.out ?hr ?_; (case hd => rfl); (case hg => rfl); (case ho => rfl); (case hr => first | (go_simp; done) | (go_simp; rfl)); intro w3 hbox_ hk_ hb_; have HQ3 := Aside0.mk hbox_; have HP3 := Aside0.mk ((hk_.2 p (blk_lt HP2.out) hpq).trans HP2.out); have HB3 := Aside0.mk (HB2.out.trans (hb_.mono hlq.out)); have c0 := (blk_cell HQ3.out 0).trans rfl; have c1 := (blk_cell HQ3.out 1).trans rfl; have c2 := (blk_cell HQ3.out 2).trans rfl; have c3 := (blk_cell HQ3.out 3).trans rfl; have f0 := blk_frozen HQ3.out 0; have f1 := blk_frozen HQ3.out 1; have d0 := (blk_cell HP3.out 0).trans rfl; have d1 := (blk_cell HP3.out 1).trans rfl; have d2 := (blk_cell HP3.out 2).trans rfl; have d3 := (blk_cell HP3.out 3).trans rfl; have e0 := blk_frozen HP3.out 0; have e1 := blk_frozen HP3.out 1; have e2 := blk_frozen HP3.out 2; have e3 := blk_frozen HP3.out 3;clear hbox_ hk_ hb_) | ((with_reducible refine gate_store (t := 27) (p := 4) rfl ?_); refine store4 ?hg (t := 27) (p := 4) (v := ?vo_8) ?ho ?hd (x0 := .int .i64 a0) (x1 := .int .i64 a1) (x2 := .int .i64 0) (x3 := .int .i64 0) (blk_far (p := ⟨q, 1, none⟩) (blk_far (p := ⟨q, 0, none⟩) HP3.out hpq _) hpq _) ?hr ?_; (case hd => rfl); (case hg => rfl); (case ho => rfl); (case hr => first | (go_simp; done) | (go_simp; rfl)); intro w4 hbox_ hk_ hb_; have HP4 := Aside0.mk hbox_; have HB4 := Aside0.mk (((HB3.out.setCell (p := ⟨q, 0, none⟩) hlq.out _).setCell (p := ⟨q, 1, none⟩) hlq.out _).trans (hb_.mono hlp.out));clear hbox_ hk_ hb_))
      refine bodyPost_ret (results_cell_row rfl _ _ p 27 #[.int .i64 a0, .int .i64 a1, .int .i64 0, .int .i64 0] (0, 0) _ rfl HP4.out Try.underlying27 rfl (by kernel_rfl)) rfl ?_
      exact ⟨rfl, HB4.out⟩
    · rw [show mx a0 0 = a0 from by unfold mx; split <;> omega, show mx a1 0 = 0 from by unfold mx; split <;> omega]
      have g0 : decide (0 < a0) = true := by simp; omega
      have g1 : decide (0 < a1) = false := by simp; omega
      go_enter Try.func14, Try.ntmps14
      go_wp2_with (first | ((with_reducible refine gate_dst (N := 4) rfl ?_); refine box_event ?hg (N := 4) ?hd (cs := #[.int .i64 0, .int .i64 0, .int .i64 0, .int .i64 0]) (t := 27) ?hr ?_; (case hd => rfl); (case hg => rfl); (case hr => first | (go_simp; done) | (go_simp; rfl)); intro p hg_ w1 hbox_ hb_; have HP := Aside0.mk hbox_; have HB := Aside0.mk hb_; have hlp := Aside0.mk (Nat.le_of_eq hg_.symm); clear hg_ hbox_ hb_) | ((with_reducible refine gate_dst (N := 5) rfl ?_); refine box_event ?hg (N := 5) ?hd (cs := #[.int .i64 0, .int .i64 0, .int .i64 0, .int .i64 0]) (t := 27) ?hr ?_; (case hd => rfl); (case hg => rfl); (case hr => first | (go_simp; done) | (go_simp; rfl)); intro q hg_ w2 hbox_ hb_; have HQ := Aside0.mk hbox_; have HB2 := Aside0.mk (below_step HB.out hb_); have HP2 := Aside0.mk (blk_below HP.out hb_); have hpq : p ≠ q := (by rw [hg_]; exact Nat.ne_of_lt (blk_lt HP.out)); have hqp := hpq.symm; have hlq := Aside0.mk (Nat.le_trans HB.out.size (Nat.le_of_eq hg_.symm)); have c0 := (blk_cell HP2.out 0).trans rfl; have f0 := blk_frozen HP2.out 0; have c1 := (blk_cell HP2.out 1).trans rfl; have f1 := blk_frozen HP2.out 1; have c2 := (blk_cell HP2.out 2).trans rfl; have f2 := blk_frozen HP2.out 2; have c3 := (blk_cell HP2.out 3).trans rfl; have f3 := blk_frozen HP2.out 3; have d0 := (blk_cell HQ.out 0).trans rfl; have e0 := blk_frozen HQ.out 0; have d1 := (blk_cell HQ.out 1).trans rfl; have e1 := blk_frozen HQ.out 1; have d2 := (blk_cell HQ.out 2).trans rfl; have e2 := blk_frozen HQ.out 2; have d3 := (blk_cell HQ.out 3).trans rfl; have e3 := blk_frozen HQ.out 3; clear hg_ hbox_ hb_) | ((with_reducible refine gate_store (t := 27) (p := 5) rfl ?_); refine store4 ?hg (t := 27) (p := 5) (v := ?vo_9) ?ho ?hd (x0 := .int .i64 0) (x1 := .int .i64 0) (x2 := .int .i64 0) (x3 := .int .i64 0) HQ.out ?hr ?_; (case hd => rfl); (case hg => rfl); (case ho => rfl); (case hr => first | (go_simp; done) | (go_simp; rfl)); intro w3 hbox_ hk_ hb_; have HQ3 := Aside0.mk hbox_; have HP3 := Aside0.mk ((hk_.2 p (blk_lt HP2.out) hpq).trans HP2.out); have HB3 := Aside0.mk (HB2.out.trans (hb_.mono hlq.out)); have c0 := (blk_cell HQ3.out 0).trans rfl; have c1 := (blk_cell HQ3.out 1).trans rfl; have c2 := (blk_cell HQ3.out 2).trans rfl; have c3 := (blk_cell HQ3.out 3).trans rfl; have f0 := blk_frozen HQ3.out 0; have f1 := blk_frozen HQ3.out 1; have d0 := (blk_cell HP3.out 0).trans rfl; have d1 := (blk_cell HP3.out 1).trans rfl; have d2 := (blk_cell HP3.out 2).trans rfl; have d3 := (blk_cell HP3.out 3).trans rfl; have e0 := blk_frozen HP3.out 0; have e1 := blk_frozen HP3.out 1; have e2 := blk_frozen HP3.out 2; have e3 := blk_frozen HP3.out 3;clear hbox_ hk_ hb_) | ((with_reducible refine gate_store (t := 27) (p := 4) rfl ?_); refine store4 ?hg (t := 27) (p := 4) (v := ?vo_10) ?ho ?hd (x0 := .int .i64 a0) (x1 := .int .i64 0) (x2 := .int .i64 0) (x3 := .int .i64 0) (blk_far (p := ⟨q, 0, none⟩) HP3.out hpq _) ?hr ?_; (case hd => rfl); (case hg => rfl); (case ho => rfl); (case hr => first | (go_simp; done) | (go_simp; rfl)); intro w4 hbox_ hk_ hb_; have HP4 := Aside0.mk hbox_; have HB4 := Aside0.mk ((HB3.out.setCell hlq.out _).trans (hb_.mono hlp.out));clear hbox_ hk_ hb_))
      refine bodyPost_ret (results_cell_row rfl _ _ p 27 #[.int .i64 a0, .int .i64 0, .int .i64 0, .int .i64 0] (0, 0) _ rfl HP4.out Try.underlying27 rfl (by kernel_rfl)) rfl ?_
      exact ⟨rfl, HB4.out⟩
  · by_cases h1 : 0 < a1
    · rw [show mx a0 0 = 0 from by unfold mx; split <;> omega, show mx a1 0 = a1 from by unfold mx; split <;> omega]
      have g0 : decide (0 < a0) = false := by simp; omega
      have g1 : decide (0 < a1) = true := by simp; omega
      go_enter Try.func14, Try.ntmps14
      go_wp2_with (first | ((with_reducible refine gate_dst (N := 4) rfl ?_); refine box_event ?hg (N := 4) ?hd (cs := #[.int .i64 0, .int .i64 0, .int .i64 0, .int .i64 0]) (t := 27) ?hr ?_; (case hd => rfl); (case hg => rfl); (case hr => first | (go_simp; done) | (go_simp; rfl)); intro p hg_ w1 hbox_ hb_; have HP := Aside0.mk hbox_; have HB := Aside0.mk hb_; have hlp := Aside0.mk (Nat.le_of_eq hg_.symm); clear hg_ hbox_ hb_) | ((with_reducible refine gate_dst (N := 5) rfl ?_); refine box_event ?hg (N := 5) ?hd (cs := #[.int .i64 0, .int .i64 0, .int .i64 0, .int .i64 0]) (t := 27) ?hr ?_; (case hd => rfl); (case hg => rfl); (case hr => first | (go_simp; done) | (go_simp; rfl)); intro q hg_ w2 hbox_ hb_; have HQ := Aside0.mk hbox_; have HB2 := Aside0.mk (below_step HB.out hb_); have HP2 := Aside0.mk (blk_below HP.out hb_); have hpq : p ≠ q := (by rw [hg_]; exact Nat.ne_of_lt (blk_lt HP.out)); have hqp := hpq.symm; have hlq := Aside0.mk (Nat.le_trans HB.out.size (Nat.le_of_eq hg_.symm)); have c0 := (blk_cell HP2.out 0).trans rfl; have f0 := blk_frozen HP2.out 0; have c1 := (blk_cell HP2.out 1).trans rfl; have f1 := blk_frozen HP2.out 1; have c2 := (blk_cell HP2.out 2).trans rfl; have f2 := blk_frozen HP2.out 2; have c3 := (blk_cell HP2.out 3).trans rfl; have f3 := blk_frozen HP2.out 3; have d0 := (blk_cell HQ.out 0).trans rfl; have e0 := blk_frozen HQ.out 0; have d1 := (blk_cell HQ.out 1).trans rfl; have e1 := blk_frozen HQ.out 1; have d2 := (blk_cell HQ.out 2).trans rfl; have e2 := blk_frozen HQ.out 2; have d3 := (blk_cell HQ.out 3).trans rfl; have e3 := blk_frozen HQ.out 3; clear hg_ hbox_ hb_) | ((with_reducible refine gate_store (t := 27) (p := 5) rfl ?_); refine store4 ?hg (t := 27) (p := 5) (v := ?vo_11) ?ho ?hd (x0 := .int .i64 0) (x1 := .int .i64 0) (x2 := .int .i64 0) (x3 := .int .i64 0) HQ.out ?hr ?_; (case hd => rfl); (case hg => rfl); (case ho => rfl); (case hr => first | (go_simp; done) | (go_simp; rfl)); intro w3 hbox_ hk_ hb_; have HQ3 := Aside0.mk hbox_; have HP3 := Aside0.mk ((hk_.2 p (blk_lt HP2.out) hpq).trans HP2.out); have HB3 := Aside0.mk (HB2.out.trans (hb_.mono hlq.out)); have c0 := (blk_cell HQ3.out 0).trans rfl; have c1 := (blk_cell HQ3.out 1).trans rfl; have c2 := (blk_cell HQ3.out 2).trans rfl; have c3 := (blk_cell HQ3.out 3).trans rfl; have f0 := blk_frozen HQ3.out 0; have f1 := blk_frozen HQ3.out 1; have d0 := (blk_cell HP3.out 0).trans rfl; have d1 := (blk_cell HP3.out 1).trans rfl; have d2 := (blk_cell HP3.out 2).trans rfl; have d3 := (blk_cell HP3.out 3).trans rfl; have e0 := blk_frozen HP3.out 0; have e1 := blk_frozen HP3.out 1; have e2 := blk_frozen HP3.out 2; have e3 := blk_frozen HP3.out 3;clear hbox_ hk_ hb_) | ((with_reducible refine gate_store (t := 27) (p := 4) rfl ?_); refine store4 ?hg (t := 27) (p := 4) (v := ?vo_12) ?ho ?hd (x0 := .int .i64 0) (x1 := .int .i64 a1) (x2 := .int .i64 0) (x3 := .int .i64 0) (blk_far (p := ⟨q, 1, none⟩) HP3.out hpq _) ?hr ?_; (case hd => rfl); (case hg => rfl); (case ho => rfl); (case hr => first | (go_simp; done) | (go_simp; rfl)); intro w4 hbox_ hk_ hb_; have HP4 := Aside0.mk hbox_; have HB4 := Aside0.mk ((HB3.out.setCell hlq.out _).trans (hb_.mono hlp.out));clear hbox_ hk_ hb_))
      refine bodyPost_ret (results_cell_row rfl _ _ p 27 #[.int .i64 0, .int .i64 a1, .int .i64 0, .int .i64 0] (0, 0) _ rfl HP4.out Try.underlying27 rfl (by kernel_rfl)) rfl ?_
      exact ⟨rfl, HB4.out⟩
    · rw [show mx a0 0 = 0 from by unfold mx; split <;> omega, show mx a1 0 = 0 from by unfold mx; split <;> omega]
      have g0 : decide (0 < a0) = false := by simp; omega
      have g1 : decide (0 < a1) = false := by simp; omega
      go_enter Try.func14, Try.ntmps14
      go_wp2_with (first | ((with_reducible refine gate_dst (N := 4) rfl ?_); refine box_event ?hg (N := 4) ?hd (cs := #[.int .i64 0, .int .i64 0, .int .i64 0, .int .i64 0]) (t := 27) ?hr ?_; (case hd => rfl); (case hg => rfl); (case hr => first | (go_simp; done) | (go_simp; rfl)); intro p hg_ w1 hbox_ hb_; have HP := Aside0.mk hbox_; have HB := Aside0.mk hb_; have hlp := Aside0.mk (Nat.le_of_eq hg_.symm); clear hg_ hbox_ hb_) | ((with_reducible refine gate_dst (N := 5) rfl ?_); refine box_event ?hg (N := 5) ?hd (cs := #[.int .i64 0, .int .i64 0, .int .i64 0, .int .i64 0]) (t := 27) ?hr ?_; (case hd => rfl); (case hg => rfl); (case hr => first | (go_simp; done) | (go_simp; rfl)); intro q hg_ w2 hbox_ hb_; have HQ := Aside0.mk hbox_; have HB2 := Aside0.mk (below_step HB.out hb_); have HP2 := Aside0.mk (blk_below HP.out hb_); have hpq : p ≠ q := (by rw [hg_]; exact Nat.ne_of_lt (blk_lt HP.out)); have hqp := hpq.symm; have hlq := Aside0.mk (Nat.le_trans HB.out.size (Nat.le_of_eq hg_.symm)); have c0 := (blk_cell HP2.out 0).trans rfl; have f0 := blk_frozen HP2.out 0; have c1 := (blk_cell HP2.out 1).trans rfl; have f1 := blk_frozen HP2.out 1; have c2 := (blk_cell HP2.out 2).trans rfl; have f2 := blk_frozen HP2.out 2; have c3 := (blk_cell HP2.out 3).trans rfl; have f3 := blk_frozen HP2.out 3; have d0 := (blk_cell HQ.out 0).trans rfl; have e0 := blk_frozen HQ.out 0; have d1 := (blk_cell HQ.out 1).trans rfl; have e1 := blk_frozen HQ.out 1; have d2 := (blk_cell HQ.out 2).trans rfl; have e2 := blk_frozen HQ.out 2; have d3 := (blk_cell HQ.out 3).trans rfl; have e3 := blk_frozen HQ.out 3; clear hg_ hbox_ hb_) | ((with_reducible refine gate_store (t := 27) (p := 5) rfl ?_); refine store4 ?hg (t := 27) (p := 5) (v := ?vo_13) ?ho ?hd (x0 := .int .i64 0) (x1 := .int .i64 0) (x2 := .int .i64 0) (x3 := .int .i64 0) HQ.out ?hr ?_; (case hd => rfl); (case hg => rfl); (case ho => rfl); (case hr => first | (go_simp; done) | (go_simp; rfl)); intro w3 hbox_ hk_ hb_; have HQ3 := Aside0.mk hbox_; have HP3 := Aside0.mk ((hk_.2 p (blk_lt HP2.out) hpq).trans HP2.out); have HB3 := Aside0.mk (HB2.out.trans (hb_.mono hlq.out)); have c0 := (blk_cell HQ3.out 0).trans rfl; have c1 := (blk_cell HQ3.out 1).trans rfl; have c2 := (blk_cell HQ3.out 2).trans rfl; have c3 := (blk_cell HQ3.out 3).trans rfl; have f0 := blk_frozen HQ3.out 0; have f1 := blk_frozen HQ3.out 1; have d0 := (blk_cell HP3.out 0).trans rfl; have d1 := (blk_cell HP3.out 1).trans rfl; have d2 := (blk_cell HP3.out 2).trans rfl; have d3 := (blk_cell HP3.out 3).trans rfl; have e0 := blk_frozen HP3.out 0; have e1 := blk_frozen HP3.out 1; have e2 := blk_frozen HP3.out 2; have e3 := blk_frozen HP3.out 3;clear hbox_ hk_ hb_) | ((with_reducible refine gate_store (t := 27) (p := 4) rfl ?_); refine store4 ?hg (t := 27) (p := 4) (v := ?vo_14) ?ho ?hd (x0 := .int .i64 0) (x1 := .int .i64 0) (x2 := .int .i64 0) (x3 := .int .i64 0) HP3.out ?hr ?_; (case hd => rfl); (case hg => rfl); (case ho => rfl); (case hr => first | (go_simp; done) | (go_simp; rfl)); intro w4 hbox_ hk_ hb_; have HP4 := Aside0.mk hbox_; have HB4 := Aside0.mk (HB3.out.trans (hb_.mono hlp.out));clear hbox_ hk_ hb_))
      refine bodyPost_ret (results_cell_row rfl _ _ p 27 #[.int .i64 0, .int .i64 0, .int .i64 0, .int .i64 0] (0, 0) _ rfl HP4.out Try.underlying27 rfl (by kernel_rfl)) rfl ?_
      exact ⟨rfl, HB4.out⟩
set_option maxHeartbeats 1600000 in
theorem refsend_any {n c : Nat} {A : Option Addr} {ls : List (List Int)} {o r f a : Int} {out : List Int} {er f' : Int} (w : World) (HR : (Kd.slice 5 (Kd.int .u8)).C w A n ls) (hc : n ≤ c) (hm : ls.length ≤ 1000000)
    (h0 : 0 ≤ f) (h1 : f ≤ o) (h2 : o ≤ 9223372036854775807) (hP : sendP o f ls = (out, er, f')) :
    Calls Try.prog 16 #[.agg #[.int .i64 o, .int .i64 r, .int .i64 f, .int .i64 a], .slice A n c] w fun e w' => ∃ A' c', e = .returned (.tuple #[.agg #[.int .i64 o, .int .i64 r, .int .i64 f', .int .i64 a], .slice A' out.length c', .int .i64 er]) ∧ (Kd.int .u8).R 5 w' w.heap.size (fun _ => True) (.slice A' out.length c') out ∧ Below w.heap.size w w' := by
  have hu27 := Try.underlying27
  have HR' := Aside0.mk HR
  have HPP := Aside0.mk hP
  clear HR hP
  go_enter Try.func16, Try.ntmps16
  go_wp2_with (first | ((with_reducible refine gate_dst (N := 2) rfl ?_); refine box_event ?hg (N := 2) ?hd (cs := #[.int .i64 o, .int .i64 r, .int .i64 f, .int .i64 a]) (t := 27) ?hr ?_; (case hd => rfl); (case hg => rfl); (case hr => first | (go_simp; done) | (go_simp; rfl)); intro p hg_ w1 hbox_ hb_; have HP := Aside0.mk hbox_; have HB := Aside0.mk hb_; have hlp := Aside0.mk (Nat.le_of_eq hg_.symm); clear hg_ hbox_ hb_) | ((with_reducible refine gate_dst (N := 4) rfl ?_); refine box_event ?hg (N := 4) ?hd (cs := #[.int .i64 0, .int .i64 0, .int .i64 0, .int .i64 0]) (t := 27) ?hr ?_; (case hd => rfl); (case hg => rfl); (case hr => first | (go_simp; done) | (go_simp; rfl)); intro q hg_ w2 hbox_ hb_; have HQ := Aside0.mk hbox_; have HB2 := Aside0.mk (below_step HB.out hb_); have HP2 := Aside0.mk (blk_below HP.out hb_); have hpq : p ≠ q := (by rw [hg_]; exact Nat.ne_of_lt (blk_lt HP.out)); have hqp := hpq.symm; have hlq := Aside0.mk (Nat.le_trans HB.out.size (Nat.le_of_eq hg_.symm)); have c0 := (blk_cell HP2.out 0).trans rfl; have f0 := blk_frozen HP2.out 0; have c1 := (blk_cell HP2.out 1).trans rfl; have f1 := blk_frozen HP2.out 1; have c2 := (blk_cell HP2.out 2).trans rfl; have f2 := blk_frozen HP2.out 2; have c3 := (blk_cell HP2.out 3).trans rfl; have f3 := blk_frozen HP2.out 3; have d0 := (blk_cell HQ.out 0).trans rfl; have e0 := blk_frozen HQ.out 0; have d1 := (blk_cell HQ.out 1).trans rfl; have e1 := blk_frozen HQ.out 1; have d2 := (blk_cell HQ.out 2).trans rfl; have e2 := blk_frozen HQ.out 2; have d3 := (blk_cell HQ.out 3).trans rfl; have e3 := blk_frozen HQ.out 3; clear hg_ hbox_ hb_))
  clear c0 c1 c2 c3 f0 f1 f2 f3 d0 d1 d2 d3 e0 e1 e2 e3
  refine (Fr.refwrap_any _ (Kd.C_below HR'.out HB2.out) hc hm).mono ?_
  rintro e w3 ⟨v, rfl, hv, hb⟩
  have hP := HPP.out
  unfold sendP at hP
  have HP3 := Aside0.mk ((hb.block p (blk_lt HP2.out)).trans HP2.out)
  have HQ3 := Aside0.mk ((hb.block q (blk_lt HQ.out)).trans HQ.out)
  have HB3 := Aside0.mk (HB2.out.trans (hb.mono HB2.out.size))
  have Hlt := Aside0.mk (And.intro (blk_lt HP2.out) (blk_lt HQ.out))
  have c0 := (blk_cell HP3.out 0).trans rfl
  have c1 := (blk_cell HP3.out 1).trans rfl
  have c2 := (blk_cell HP3.out 2).trans rfl
  have c3 := (blk_cell HP3.out 3).trans rfl
  have f2 := blk_frozen HP3.out 2
  have d0 := (blk_cell HQ3.out 0).trans rfl
  have d1 := (blk_cell HQ3.out 1).trans rfl
  have d2 := (blk_cell HQ3.out 2).trans rfl
  have d3 := (blk_cell HQ3.out 3).trans rfl
  have e0 := blk_frozen HQ3.out 0
  have e1 := blk_frozen HQ3.out 1
  have e2 := blk_frozen HQ3.out 2
  have e3 := blk_frozen HQ3.out 3
  by_cases hok : Fr.wrapOk ls = true
  · rw [if_pos hok] at hv hP
    rw [hok]
    obtain ⟨L, hL⟩ : ∃ L, L = Fr.wrapL ls := ⟨_, rfl⟩
    rw [← hL] at hv hP
    obtain ⟨A1, cc1, rfl⟩ := Kd.R_slice hv
    have HV := Aside0.mk hv
    obtain ⟨m1, hm1⟩ : ∃ m1, m1 = L.length := ⟨_, rfl⟩
    have Hm1 := Aside0.mk hm1
    have hml : m1 ≤ 9223372036854775807 := by
      have := (R_C hv).2.1
      omega
    rw [← hm1] at hP ⊢
    by_cases hr : (m1 : Int) ≤ o - f
    · rw [if_pos hr] at hP
      injection hP with e1' hP
      injection hP with e2' e3'
      subst e1' e2' e3'
      clear hok hL hv hb hm1
      have g1 : decide (o - f < (m1 : Int)) = false := by simp; omega
      go_wp2_with (first | ((with_reducible refine gate_store (t := 27) (p := 4) rfl ?_); refine store4 ?hg (t := 27) (p := 4) (v := ?vo_15) ?ho ?hd (x0 := .int .i64 o) (x1 := .int .i64 r) (x2 := .int .i64 (f + m1)) (x3 := .int .i64 a) (blk_far (p := ⟨p, 2, none⟩) HQ3.out hqp _) ?hr ?_; (case hd => rfl); (case hg => rfl); (case ho => rfl); (case hr => first | (go_simp; done) | (go_simp; rfl)); intro w4 hbox_ hk_ hb_; have HQ4 := Aside0.mk hbox_; have HB4 := Aside0.mk ((HB3.out.setCell (p := ⟨p, 2, none⟩) hlp.out _).trans (hb_.mono hlq.out)); have HK4 := Aside0.mk hk_;clear hbox_ hk_ hb_))
      refine bodyPost_ret (results_ctt rfl _ _ q 27 #[.int .i64 o, .int .i64 r, .int .i64 (f + m1), .int .i64 a] (0, 0) _ rfl HQ4.out Try.underlying27 rfl (by kernel_rfl)) rfl ?_
      refine ⟨A1, cc1, by rw [Hm1.out]; rfl, ?_, HB4.out⟩
      refine Kd.R_lower (base := w2.heap.size) (Kd.R_mono (ok := fun k => k ≠ p ∧ k ≠ q) (Kd.R_step (Kd.R_mono (Kd.R_bound HV.out) (fun k hk => ?_)) (fun k hk hlt => ?_)) (fun _ _ => trivial)) HB2.out.size
      · have := hk.2.1
        have := Hlt.out
        exact ⟨by omega, by omega⟩
      · refine (HK4.out.2 k ?_ hk.2).trans (Below.heap_setCell _ _ _ k hk.1)
        simpa using hlt
    · rw [if_neg hr] at hP
      injection hP with e1' hP
      injection hP with e2' e3'
      subst e1' e2' e3'
      clear hok hL hv hb hm1
      have g1 : decide (o - f < (m1 : Int)) = true := by simp; omega
      go_wp2_with (first | ((with_reducible refine gate_store (t := 27) (p := 4) rfl ?_); refine store4 ?hg (t := 27) (p := 4) (v := ?vo_16) ?ho ?hd (x0 := .int .i64 o) (x1 := .int .i64 r) (x2 := .int .i64 f) (x3 := .int .i64 a) HQ3.out ?hr ?_; (case hd => rfl); (case hg => rfl); (case ho => rfl); (case hr => first | (go_simp; done) | (go_simp; rfl)); intro w4 hbox_ hk_ hb_; have HQ4 := Aside0.mk hbox_; have HB4 := Aside0.mk (HB3.out.trans (hb_.mono hlq.out)); have HK4 := Aside0.mk hk_;clear hbox_ hk_ hb_))
      refine bodyPost_ret (results_ctt rfl _ _ q 27 #[.int .i64 o, .int .i64 r, .int .i64 f, .int .i64 a] (0, 0) _ rfl HQ4.out Try.underlying27 rfl (by kernel_rfl)) rfl ?_
      exact ⟨none, 0, rfl, Kd.R_nil _ _ _ _ _, HB4.out⟩
  · rw [if_neg hok] at hv hP
    rw [show Fr.wrapOk ls = false from by simpa using hok]
    injection hP with e1' hP
    injection hP with e2' e3'
    subst e1' e2' e3'
    obtain ⟨A1, cc1, rfl⟩ := Kd.R_slice hv
    clear hok hv hb
    go_wp2_with (first | ((with_reducible refine gate_store (t := 27) (p := 4) rfl ?_); refine store4 ?hg (t := 27) (p := 4) (v := ?vo_17) ?ho ?hd (x0 := .int .i64 o) (x1 := .int .i64 r) (x2 := .int .i64 f) (x3 := .int .i64 a) HQ3.out ?hr ?_; (case hd => rfl); (case hg => rfl); (case ho => rfl); (case hr => first | (go_simp; done) | (go_simp; rfl)); intro w4 hbox_ hk_ hb_; have HQ4 := Aside0.mk hbox_; have HB4 := Aside0.mk (HB3.out.trans (hb_.mono hlq.out)); have HK4 := Aside0.mk hk_;clear hbox_ hk_ hb_))
    refine bodyPost_ret (results_ctt rfl _ _ q 27 #[.int .i64 o, .int .i64 r, .int .i64 f, .int .i64 a] (0, 0) _ rfl HQ4.out Try.underlying27 rfl (by kernel_rfl)) rfl ?_
    exact ⟨none, 0, rfl, Kd.R_nil _ _ _ _ _, HB4.out⟩
end Go.Proofs.Ytgblihndkhiddaa.Ou
