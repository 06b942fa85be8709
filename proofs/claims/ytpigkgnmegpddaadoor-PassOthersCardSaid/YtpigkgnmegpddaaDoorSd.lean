/-
One block: sha.Step.
-/
import Derived.Test.YtpigkgnmegpddaaDoorSc
import Derived.Laws.CopyOwn
import Derived.Deep.RegionLaw
namespace Go.Proofs.YtpigkgnmegpddaaDoor.Sh
set_option linter.unusedVariables false
set_option linter.unusedSimpArgs false
open Go.RowKit Go.Proofs.YtpigkgnmegpddaaDoorW.PrintWords Go.Proofs.YtpigkgnmegpddaaDoorW.PrintLast Go.Proofs.YtpigkgnmegpddaaDoorW.PrintMore

/-- The two tables, where the program keeps them. -/
def Tabs (W : World) : Prop := (∀ i, i < 64 → W.cell? ⟨0, i, none⟩ = some (.int .u32 (num (Kw i)))) ∧ (∀ i, i < 8 → W.cell? ⟨1, i, none⟩ = some (.int .u32 (num (first.list.getD i 0)))) ∧ 2 ≤ W.heap.size
theorem Tabs.below {W W' : World} (h : Tabs W) (hb : Below W.heap.size W W') : Tabs W' := by
  have h2 := h.2.2
  refine ⟨fun i hi => ?_, fun i hi => ?_, Nat.le_trans h2 hb.size⟩
  · rw [← h.1 i hi]
    simp only [World.cell?, hb.block 0 (by omega)]
  · rw [← h.2.1 i hi]
    simp only [World.cell?, hb.block 1 (by omega)]
theorem size23 {ws : List Wd} (h : ws.length = 8) : (Tryd.prog.info? 23).map (·.size) = some (v32 ws).size := by
  rw [v32_size, h]
  kernel_rfl
theorem size24 {l : List Int} (h : l.length = 64) : (Tryd.prog.info? 24).map (·.size) = some (v8 l).size := by
  rw [v8_size, h]
  kernel_rfl
/-- The memory while Step works. -/
structure Sw (w wr : World) (s : S8) (l : List Int) (g2 g4 g5 g6 : Nat) (v : S8) : Prop where
  b2 : B32 wr g2 23 s.list
  b4 : B32 wr g4 23 (List.replicate 8 0)
  b5 : B32 wr g5 85 (rows l)
  b6 : B32 wr g6 23 v.list
  h2 : w.heap.size ≤ g2
  h4 : w.heap.size ≤ g4
  h6 : w.heap.size ≤ g6
  n26 : g2 < g6
  n46 : g4 < g6
  n56 : g5 < g6
  n24 : g2 ≠ g4
  bel : Below w.heap.size w wr
def vals7 (a b c d e f g : Wd) : List Value := [a, b, c, d, e, f, g].map fun x => Value.int .u32 (num x)
def vals8 (a b c d e f g h : Wd) : List Value := [a, b, c, d, e, f, g, h].map fun x => Value.int .u32 (num x)
/-- The memory while the eight sums are made. -/
structure Sx (w wr : World) (g2 g4 g6 : Nat) (ws : List Wd) (v : S8) : Prop where
  b2 : B32 wr g2 23 ws
  b4 : B32 wr g4 23 (List.replicate 8 0)
  b6 : B32 wr g6 23 v.list
  h2 : w.heap.size ≤ g2
  h4 : w.heap.size ≤ g4
  n26 : g2 < g6
  n24 : g2 ≠ g4
  bel : Below w.heap.size w wr
theorem Sx.set {w wr : World} {g2 g4 g6 : Nat} {ws : List Wd} {v : S8} (h : Sx w wr g2 g4 g6 ws v) (i : Nat) (x : Wd) : Sx w (wr.setCell ⟨g2, i, none⟩ (.int .u32 (num x))) g2 g4 g6 (ws.set i x) v :=
  ⟨h.b2.set i x, blk_far (p := ⟨g2, i, none⟩) h.b4 (Ne.symm h.n24) _, blk_far (p := ⟨g2, i, none⟩) h.b6 (Nat.ne_of_gt h.n26) _, h.h2, h.h4, h.n26, h.n24, h.bel.setCell (p := ⟨g2, i, none⟩) h.h2 _⟩
theorem Sx.drew {w wr : World} {g2 g4 g6 : Nat} {ws : List Wd} {v : S8} (h : Sx w wr g2 g4 g6 ws v) : Sx w wr.drew g2 g4 g6 ws v :=
  ⟨h.b2, h.b4, h.b6, h.h2, h.h4, h.n26, h.n24, below_drew h.bel⟩
theorem vals_one (a b c d e f g : Wd) : ∀ v ∈ vals7 a b c d e f g, v.oneCell' = true := by
  intro v hv
  simp only [vals7, List.mem_map] at hv
  obtain ⟨x, _, rfl⟩ := hv
  rfl
theorem vals_cells {W : World} {p : Nat} {t : TypeId} {a b c d e f g h : Wd} (hb : B32 W p t (S8.list ⟨a, b, c, d, e, f, g, h⟩)) : ∀ j v, (vals7 a b c d e f g)[j]? = some v → W.cell? ((⟨p, 0, none⟩ : Addr).add j) = some v := by
  intro j v hv
  rw [add_plain]
  match j, hv with
  | 0, hv => exact (hb.get 0 (by simp [S8.list])).trans hv
  | 1, hv => exact (hb.get 1 (by simp [S8.list])).trans hv
  | 2, hv => exact (hb.get 2 (by simp [S8.list])).trans hv
  | 3, hv => exact (hb.get 3 (by simp [S8.list])).trans hv
  | 4, hv => exact (hb.get 4 (by simp [S8.list])).trans hv
  | 5, hv => exact (hb.get 5 (by simp [S8.list])).trans hv
  | 6, hv => exact (hb.get 6 (by simp [S8.list])).trans hv
  | j + 7, hv => simp [vals7] at hv
theorem info22 : (Tryd.prog.info? 22).map (·.size) = some 1 := by kernel_rfl
theorem not_num (x : Wd) : Go.bits .xor .u32 IntKind.u32.max (num x) = num (~~~x) := by
  have h : (IntKind.u32.max : Int) = num 4294967295#32 := rfl
  rw [h, bits_xor]
  rw [show (4294967295#32 : Wd) ^^^ x = ~~~x from (BitVec.xor_comm _ _).trans (BitVec.xor_allOnes (x := x))]
theorem Sw.drewN {w wr : World} {s : S8} {l : List Int} {g2 g4 g5 g6 : Nat} {v : S8} (h : Sw w wr s l g2 g4 g5 g6 v) (m : Nat) : Sw w (wr.drewN m) s l g2 g4 g5 g6 v :=
  ⟨h.b2, h.b4, h.b5, h.b6, h.h2, h.h4, h.h6, h.n26, h.n46, h.n56, h.n24, pw_below_drewN h.bel m⟩
theorem Sw.below {w wr w' : World} {s : S8} {l : List Int} {g2 g4 g5 g6 : Nat} {v : S8} (h : Sw w wr s l g2 g4 g5 g6 v) (hb : Below wr.heap.size wr w') : Sw w w' s l g2 g4 g5 g6 v :=
  ⟨(hb.block g2 (blk_lt h.b2)).trans h.b2, (hb.block g4 (blk_lt h.b4)).trans h.b4, (hb.block g5 (blk_lt h.b5)).trans h.b5, (hb.block g6 (blk_lt h.b6)).trans h.b6, h.h2, h.h4, h.h6, h.n26, h.n46, h.n56, h.n24, h.bel.trans (hb.mono h.bel.size)⟩
/-- The eight words turn to others. -/
theorem Sw.to {w wr w' : World} {s : S8} {l : List Int} {g2 g4 g5 g6 : Nat} {v v' : S8} (h : Sw w wr s l g2 g4 g5 g6 v) (hb : Below g6 wr w') (h6 : B32 w' g6 23 v'.list) : Sw w w' s l g2 g4 g5 g6 v' :=
  ⟨(hb.block g2 h.n26).trans h.b2, (hb.block g4 h.n46).trans h.b4, (hb.block g5 h.n56).trans h.b5, h6, h.h2, h.h4, h.h6, h.n26, h.n46, h.n56, h.n24, h.bel.trans (hb.mono h.h6)⟩

set_option maxRecDepth 100000 in
set_option maxHeartbeats 1000000 in
theorem step_any (s : S8) (l : List Int) (hl : l.length = 64) (hby : ∀ x ∈ l, 0 ≤ x ∧ x ≤ 255) (w : World) (hT : Tabs w) :
    Calls Tryd.prog 21 #[.agg (v32 s.list), .agg (v8 l)] w fun e w' => e = .returned (.agg (v32 (step s l).list)) ∧ Below w.heap.size w w' := by
  have hu23 := Tryd.underlying23
  have hu24 := Tryd.underlying24
  have hu85 := Tryd.underlying85
  go_enter Tryd.func21, Tryd.ntmps21
  go_wp2_with (first | ((with_reducible refine gate_dst (N := 2) rfl ?_); refine box_event ?hg (N := 2) ?hd (cs := v32 s.list) (t := 23) ?hr ?_; (case hd => rfl); (case hg => rfl); (case hr => first | (go_simp; done) | (go_simp; rfl)); intro g2 hg_ w1 hbox_ hb_; have H2 := Aside0.mk hbox_; have HB := Aside0.mk hb_; have K2 := Aside0.mk (show w.heap.size ≤ g2 from Nat.le_of_eq hg_.symm);clear hg_ hbox_ hb_) | ((with_reducible refine gate_dst (N := 3) rfl ?_); refine box_event ?hg (N := 3) ?hd (cs := v8 l) (t := 24) ?hr ?_; (case hd => rfl); (case hg => rfl); (case hr => first | (go_simp; done) | (go_simp; rfl)); intro g3 hg_ w2 hbox_ hb_; have H3 := Aside0.mk hbox_; have H22 := Aside0.mk (blk_below H2.out hb_); have HB2 := Aside0.mk (below_step HB.out hb_);clear hg_ hbox_ hb_) | ((with_reducible refine gate_dst (N := 4) rfl ?_); refine box_event ?hg (N := 4) ?hd (cs := v32 (List.replicate 8 0)) (t := 23) ?hr ?_; (case hd => rfl); (case hg => rfl); (case hr => first | (go_simp; done) | (go_simp; rfl)); intro g4 hg_ w3 hbox_ hb_; have H4 := Aside0.mk hbox_; have H23 := Aside0.mk (blk_below H22.out hb_); have H33 := Aside0.mk (blk_below H3.out hb_); have HB3 := Aside0.mk (below_step HB2.out hb_); have K4 := Aside0.mk (show w.heap.size ≤ g4 ∧ g2 ≠ g4 from by rw [hg_]; exact ⟨HB2.out.size, Nat.ne_of_lt (blk_lt H22.out)⟩);clear hg_ hbox_ hb_) | ((with_reducible refine gate_dst (N := 17) rfl ?_); refine wpList_load_row rfl 24 (.tmp 3) rfl g3 rfl 24 (v8 l) (0, 0) _ H33.out hu24 rfl (size24 hl) ?_))
  refine (row_any l hl hby _).mono ?_
  rintro e w4 ⟨rfl, hb4⟩
  have H24 := Aside0.mk (blk_below H23.out hb4)
  have H44 := Aside0.mk (blk_below H4.out hb4)
  have HB4 := Aside0.mk (below_step HB3.out hb4)
  clear H2 H22 H23 H3 H33 H4 HB HB2 HB3 hb4
  go_wp2_with (first | ((with_reducible refine gate_dst (N := 5) rfl ?_); refine box_event ?hg (N := 5) ?hd (cs := v32 (List.replicate 64 0)) (t := 85) ?hr ?_; (case hd => rfl); (case hg => rfl); (case hr => first | (go_simp; done) | (go_simp; rfl)); intro g5 hg_ w5 hbox_ hb_; have H5 := Aside0.mk hbox_; have H25 := Aside0.mk (blk_below H24.out hb_); have H45 := Aside0.mk (blk_below H44.out hb_); have HB5 := Aside0.mk (below_step HB4.out hb_); have K5 := Aside0.mk (show w.heap.size ≤ g5 ∧ g2 ≠ g5 ∧ g4 ≠ g5 from by rw [hg_]; exact ⟨HB4.out.size, Nat.ne_of_lt (blk_lt H24.out), Nat.ne_of_lt (blk_lt H44.out)⟩);clear hg_ hbox_ hb_) | ((with_reducible refine gate_store (t := 85) (p := 5) rfl ?_); refine store_row ?hg (ty := 85) (p := 5) (v := ?vr_1) ?ho ?hd (g := g5) (t := 85) (old := v32 (List.replicate 64 0)) (cells := v32 (rows l)) ?hx ?hy H5.out (size85 (rows_length l)) (by rw [v32_size, v32_size, rows_length, List.length_replicate]) (v32_one _) ?_; (case hd => rfl); (case hg => rfl); (case ho => rfl); (case hx => rfl); (case hy => rfl); intro w6 hbox_ hk_ hb_; have H56 := Aside0.mk hbox_; have H26 := Aside0.mk ((hk_.2 g2 (blk_lt H25.out) K5.out.2.1).trans H25.out); have H46 := Aside0.mk ((hk_.2 g4 (blk_lt H45.out) K5.out.2.2).trans H45.out); have HB6 := Aside0.mk (HB5.out.trans (hb_.mono K5.out.1));clear hbox_ hk_ hb_) | ((with_reducible refine gate_dst (N := 19) rfl ?_); refine wpList_load_row rfl 23 (.tmp 2) rfl g2 rfl 23 (v32 s.list) (0, 0) _ H26.out hu23 rfl (size23 rfl) ?_) | ((with_reducible refine gate_dst (N := 6) rfl ?_); refine box_event ?hg (N := 6) ?hd (cs := v32 (List.replicate 8 0)) (t := 23) ?hr ?_; (case hd => rfl); (case hg => rfl); (case hr => first | (go_simp; done) | (go_simp; rfl)); intro g6 hg_ w7 hbox_ hb_; have H6 := Aside0.mk hbox_; have H27 := Aside0.mk (blk_below H26.out hb_); have H47 := Aside0.mk (blk_below H46.out hb_); have H57 := Aside0.mk (blk_below H56.out hb_); have HB7 := Aside0.mk (below_step HB6.out hb_); have K6 := Aside0.mk (show w.heap.size ≤ g6 ∧ g2 < g6 ∧ g4 < g6 ∧ g5 < g6 from by rw [hg_]; exact ⟨HB6.out.size, blk_lt H26.out, blk_lt H46.out, blk_lt H56.out⟩);clear hg_ hbox_ hb_) | ((with_reducible refine gate_store (t := 23) (p := 6) rfl ?_); refine store_row ?hg (ty := 23) (p := 6) (v := ?vr_2) ?ho ?hd (g := g6) (t := 23) (old := v32 (List.replicate 8 0)) (cells := v32 s.list) ?hx ?hy H6.out (size23 rfl) rfl (v32_one _) ?_; (case hd => rfl); (case hg => rfl); (case ho => rfl); (case hx => rfl); (case hy => rfl); intro w8 hbox_ hk_ hb_; have HS := Aside0.mk (show Sw w w8 s l g2 g4 g5 g6 s from ⟨(hb_.block g2 K6.out.2.1).trans H27.out, (hb_.block g4 K6.out.2.2.1).trans H47.out, (hb_.block g5 K6.out.2.2.2).trans H57.out, hbox_, K2.out, K4.out.1, K6.out.1, K6.out.2.1, K6.out.2.2.1, K6.out.2.2.2, K4.out.2, HB7.out.trans (hb_.mono K6.out.1)⟩);clear hbox_ hk_ hb_))
  clear H24 H44 HB4 H5 H25 H45 HB5 K5 H56 H26 H46 HB6 H6 H27 H47 H57 HB7 K6 K2 K4
  go_loopg [20] 64 (fun gk iv wr => ∃ i : Nat, i + gk = 64 ∧ iv = .int .i64 i ∧ Aside0 (Sw w wr s l g2 g4 g5 g6 (rounds s (rows l) i)))
  case atStart => exact ⟨0, by omega, rfl, HS⟩
  case round =>
    clear HS
    obtain ⟨i, hi, rfl, HS⟩ := hrel
    by_cases hlt : i < 64
    · obtain ⟨gq, rfl⟩ : ∃ gq, gk = gq + 1 := ⟨gk - 1, by omega⟩
      obtain ⟨wo, hwo⟩ : ∃ wo, wo = wr := ⟨_, rfl⟩
      subst hwo
      obtain ⟨v, hv⟩ : ∃ v, v = rounds s (rows l) i := ⟨_, rfl⟩
      have Hv := Aside0.mk hv
      rw [← hv] at HS
      clear hv
      obtain ⟨va, vb, vc, vd, ve, vf, vg, vh⟩ := v
      have c0 : wo.cell? ⟨g6, 0, none⟩ = some (.int .u32 (num va)) := HS.out.b6.get 0 (by simp [S8.list])
      have c1 : wo.cell? ⟨g6, 1, none⟩ = some (.int .u32 (num vb)) := HS.out.b6.get 1 (by simp [S8.list])
      have c2 : wo.cell? ⟨g6, 2, none⟩ = some (.int .u32 (num vc)) := HS.out.b6.get 2 (by simp [S8.list])
      have c4 : wo.cell? ⟨g6, 4, none⟩ = some (.int .u32 (num ve)) := HS.out.b6.get 4 (by simp [S8.list])
      have c5 : wo.cell? ⟨g6, 5, none⟩ = some (.int .u32 (num vf)) := HS.out.b6.get 5 (by simp [S8.list])
      have c6 : wo.cell? ⟨g6, 6, none⟩ = some (.int .u32 (num vg)) := HS.out.b6.get 6 (by simp [S8.list])
      have c7 : wo.cell? ⟨g6, 7, none⟩ = some (.int .u32 (num vh)) := HS.out.b6.get 7 (by simp [S8.list])
      go_wp2_with fail
      go_quiet (fail)
      clear c0 c1 c2 c4 c5 c6
      have HS1 := Aside0.mk (HS.out.drewN nq)
      obtain ⟨w1, hw1⟩ : ∃ w1, w1 = wo.drewN nq := ⟨_, rfl⟩
      replace c7 : w1.cell? ⟨g6, 7, none⟩ = some (.int .u32 (num vh)) := by rw [hw1]; exact c7
      rw [← hw1] at HS1 ⊢
      clear hw1 HS
      have cK : w1.cell? ⟨0, i, none⟩ = some (.int .u32 (num (Kw i))) := (hT.below HS1.out.bel).1 i hlt
      have cW : w1.cell? ⟨g5, i, none⟩ = some (.int .u32 (num ((rows l).getD i 0))) := HS1.out.b5.get i (by rw [rows_length]; exact hlt)
      obtain ⟨wd, hwd⟩ : ∃ wd, wd = (rows l).getD i 0 := ⟨_, rfl⟩
      have Hwd := Aside0.mk hwd
      rw [← hwd] at cW
      clear hwd
      have p1 : (0 : Int) ≤ (i : Int) := by omega
      have p2 : (i : Int) < 64 := by omega
      have hlc7 := World.block_lt_of_cell? _ _ c7
      have hlcK := World.block_lt_of_cell? _ _ cK
      have hlcW := World.block_lt_of_cell? _ _ cW
      go_wp2_with fail
      go_region_held3 (fun w' => w'.cell? ⟨g6, 7, none⟩ = some (.int .u32 (num vh)) ∧ w'.cell? ⟨0, i, none⟩ = some (.int .u32 (num (Kw i))) ∧ w'.cell? ⟨g5, i, none⟩ = some (.int .u32 (num wd))) (first | go_keep) ((first | (go_at_call 51; refine (turned_three ve 6 11 25 (by decide) (by decide) (by decide) _ (by exact heap_alloc_new w1 _)).mono ?_; rintro e w' ⟨rfl, rfl⟩)))
      simp only [not_num, add_num, bits_and, bits_xor]
      obtain ⟨x, hx⟩ : ∃ x, x = tx ⟨va, vb, vc, vd, ve, vf, vg, vh⟩ (Kw i) wd := ⟨_, rfl⟩
      have hx2 : vh + (rotr ve 6 ^^^ rotr ve 11 ^^^ rotr ve 25) + (ve &&& vf ^^^ ~~~ve &&& vg) + Kw i + wd = x := hx.symm
      rw [hx2]
      have Hx := Aside0.mk hx
      have HS2 := Aside0.mk ((HS1.out.below (below_alloc (Below.refl _ _) (.cells #[.int .i64 6, .int .i64 11, .int .i64 25] 3))).drewN 1)
      obtain ⟨w2, hw2⟩ : ∃ w2, w2 = (w1.alloc (.cells #[.int .i64 6, .int .i64 11, .int .i64 25] 3)).drew := ⟨_, rfl⟩
      replace HS2 : Aside0 (Sw w w2 s l g2 g4 g5 g6 ⟨va, vb, vc, vd, ve, vf, vg, vh⟩) := ⟨by rw [hw2]; exact HS2.out⟩
      rw [← hw2]
      clear hw2 HS1 hx hx2 cK cW c7 hlc7 hlcK hlcW
      go_wp2_with fail
      refine (turned_three va 2 13 22 (by decide) (by decide) (by decide) _ (by exact heap_alloc_new w2 _)).mono ?_
      rintro e w' ⟨rfl, rfl⟩
      have HS3 := Aside0.mk (HS2.out.below (below_alloc (Below.refl _ _) (.cells #[.int .i64 2, .int .i64 13, .int .i64 22] 3)))
      obtain ⟨w3, hw3⟩ : ∃ w3, w3 = w2.alloc (.cells #[.int .i64 2, .int .i64 13, .int .i64 22] 3) := ⟨_, rfl⟩
      rw [← hw3] at HS3 ⊢
      clear hw3 HS2
      go_wp2_with fail
      simp only [add2, bits_and, bits_xor]
      obtain ⟨y, hy⟩ : ∃ y, y = ty ⟨va, vb, vc, vd, ve, vf, vg, vh⟩ := ⟨_, rfl⟩
      have hy2 : (rotr va 2 ^^^ rotr va 13 ^^^ rotr va 22) + (va &&& vb ^^^ va &&& vc ^^^ vb &&& vc) = y := hy.symm
      rw [hy2]
      have Hy := Aside0.mk hy
      clear hy hy2
      go_region_law (refine step_copy_splice rfl (.tmp 73) (.tmp 74) 88 88 rfl 22 Tryd.underlying88 info22 (some ⟨g6, 1, none⟩) (some ⟨g6, 0, none⟩) 7 7 7 8 rfl rfl g6 1 (vals8 va vb vc vd ve vf vg vh) 23 HS3.out.b6 (vals7 va vb vc vd ve vf vg) rfl (fun _ => ⟨rfl, _, rfl, vals_cells HS3.out.b6⟩) (by simp [vals7, vals8]) (vals_one va vb vc vd ve vf vg) g6 w3 (below_drew (Below.refl _ _)) (Nat.le_refl _) ?_; intro w4 h4 hb4; have H4 := Aside0.mk (show B32 w4 g6 23 [va, va, vb, vc, vd, ve, vf, vg] from h4.out); have HB4 := Aside0.mk hb4; clear h4 hb4)
      have d4 : w4.cell? ⟨g6, 4, none⟩ = some (.int .u32 (num vd)) := H4.out.get 4 (by simp)
      have e4 := H4.out.fz 4
      have d0 : w4.cell? ⟨g6, 0, none⟩ = some (.int .u32 (num va)) := H4.out.get 0 (by simp)
      have e0 := H4.out.fz 0
      go_wp2_with fail
      simp only [add2]
      have H6 := Aside0.mk ((H4.out.set 4 (vd + x)).set 0 (x + y))
      have HB6 := Aside0.mk ((HB4.out.setCell (p := ⟨g6, 4, none⟩) (Nat.le_refl _) (.int .u32 (num (vd + x)))).setCell (p := ⟨g6, 0, none⟩) (Nat.le_refl _) (.int .u32 (num (x + y))))
      go_roundg gq
      case measure => omega
      case rel =>
        refine ⟨i + 1, by omega, by go_num, ⟨?_⟩⟩
        have hr : rounds s (rows l) (i + 1) = ⟨x + y, va, vb, vc, vd + x, ve, vf, vg⟩ := by
          show rnd (rounds s (rows l) i) (Kw i) ((rows l).getD i 0) = _
          rw [← Hv.out, ← Hwd.out, Hx.out, Hy.out]
          rfl
        rw [hr]
        exact HS3.out.to HB6.out H6.out
    · have hi64 : i = 64 := by omega
      subst hi64
      obtain ⟨v, hv⟩ : ∃ v, v = rounds s (rows l) 64 := ⟨_, rfl⟩
      have Hv := Aside0.mk hv
      rw [← hv] at HS
      clear hv
      have HX : Aside0 (Sx w wr g2 g4 g6 s.list v) := ⟨⟨HS.out.b2, HS.out.b4, HS.out.b6, HS.out.h2, HS.out.h4, HS.out.n26, HS.out.n24, HS.out.bel⟩⟩
      clear HS
      go_wp2_with fail
      go_loopg [86] 8 (fun gk iv wr => ∃ (i : Nat) (ws : List Wd), i + gk = 8 ∧ iv = .int .i64 i ∧ Aside0 (Sx w wr g2 g4 g6 ws v) ∧ Aside0 (ws.length = 8 ∧ ∀ j, j < 8 → ws.getD j 0 = if j < i then s.list.getD j 0 + v.list.getD j 0 else s.list.getD j 0))
      case atStart => exact ⟨0, _, by omega, rfl, HX, ⟨rfl, fun j hj => by rw [if_neg (by omega)]⟩⟩
      case round =>
        clear HX
        obtain ⟨i, ws, hi, rfl, HX, HV⟩ := hrel
        by_cases hlt8 : i < 8
        · obtain ⟨gq, rfl⟩ : ∃ gq, gk = gq + 1 := ⟨gk - 1, by omega⟩
          have hx2 := HX.out.b2.get i (by rw [HV.out.1]; exact hlt8)
          have hx6 := HX.out.b6.get i hlt8
          have hfz := HX.out.b2.fz i
          rw [HV.out.2 i hlt8, if_neg (by omega)] at hx2
          obtain ⟨si, hsi⟩ : ∃ x, x = s.list.getD i 0 := ⟨_, rfl⟩
          obtain ⟨vi, hvi⟩ : ∃ x, x = v.list.getD i 0 := ⟨_, rfl⟩
          rw [← hsi] at hx2
          rw [← hvi] at hx6
          have Hsi := Aside0.mk hsi
          have Hvi := Aside0.mk hvi
          clear hsi hvi
          have p1 : (0 : Int) ≤ (i : Int) := by omega
          have p2 : (i : Int) < 8 := by omega
          go_wp2_with fail
          go_region
          simp only [add2]
          have HX2 := Aside0.mk ((HX.out.set i (si + vi)).drew)
          have HV2 : Aside0 ((ws.set i (si + vi)).length = 8 ∧ ∀ j, j < 8 → (ws.set i (si + vi)).getD j 0 = if j < i + 1 then s.list.getD j 0 + v.list.getD j 0 else s.list.getD j 0) := ⟨by
            refine ⟨by rw [List.length_set]; exact HV.out.1, fun j hj => ?_⟩
            have hlen := HV.out.1
            by_cases hji : j = i
            · subst hji
              rw [List.getD_eq_getElem?_getD, List.getElem?_set_self (by omega), Option.getD_some, if_pos (by omega), Hsi.out, Hvi.out]
            · rw [List.getD_eq_getElem?_getD, List.getElem?_set_ne (by omega), ← List.getD_eq_getElem?_getD, HV.out.2 j hj]
              by_cases h : j < i
              · rw [if_pos h, if_pos (by omega)]
              · rw [if_neg h, if_neg (by omega)]⟩
          clear HX HV hx2 hx6 hfz
          go_wp2_with fail
          go_roundg gq
          case measure => omega
          case rel => exact ⟨i + 1, _, by omega, by go_num, HX2, HV2⟩
        · have hi8 : i = 8 := by omega
          subst hi8
          have hws : ws = (step s l).list := by
            have hst : step s l = s.add v := by rw [Hv.out]; unfold step rows; rfl
            rw [hst]
            apply List.ext_getElem
            · rw [HV.out.1]; rfl
            · intro j h1 h2
              have hj : j < 8 := by rw [HV.out.1] at h1; exact h1
              have h3 := HV.out.2 j hj
              rw [if_pos hj, List.getD_eq_getElem?_getD, List.getElem?_eq_getElem h1, Option.getD_some] at h3
              rw [h3]
              match j, hj with
              | 0, _ => rfl
              | 1, _ => rfl
              | 2, _ => rfl
              | 3, _ => rfl
              | 4, _ => rfl
              | 5, _ => rfl
              | 6, _ => rfl
              | 7, _ => rfl
          subst hws
          obtain ⟨q, hq⟩ : ∃ q, q = step s l := ⟨_, rfl⟩
          rw [← hq] at HX
          have Hq := Aside0.mk hq
          clear HV hq
          go_wp2_with (first | ((with_reducible refine gate_dst (N := 98) rfl ?_); refine wpList_load_row rfl 23 (.tmp 2) rfl g2 rfl 23 (v32 q.list) (0, 0) _ HX.out.b2 hu23 rfl (size23 rfl) ?_) | ((with_reducible refine gate_store (t := 23) (p := 4) rfl ?_); refine store_row ?hg (ty := 23) (p := 4) (v := ?vr_3) ?ho ?hd (g := g4) (t := 23) (old := v32 (List.replicate 8 0)) (cells := v32 q.list) ?hx ?hy HX.out.b4 (size23 rfl) rfl (v32_one _) ?_; (case hd => rfl); (case hg => rfl); (case ho => rfl); (case hx => rfl); (case hy => rfl); intro w9 hbox_ hk_ hb_; have HR9 := Aside0.mk hbox_; have HB9 := Aside0.mk (HX.out.bel.trans (hb_.mono HX.out.h4));clear hbox_ hk_ hb_))
          refine bodyPost_ret (results_cell_row rfl _ _ g4 23 (v32 q.list) (0, 0) _ rfl HR9.out Tryd.underlying23 rfl (size23 rfl)) rfl ?_
          exact ⟨by rw [Hq.out], HB9.out⟩
end Go.Proofs.YtpigkgnmegpddaaDoor.Sh
