/-
PassOthers, walked.
-/
import Derived.Test.YtpigkgnmegpddaaDoorPu
namespace Go.Proofs.YtpigkgnmegpddaaDoor.Sh
set_option linter.unusedVariables false
set_option linter.unusedSimpArgs false
open Go.RowKit Go.Proofs.YtpigkgnmegpddaaDoorW.PrintWords Go.Proofs.YtpigkgnmegpddaaDoorW.PrintLast Go.Proofs.YtpigkgnmegpddaaDoorW.PrintMore

/-- Bytes in a block of their own, cell by cell. -/
def Bcl (W : World) (g : Nat) (l : List Int) : Prop := (∀ j, j < l.length → W.cell? ⟨g, j, none⟩ = some (.int .u8 (l.getD j 0)) ∧ W.frozen? ⟨g, j, none⟩ = false) ∧ g < W.heap.size ∧ l.length ≤ 1000
theorem Bcl.C {W : World} {g : Nat} {l : List Int} (h : Bcl W g l) : (Kd.int .u8).C W (some ⟨g, 0, none⟩) l.length l :=
  Kd.C_of_reads ⟨rfl, Nat.le_trans h.2.2 (by decide), fun _ => ⟨_, rfl, fun j hj => by rw [add_plain]; exact (h.1 j hj).1⟩⟩
theorem Bcl.below {W W' : World} {g : Nat} {l : List Int} (h : Bcl W g l) (hb : Below W.heap.size W W') : Bcl W' g l :=
  ⟨fun j hj => ⟨(hb.cell (p := ⟨g, j, none⟩) h.2.1).trans (h.1 j hj).1, (hb.frozen (p := ⟨g, j, none⟩) h.2.1).trans (h.1 j hj).2⟩, Nat.lt_of_lt_of_le h.2.1 hb.size, h.2.2⟩
theorem Bcl.set {W : World} {g : Nat} {l : List Int} (h : Bcl W g l) (q : Nat) (x : Int) (hq : q < l.length) : Bcl (W.setCell ⟨g, q, none⟩ (.int .u8 x)) g (l.set q x) := by
  refine ⟨fun j hj => ⟨?_, ?_⟩, ?_, by rw [List.length_set]; exact h.2.2⟩
  · rw [List.length_set] at hj
    by_cases e : j = q
    · subst e
      rw [World.cell?_setCell_same (h := (h.1 j hj).1), List.getD_eq_getElem?_getD, List.getElem?_set_self hj]
      rfl
    · rw [World.cell?_setCell_other (h := show (⟨g, q, none⟩ : Addr) ≠ ⟨g, j, none⟩ from fun he => e (by injection he with _ h2; exact h2.symm)), (h.1 j hj).1, List.getD_eq_getElem?_getD, List.getD_eq_getElem?_getD, List.getElem?_set_ne (fun he => e he.symm)]
  · rw [List.length_set] at hj
    rw [World.frozen?_setCell]
    exact (h.1 j hj).2
  · have := (Below.refl 0 W).setCell (p := ⟨g, q, none⟩) (Nat.zero_le _) (.int .u8 x)
    exact Nat.lt_of_lt_of_le h.2.1 this.size
theorem Bcl.take {W : World} {g : Nat} {l : List Int} (h : Bcl W g l) (k : Nat) (hk : k ≤ l.length) : (Kd.int .u8).C W (some ⟨g, 0, none⟩) k (l.take k) :=
  Kd.C_of_reads ⟨by rw [List.length_take]; omega, Nat.le_trans (Nat.le_trans hk h.2.2) (by decide), fun _ => ⟨_, rfl, fun j hj => by rw [add_plain, (h.1 j (by omega)).1, List.getD_eq_getElem?_getD, List.getD_eq_getElem?_getD, List.getElem?_take, if_pos hj]⟩⟩
theorem Bcl.block {W W' : World} {g : Nat} {l : List Int} (h : Bcl W g l) (hb : W'.heap[g]? = W.heap[g]?) (hs : W.heap.size ≤ W'.heap.size) : Bcl W' g l :=
  ⟨fun j hj => ⟨(World.cell?_of_block hb).trans (h.1 j hj).1, (World.frozen?_of_block hb).trans (h.1 j hj).2⟩, Nat.lt_of_lt_of_le h.2.1 hs, h.2.2⟩
theorem conv_str2 {ops : Array Oper} {rest : List Oper} {o : Oper} {a : Act} {Q : Exit → Act → World → Prop} {W : World} (hgd : o.guard = none) {N : Tmp} (hd : o.dst = some N) (x : Operand) (ho : o.op = .convert 27 9 x) {A : Option Addr} {n c : Nat} {l : List Int} (hx : a.eval x = .slice A n c) (hC : (Kd.int .u8).C W A n l) (S : ByteArray) (hS : strOfNums l = S)
    (h : wpList Tryd.prog ops Q rest (a.put o.dst (.string S)) W) : wpList Tryd.prog ops Q (o :: rest) a W := by
  subst hS
  refine Kd.event_run hgd (v := .string (strOfNums l)) (w1 := W) ?_ h
  unfold execOp
  simp only [ho, hx, Sem.run_bind, Kd.C_string (P := Tryd.prog) Tryd.underlying27 Tryd.underlying5 Tryd.underlying9 hC, Sem.run_pure, Result.andThen_ok]
theorem conv_own {ops : Array Oper} {rest : List Oper} {o : Oper} {a : Act} {Q : Exit → Act → World → Prop} {W : World} (hgd : o.guard = none) {N : Tmp} (hd : o.dst = some N) (x : Operand) (ho : o.op = .convert 9 27 x) (s : ByteArray) (hx : a.eval x = .string s) (hs : s.size ≤ 1000) (n : Nat) (hn : s.size = n)
    (h : ∀ g c w1, g = W.heap.size → n ≤ c → Bcl w1 g (bytesOf s) → Below W.heap.size W w1 → wpList Tryd.prog ops Q rest (a.put o.dst (.slice (some ⟨g, 0, none⟩) n c)) w1) : wpList Tryd.prog ops Q (o :: rest) a W := by
  subst hn
  refine Kd.event_run hgd (v := .slice (some ⟨W.heap.size, 0, none⟩) s.size (grownCap W s.size 0 5)) (w1 := Lib.bytesWorld W 5 s) ?_ ?_
  · unfold execOp
    simp only [ho, hx, Sem.run_bind, print_bytes (P := Tryd.prog) 9 27 5 Tryd.underlying9 Tryd.underlying27 Tryd.underlying5 s W, Sem.run_pure, Result.andThen_ok]
  · refine h _ _ _ rfl (grownCap_ge W s.size 0 5) ⟨fun j hj => ?_, ?_, by rw [bytesOf_length]; exact hs⟩ (bytes_below (Below.refl _ _) (Nat.le_refl _) 5 s)
    · rw [bytesOf_length] at hj
      have hr := bytes_reads W 5 s (by omega)
      obtain ⟨ad, e, hc⟩ := hr.2.2 (by omega)
      injection e with e
      subst e
      have hc1 := hc j hj
      rw [add_plain] at hc1
      refine ⟨hc1, ?_⟩
      have hsz : s.size ≤ (Lib.bytesCells W 5 s).size := by
        unfold Lib.bytesCells
        rw [Array.size_append, Array.size_map]
        show s.size ≤ s.data.size + _
        have : s.data.size = s.size := rfl
        omega
      simp only [World.frozen?, Lib.bytesWorld_at_new]
      simp
      omega
    · rw [Lib.bytesWorld_size]; omega
def Sot (w0 : World) (g4 g5 : Nat) (V : Array Value) (tv : TypeId) (V2 : Array Value) (tv2 : TypeId) (W : World) : Prop := Aside0 (W.heap[g4]? = some (.cells V tv (0, 0)) ∧ W.heap[g5]? = some (.cells V2 tv2 (0, 0)) ∧ Below w0.heap.size w0 W)
theorem Sot.next {w0 W W' : World} {g4 g5 : Nat} {V V2 : Array Value} {tv tv2 : TypeId} (h : Sot w0 g4 g5 V tv V2 tv2 W) (hb : Below W.heap.size W W') : Sot w0 g4 g5 V tv V2 tv2 W' := ⟨blk_below h.out.1 hb, blk_below h.out.2.1 hb, below_step h.out.2.2 hb⟩
def Sothers (w0 : World) (g3 g4 g5 : Nat) (V3 V4 V5 : Array Value) (W : World) : Prop := Aside0 (W.heap[g3]? = some (.cells V3 81 (0, 0)) ∧ W.heap[g4]? = some (.cells V4 53 (0, 0)) ∧ W.heap[g5]? = some (.cells V5 82 (0, 0)) ∧ Below w0.heap.size w0 W)
theorem Sothers.next {w0 W W' : World} {g3 g4 g5 : Nat} {V3 V4 V5 : Array Value} (h : Sothers w0 g3 g4 g5 V3 V4 V5 W) (hb : Below W.heap.size W W') : Sothers w0 g3 g4 g5 V3 V4 V5 W' := ⟨blk_below h.out.1 hb, blk_below h.out.2.1 hb, blk_below h.out.2.2.1 hb, below_step h.out.2.2.2 hb⟩
/-- By another key: refused for its tag, unless both keys give its bytes one tag. -/
theorem other_tag (k0 k1 : List Int) {t : Tk} (ht : t.ok) (hne : tag k0 t.front ≠ tag k1 t.front) : openT (fun tg x => decide (tg = tagk (kbl k1) x)) (strOfNums (t.front ++ tag k0 t.front)) = (Tk.zero, 8) := by
  rw [openT_seal k0 ht, if_neg]
  intro h
  exact hne (of_decide_eq_true h)
theorem refT_seal (k0 : List Int) {t : Tk} (ht : t.ok) : refT k0 (strOfNums (t.front ++ tag k0 t.front)) = (t, 0) := by
  rw [← openT_ref]
  exact (openT_seal k0 ht).trans (if_pos (decide_eq_true rfl))
theorem set_byte {bs : List Int} (h : Byt bs) {q : Nat} {x : Int} (hx : 0 ≤ x ∧ x ≤ 255) : Byt (bs.set q x) := fun y hy => by
  rcases List.mem_or_eq_of_mem_set hy with h1 | h1
  · exact h y h1
  · rw [h1]; exact hx
theorem set_same {l : List Int} {q : Nat} (hq : q < l.length) : l.set q (l.getD q 0) = l := by
  apply List.ext_getElem (by rw [List.length_set])
  intro i h1 h2
  rw [List.getElem_set]
  split
  · rename_i e
    subst e
    rw [List.getD_eq_getElem?_getD, List.getElem?_eq_getElem h2]
    rfl
  · rfl
/-- Another first byte: no ticket. -/
theorem refT_first {k0 F : List Int} {z : Int} (hF : Byt (F.set 0 z)) (hl : 0 < F.length) (hz : z ≠ 116) : (refT k0 (strOfNums (F.set 0 z))).2 = 7 := by
  unfold refT
  rw [if_neg]
  rintro ⟨_, h⟩
  rw [← bytes_first, bytes_back hF, List.getD_eq_getElem?_getD, List.getElem?_set_self hl] at h
  exact hz h
set_option maxRecDepth 100000 in
set_option maxHeartbeats 8000000 in
theorem others_law {A0 A1 : Option Addr} {n0 c0 n1 c1 : Nat} {k0 k1 : List Int} {t : Tk} {x y : Int} (w : World) (hT : Tab w) (hC0 : (Kd.int .u8).C w A0 n0 k0) (hc0 : n0 ≤ c0) (hb0 : Byt k0) (hC1 : (Kd.int .u8).C w A1 n1 k1) (hc1 : n1 ≤ c1) (hb1 : Byt k1) (ht : t.ok) (hx : 0 ≤ x ∧ x ≤ 255) (hy : 0 ≤ y ∧ y ≤ 255) :
    Calls Tryd.prog 18 #[.agg #[.slice A0 n0 c0, .slice A1 n1 c1], .agg #[.int .u32 (t.p : Nat), .int .i64 t.e, .int .u64 (t.n : Nat)], .agg #[.int .u8 x, .int .u8 y]] w fun e w' => e = .returned (.bool true) ∧ Below w.heap.size w w' := by
  obtain ⟨m, rfl⟩ := Int.eq_ofNat_of_zero_le hx.1
  have hm255 : m ≤ 255 := by omega
  have hu53 := Tryd.underlying53
  have hu60 := Tryd.underlying60
  have size53 := sizeR53
  have HT := Aside0.mk hT
  have HC0 := Aside0.mk hC0
  have HC1 := Aside0.mk hC1
  have Hb0 := Aside0.mk hb0
  have Hb1 := Aside0.mk hb1
  have Hn0 := Aside0.mk hC0.1
  have Hn1 := Aside0.mk hC1.1
  have hnm0 := hC0.2.1
  have hnm1 := hC1.2.1
  have Ht := Aside0.mk ht
  have Hy := Aside0.mk hy
  clear hT hC0 hC1 hb0 hb1 ht hy hx
  by_cases h200 : 200 < n0
  · go_enter Tryd.func18, Tryd.ntmps18
    go_wp2_with (first | ((with_reducible refine gate_dst (N := 3) rfl ?_); refine box_event ?hg (N := 3) ?hd (cs := #[.slice A0 n0 c0, .slice A1 n1 c1]) (t := 81) ?hr ?_; (case hd => rfl); (case hg => rfl); (case hr => first | (go_simp; done) | (go_simp; rfl)); intro g3 hg_ w1 hbox_ hb_; have H1 := Aside0.mk hbox_; have HB1 := Aside0.mk hb_;clear hg_ hbox_ hb_) | ((with_reducible refine gate_dst (N := 4) rfl ?_); refine box_event ?hg (N := 4) ?hd (cs := #[.int .u32 (t.p : Nat), .int .i64 t.e, .int .u64 (t.n : Nat)]) (t := 53) ?hr ?_; (case hd => rfl); (case hg => rfl); (case hr => first | (go_simp; done) | (go_simp; rfl)); intro g4 hg_ w2 hbox_ hb_; have H2 := Aside0.mk hbox_; replace H1 := Aside0.mk (blk_below H1.out hb_); have HB2 := Aside0.mk (below_step HB1.out hb_);clear hg_ hbox_ hb_) | ((with_reducible refine gate_dst (N := 5) rfl ?_); refine box_event ?hg (N := 5) ?hd (cs := #[.int .u8 (m : Nat), .int .u8 y]) (t := 82) ?hr ?_; (case hd => rfl); (case hg => rfl); (case hr => first | (go_simp; done) | (go_simp; rfl)); intro g5 hg_ w3 hbox_ hb_; have H3 := Aside0.mk hbox_; replace H1 := Aside0.mk (blk_below H1.out hb_); replace H2 := Aside0.mk (blk_below H2.out hb_); have JB := Aside0.mk (below_step HB2.out hb_); have hca0 := (blk_cell H1.out 0).trans rfl; have hca1 := (blk_cell H1.out 1).trans rfl;clear hg_ hbox_ hb_))
    go_ret
    exact ⟨rfl, JB.out⟩
  by_cases h201 : 200 < n1
  · go_enter Tryd.func18, Tryd.ntmps18
    go_wp2_with (first | ((with_reducible refine gate_dst (N := 3) rfl ?_); refine box_event ?hg (N := 3) ?hd (cs := #[.slice A0 n0 c0, .slice A1 n1 c1]) (t := 81) ?hr ?_; (case hd => rfl); (case hg => rfl); (case hr => first | (go_simp; done) | (go_simp; rfl)); intro g3 hg_ w1 hbox_ hb_; have H1 := Aside0.mk hbox_; have HB1 := Aside0.mk hb_;clear hg_ hbox_ hb_) | ((with_reducible refine gate_dst (N := 4) rfl ?_); refine box_event ?hg (N := 4) ?hd (cs := #[.int .u32 (t.p : Nat), .int .i64 t.e, .int .u64 (t.n : Nat)]) (t := 53) ?hr ?_; (case hd => rfl); (case hg => rfl); (case hr => first | (go_simp; done) | (go_simp; rfl)); intro g4 hg_ w2 hbox_ hb_; have H2 := Aside0.mk hbox_; replace H1 := Aside0.mk (blk_below H1.out hb_); have HB2 := Aside0.mk (below_step HB1.out hb_);clear hg_ hbox_ hb_) | ((with_reducible refine gate_dst (N := 5) rfl ?_); refine box_event ?hg (N := 5) ?hd (cs := #[.int .u8 (m : Nat), .int .u8 y]) (t := 82) ?hr ?_; (case hd => rfl); (case hg => rfl); (case hr => first | (go_simp; done) | (go_simp; rfl)); intro g5 hg_ w3 hbox_ hb_; have H3 := Aside0.mk hbox_; replace H1 := Aside0.mk (blk_below H1.out hb_); replace H2 := Aside0.mk (blk_below H2.out hb_); have JB := Aside0.mk (below_step HB2.out hb_); have hca0 := (blk_cell H1.out 0).trans rfl; have hca1 := (blk_cell H1.out 1).trans rfl;clear hg_ hbox_ hb_))
    go_ret
    exact ⟨rfl, JB.out⟩
  have Hm0 : Aside0 (k0.length ≤ 1000000) := ⟨by rw [Hn0.out]; omega⟩
  have Hm1 : Aside0 (k1.length ≤ 1000000) := ⟨by rw [Hn1.out]; omega⟩
  obtain ⟨F, hF⟩ : ∃ F, F = t.front ++ tag k0 t.front := ⟨_, rfl⟩
  obtain ⟨s, hs⟩ : ∃ s, s = strOfNums F := ⟨_, rfl⟩
  have Hs : Aside0 (strOfNums (t.front ++ tag k0 t.front) = s) := ⟨by rw [hs, hF]⟩
  have HFb0 : Aside0 (bytesOf s = F) := ⟨by rw [hs, hF]; exact seal_bytes k0 t⟩
  have Hz : Aside0 (s.size = 53) := ⟨by rw [hs, hF]; exact seal_size k0 t⟩
  have HFl : Aside0 (F.length = 53 ∧ Byt F ∧ F.take 21 = t.front ∧ F.getD 0 0 = 116) := ⟨by rw [hF]; exact ⟨by rw [List.length_append, Tk.front_length, tag_length], t.front_byt.append (tag_byt _ _), (cut_first _ _ 21 t.front_length).1, rfl⟩⟩
  have HFe := Aside0.mk hF
  have Hse := Aside0.mk hs
  clear hF hs
  obtain ⟨b0, hb0⟩ : ∃ b, b = tag k0 t.front := ⟨_, rfl⟩
  obtain ⟨b1, hb1⟩ : ∃ b, b = tag k1 t.front := ⟨_, rfl⟩
  have Hb0e : Aside0 (tag k0 t.front = b0) := ⟨hb0.symm⟩
  have Hb1e : Aside0 (tag k1 t.front = b1) := ⟨hb1.symm⟩
  have heq : ∀ w, (Op.equalIn 10000 30 (.agg (v8 b0)) (.agg (v8 b1))).run Tryd.prog w = .ok (decide (b0 = b1)) w := fun w => eq30 b0 b1 (by rw [hb0]; rfl) (by rw [hb1]; rfl) w
  obtain ⟨X1, hX1⟩ : ∃ X, X = openT (fun tg x => decide (tg = tagk (kbl k1) x)) s := ⟨_, rfl⟩
  have HX1 : Aside0 (openT (fun tg x => decide (tg = tagk (kbl k1) x)) s = X1) := ⟨hX1.symm⟩
  have HX1r : Aside0 (b0 ≠ b1 → X1.2 = 8) := ⟨fun hne => by rw [hX1, ← Hs.out, other_tag k0 k1 Ht.out (by rw [← hb0, ← hb1]; exact hne)]⟩
  obtain ⟨⟨p1, e1, n1'⟩, r1⟩ := X1
  clear hb0 hb1 hX1
  go_enter Tryd.func18, Tryd.ntmps18
  go_wp2_with (first | ((with_reducible refine gate_dst (N := 3) rfl ?_); refine box_event ?hg (N := 3) ?hd (cs := #[.slice A0 n0 c0, .slice A1 n1 c1]) (t := 81) ?hr ?_; (case hd => rfl); (case hg => rfl); (case hr => first | (go_simp; done) | (go_simp; rfl)); intro g3 hg_ w1 hbox_ hb_; have H1 := Aside0.mk hbox_; have HB1 := Aside0.mk hb_;clear hg_ hbox_ hb_) | ((with_reducible refine gate_dst (N := 4) rfl ?_); refine box_event ?hg (N := 4) ?hd (cs := #[.int .u32 (t.p : Nat), .int .i64 t.e, .int .u64 (t.n : Nat)]) (t := 53) ?hr ?_; (case hd => rfl); (case hg => rfl); (case hr => first | (go_simp; done) | (go_simp; rfl)); intro g4 hg_ w2 hbox_ hb_; have H2 := Aside0.mk hbox_; replace H1 := Aside0.mk (blk_below H1.out hb_); have HB2 := Aside0.mk (below_step HB1.out hb_);clear hg_ hbox_ hb_) | ((with_reducible refine gate_dst (N := 5) rfl ?_); refine box_event ?hg (N := 5) ?hd (cs := #[.int .u8 (m : Nat), .int .u8 y]) (t := 82) ?hr ?_; (case hd => rfl); (case hg => rfl); (case hr => first | (go_simp; done) | (go_simp; rfl)); intro g5 hg_ w3 hbox_ hb_; have H3 := Aside0.mk hbox_; replace H1 := Aside0.mk (blk_below H1.out hb_); replace H2 := Aside0.mk (blk_below H2.out hb_); have JB := Aside0.mk (below_step HB2.out hb_); have hca0 := (blk_cell H1.out 0).trans rfl; have hca1 := (blk_cell H1.out 1).trans rfl;clear hg_ hbox_ hb_))
  have hS : Sothers w3 g3 g4 g5 #[.slice A0 n0 c0, .slice A1 n1 c1] #[.int .u32 (t.p : Nat), .int .i64 t.e, .int .u64 (t.n : Nat)] #[.int .u8 (m : Nat), .int .u8 y] w3.drew := ⟨H1.out, H2.out, H3.out, below_drew (Below.refl _ _)⟩
  clear H1 H2 H3 HB1 HB2 hca0 hca1
  refine start_ (S := Sothers w3 g3 g4 g5 #[.slice A0 n0 c0, .slice A1 n1 c1] #[.int .u32 (t.p : Nat), .int .i64 t.e, .int .u64 (t.n : Nat)] #[.int .u8 (m : Nat), .int .u8 y]) (ds := []) #[false, false, false, false, false, false, false, false] (by kernel_rfl) rfl rfl hS ?_
  intro hS_
  refine pure_ (i := 0) (a' := ?a1_1) (v := .pointer (some ⟨g3, 0, none⟩)) #[true, false, false, false, false, false, false, false] rfl rfl (by kernel_rfl) (fun _ _ _ h => h) (Or.inl ⟨rfl, ?hy1_1⟩) ?ha1_1 ?rest1_1
  case hy1_1 => intro w; first | (go_simp; done) | (go_simp; with_reducible rfl) | (go_simp; rfl)
  case ha1_1 => go_simp; rfl
  refine take_ (i := 1) (a' := ?a1_2) (v := .slice A0 n0 c0) #[true, true, false, false, false, false, false, false] rfl rfl (by kernel_rfl) (fun _ _ _ h => h) (yields_cell rfl (fun w h => by have h8 := (blk_cell h.out.1 0).trans rfl; (first | (go_simp; done) | (go_simp; with_reducible rfl) | (go_simp; rfl)))) hS_ ?ha1_2 ?rest1_2
  case ha1_2 => go_simp; rfl
  refine pure_ (i := 3) (a' := ?a1_3) (v := .pointer (some ⟨g3, 1, none⟩)) #[true, true, false, true, false, false, false, false] rfl rfl (by kernel_rfl) (fun _ _ _ h => h) (Or.inl ⟨rfl, ?hy1_3⟩) ?ha1_3 ?rest1_3
  case hy1_3 => intro w; first | (go_simp; done) | (go_simp; with_reducible rfl) | (go_simp; rfl)
  case ha1_3 => go_simp; rfl
  refine take_ (i := 4) (a' := ?a1_4) (v := .slice A1 n1 c1) #[true, true, false, true, true, false, false, false] rfl rfl (by kernel_rfl) (fun _ _ _ h => h) (yields_cell rfl (fun w h => by have h8 := (blk_cell h.out.1 1).trans rfl; (first | (go_simp; done) | (go_simp; with_reducible rfl) | (go_simp; rfl)))) hS_ ?ha1_4 ?rest1_4
  case ha1_4 => go_simp; rfl
  refine one_ (i := 2) #[true, true, true, true, true, false, false, false] rfl rfl (by kernel_rfl) (by decide) ?_
  intro K_ hK_
  unfold Shut at hK_
  refine goes_ Tryd.func34 (by kernel_rfl) (by kernel_rfl) #[.slice A0 n0 c0] rfl rfl rfl (by go_simp) ?_; refine (make_any _ (HT.out.below (below_step JB.out hS_.out.2.2.2)) (Kd.C_below HC0.out (below_step JB.out hS_.out.2.2.2)) hc0 Hb0.out (by have := Hm0.out; omega)).mono ?_; rintro e v1 ⟨ga, rfl, hk, _, hb6⟩; have HFa := Aside0.mk (KeyFits.of hk (kbl_length _) (kbl_byt Hb0.out)); clear hk; have hS2 := hS_.next hb6; clear hb6; refine ⟨_, rfl, hK_ _ _ hS2 (fun hS_ => ?_)⟩; clear hK_ hS2
  refine norm_ (a' := ?a1_6n) ?ha1_6n ?rest1_6n
  case ha1_6n => go_simp; rfl
  refine one_ (i := 5) #[true, true, true, true, true, true, false, false] rfl rfl (by kernel_rfl) (by decide) ?_
  intro K_ hK_
  unfold Shut at hK_
  refine goes_ Tryd.func34 (by kernel_rfl) (by kernel_rfl) #[.slice A1 n1 c1] rfl rfl rfl (by go_simp) ?_; refine (make_any _ (HT.out.below (below_step JB.out hS_.out.2.2.2)) (Kd.C_below HC1.out (below_step JB.out hS_.out.2.2.2)) hc1 Hb1.out (by have := Hm1.out; omega)).mono ?_; rintro e v2 ⟨gb, rfl, hk, _, hb6⟩; have HFb := Aside0.mk (KeyFits.of hk (kbl_length _) (kbl_byt Hb1.out)); replace HFa := Aside0.mk (HFa.out.below hb6); clear hk; have hS2 := hS_.next hb6; clear hb6; refine ⟨_, rfl, hK_ _ _ hS2 (fun hS_ => ?_)⟩; clear hK_ hS2
  refine norm_ (a' := ?a1_8n) ?ha1_8n ?rest1_8n
  case ha1_8n => go_simp; rfl
  refine pure_ (i := 6) (a' := ?a1_9) (v := .pointer (some ⟨ga, 0, none⟩)) #[true, true, true, true, true, true, true, false] rfl rfl (by kernel_rfl) (fun _ _ _ h => h) (Or.inl ⟨rfl, ?hy1_9⟩) ?ha1_9 ?rest1_9
  case hy1_9 => intro w; first | (go_simp; done) | (go_simp; with_reducible rfl) | (go_simp; rfl)
  case ha1_9 => go_simp; rfl
  refine pure_ (i := 7) (a' := ?a1_10) (v := .pointer (some ⟨gb, 0, none⟩)) #[true, true, true, true, true, true, true, true] rfl rfl (by kernel_rfl) (fun _ _ _ h => h) (Or.inl ⟨rfl, ?hy1_10⟩) ?ha1_10 ?rest1_10
  case hy1_10 => intro w; first | (go_simp; done) | (go_simp; with_reducible rfl) | (go_simp; rfl)
  case ha1_10 => go_simp; rfl
  refine done_ (by kernel_rfl) ?_
  have J3 := Aside0.mk hS_.out.1
  have J4 := Aside0.mk hS_.out.2.1
  have J5 := Aside0.mk hS_.out.2.2.1
  replace JB := Aside0.mk (below_step JB.out hS_.out.2.2.2)
  clear hS_ hS
  have hca0 := (blk_cell J3.out 0).trans rfl
  go_wp2_with (first | ((with_reducible refine gate_dst (N := 37) rfl ?_); refine wpList_load_row rfl 53 (.tmp 4) rfl g4 rfl 53 (#[.int .u32 (t.p : Nat), .int .i64 t.e, .int .u64 (t.n : Nat)]) (0, 0) _ J4.out hu53 rfl size53 ?_))
  have JF := Aside0.mk (Below.refl v2.heap.size v2)
  refine (refseal40 (t := t) (key := k0) _ (Kd.C_below HC0.out JB.out) hc0 Hb0.out Hm0.out Ht.out).mono ?_
  rintro e v3 ⟨rfl, hb⟩
  rw [Hs.out]
  replace J3 := Aside0.mk (blk_below J3.out hb)
  replace J4 := Aside0.mk (blk_below J4.out hb)
  replace J5 := Aside0.mk (blk_below J5.out hb)
  replace JF := Aside0.mk (below_step JF.out hb)
  replace JB := Aside0.mk (below_step JB.out hb)
  clear hb hca0
  have hz53 := Hz.out
  go_wp2_with (first | ((with_reducible refine gate_dst (N := 40) rfl ?_); refine conv_own ?hg (N := 40) ?hd (.tmp 39) ?ho s ?hx (by omega) 53 Hz.out ?_; (case hg => rfl); (case hd => rfl); (case ho => rfl); (case hx => rfl); intro gC cC v4 hg_ hc_ hB_ hb_; have JC : Aside0 (Bcl v4 gC F) := ⟨by rw [← HFb0.out]; exact hB_⟩; have hcC := hc_; replace J3 := Aside0.mk (blk_below J3.out hb_); replace J4 := Aside0.mk (blk_below J4.out hb_); replace J5 := Aside0.mk (blk_below J5.out hb_); replace JF := Aside0.mk (below_step JF.out hb_); replace JB := Aside0.mk (below_step JB.out hb_); clear hg_ hc_ hB_ hb_))
  refine (open46_any (s := s) _ (HT.out.below JB.out) (HFb.out.below JF.out) (by omega)).mono ?_
  rintro e v5 ⟨rfl, hb⟩
  rw [HX1.out]
  replace J3 := Aside0.mk (blk_below J3.out hb)
  replace J4 := Aside0.mk (blk_below J4.out hb)
  replace J5 := Aside0.mk (blk_below J5.out hb)
  replace JF := Aside0.mk (below_step JF.out hb)
  replace JB := Aside0.mk (below_step JB.out hb)
  replace JC := Aside0.mk (Bcl.below JC.out hb)
  clear hb
  go_wp2_with (first | ((with_reducible refine gate_dst (N := 11) rfl ?_); refine box_event ?hg (N := 11) ?hd (cs := #[.int .u32 0, .int .i64 0, .int .u64 0]) (t := 60) ?hr ?_; (case hd => rfl); (case hg => rfl); (case hr => first | (go_simp; done) | (go_simp; rfl)); intro g11 hg_ v6 hbox_ hb_; have JX := Aside0.mk hbox_; have Ng := Aside0.mk (show w.heap.size ≤ g11 from Nat.le_trans JB.out.size (Nat.le_of_eq hg_.symm)); have NF := Aside0.mk (show v2.heap.size ≤ g11 from Nat.le_trans JF.out.size (Nat.le_of_eq hg_.symm)); have NJ3 := Aside0.mk (show g3 ≠ g11 from by have := blk_lt J3.out; omega); have NJ4 := Aside0.mk (show g4 ≠ g11 from by have := blk_lt J4.out; omega); have NJ5 := Aside0.mk (show g5 ≠ g11 from by have := blk_lt J5.out; omega); have NC := Aside0.mk (show gC ≠ g11 from by have := JC.out.2.1; omega); replace J3 := Aside0.mk (blk_below J3.out hb_); replace J4 := Aside0.mk (blk_below J4.out hb_); replace J5 := Aside0.mk (blk_below J5.out hb_); replace JF := Aside0.mk (below_step JF.out hb_); replace JB := Aside0.mk (below_step JB.out hb_); replace JC := Aside0.mk (Bcl.below JC.out hb_);clear hg_ hbox_ hb_) | ((with_reducible refine gate_store (t := 60) (p := 11) rfl ?_); refine store_row ?hg (ty := 60) (p := 11) (v := ?vr_1) ?ho ?hd (g := g11) (t := 60) (old := #[.int .u32 0, .int .i64 0, .int .u64 0]) (cells := #[.int .u32 (p1 : Nat), .int .i64 e1, .int .u64 (n1' : Nat)]) ?hx ?hy JX.out size60 rfl (by simp [Value.oneCell']) ?_; (case hd => rfl); (case hg => rfl); (case ho => rfl); (case hx => rfl); (case hy => rfl); intro v7 hbox_ hk_ hb_; replace JX := Aside0.mk hbox_; replace J3 := Aside0.mk ((hk_.2 g3 (blk_lt J3.out) NJ3.out).trans J3.out); replace J4 := Aside0.mk ((hk_.2 g4 (blk_lt J4.out) NJ4.out).trans J4.out); replace J5 := Aside0.mk ((hk_.2 g5 (blk_lt J5.out) NJ5.out).trans J5.out); replace JC := Aside0.mk (Bcl.block JC.out (hk_.2 gC JC.out.2.1 NC.out) hk_.1); replace JF := Aside0.mk (JF.out.trans (hb_.mono NF.out)); replace JB := Aside0.mk (JB.out.trans (hb_.mono Ng.out));clear hbox_ hk_ hb_))
  have JFr : ∀ W, Below v7.heap.size v7 W → (Kd.int .u8).C W (some ⟨gC, 0, none⟩) 21 t.front := fun W hW => by have h := Bcl.take (JC.out.below hW) 21 (by rw [HFl.out.1]; decide); rwa [HFl.out.2.2.1] at h
  have hS : Sothers v7 g3 g4 g5 #[.slice A0 n0 c0, .slice A1 n1 c1] #[.int .u32 (t.p : Nat), .int .i64 t.e, .int .u64 (t.n : Nat)] #[.int .u8 (m : Nat), .int .u8 y] v7.drew := ⟨J3.out, J4.out, J5.out, below_drew (Below.refl _ _)⟩
  by_cases hbb : b0 = b1
  · have hd : decide (b0 = b1) = true := decide_eq_true hbb
    have Hbb := Aside0.mk hbb
    clear hbb
    refine start_ (S := Sothers v7 g3 g4 g5 #[.slice A0 n0 c0, .slice A1 n1 c1] #[.int .u32 (t.p : Nat), .int .i64 t.e, .int .u64 (t.n : Nat)] #[.int .u8 (m : Nat), .int .u8 y]) (ds := []) #[false, false, false, false, false, false, false, false, false, false, false, false, false] (by kernel_rfl) rfl rfl hS ?_
    intro hS_
    refine pure_ (i := 0) (a' := ?a2_1) (v := .pointer (some ⟨g3, 0, none⟩)) #[true, false, false, false, false, false, false, false, false, false, false, false, false] rfl rfl (by kernel_rfl) (fun _ _ _ h => h) (Or.inl ⟨rfl, ?hy2_1⟩) ?ha2_1 ?rest2_1
    case hy2_1 => intro w; first | (go_simp; done) | (go_simp; with_reducible rfl) | (go_simp; rfl)
    case ha2_1 => go_simp; rfl
    refine take_ (i := 1) (a' := ?a2_2) (v := .slice A0 n0 c0) #[true, true, false, false, false, false, false, false, false, false, false, false, false] rfl rfl (by kernel_rfl) (fun _ _ _ h => h) (yields_cell rfl (fun w h => by have h8 := (blk_cell h.out.1 0).trans rfl; (first | (go_simp; done) | (go_simp; with_reducible rfl) | (go_simp; rfl)))) hS_ ?ha2_2 ?rest2_2
    case ha2_2 => go_simp; rfl
    refine pure_ (i := 2) (a' := ?a2_3) (v := .slice (some ⟨gC, 0, none⟩) 21 cC) #[true, true, true, false, false, false, false, false, false, false, false, false, false] rfl rfl (by kernel_rfl) (fun _ _ _ h => h) (Or.inl ⟨rfl, ?hy2_3⟩) ?ha2_3 ?rest2_3
    case hy2_3 => intro w; first | (go_simp; done) | (go_simp; with_reducible rfl) | (go_simp; rfl)
    case ha2_3 => go_simp; rfl
    refine pure_ (i := 4) (a' := ?a2_4) (v := .pointer (some ⟨g3, 1, none⟩)) #[true, true, true, false, true, false, false, false, false, false, false, false, false] rfl rfl (by kernel_rfl) (fun _ _ _ h => h) (Or.inl ⟨rfl, ?hy2_4⟩) ?ha2_4 ?rest2_4
    case hy2_4 => intro w; first | (go_simp; done) | (go_simp; with_reducible rfl) | (go_simp; rfl)
    case ha2_4 => go_simp; rfl
    refine take_ (i := 5) (a' := ?a2_5) (v := .slice A1 n1 c1) #[true, true, true, false, true, true, false, false, false, false, false, false, false] rfl rfl (by kernel_rfl) (fun _ _ _ h => h) (yields_cell rfl (fun w h => by have h8 := (blk_cell h.out.1 1).trans rfl; (first | (go_simp; done) | (go_simp; with_reducible rfl) | (go_simp; rfl)))) hS_ ?ha2_5 ?rest2_5
    case ha2_5 => go_simp; rfl
    refine pure_ (i := 6) (a' := ?a2_6) (v := .slice (some ⟨gC, 0, none⟩) 21 cC) #[true, true, true, false, true, true, true, false, false, false, false, false, false] rfl rfl (by kernel_rfl) (fun _ _ _ h => h) (Or.inl ⟨rfl, ?hy2_6⟩) ?ha2_6 ?rest2_6
    case hy2_6 => intro w; first | (go_simp; done) | (go_simp; with_reducible rfl) | (go_simp; rfl)
    case ha2_6 => go_simp; rfl
    refine one_ (i := 3) #[true, true, true, true, true, true, true, false, false, false, false, false, false] rfl rfl (by kernel_rfl) (by decide) ?_
    intro K_ hK_
    unfold Shut at hK_
    refine goes_ Tryd.func31 (by kernel_rfl) (by kernel_rfl) #[.slice A0 n0 c0, .slice (some ⟨gC, 0, none⟩) 21 cC] rfl rfl rfl (by go_simp) ?_; refine (reftag_any (key := k0) (msg := t.front) _ (Kd.C_below HC0.out (below_step JB.out hS_.out.2.2.2)) hc0 Hb0.out Hm0.out (JFr _ hS_.out.2.2.2) t.front_byt (by decide)).mono ?_; rintro e z1 ⟨rfl, hb6⟩; rw [Hb0e.out]; have hS2 := hS_.next hb6; clear hb6; refine ⟨_, rfl, hK_ _ _ hS2 (fun hS_ => ?_)⟩; clear hK_ hS2
    refine norm_ (a' := ?a2_8n) ?ha2_8n ?rest2_8n
    case ha2_8n => go_simp; rfl
    refine one_ (i := 7) #[true, true, true, true, true, true, true, true, false, false, false, false, false] rfl rfl (by kernel_rfl) (by decide) ?_
    intro K_ hK_
    unfold Shut at hK_
    refine goes_ Tryd.func31 (by kernel_rfl) (by kernel_rfl) #[.slice A1 n1 c1, .slice (some ⟨gC, 0, none⟩) 21 cC] rfl rfl rfl (by go_simp) ?_; refine (reftag_any (key := k1) (msg := t.front) _ (Kd.C_below HC1.out (below_step JB.out hS_.out.2.2.2)) hc1 Hb1.out Hm1.out (JFr _ hS_.out.2.2.2) t.front_byt (by decide)).mono ?_; rintro e z2 ⟨rfl, hb6⟩; rw [Hb1e.out]; have hS2 := hS_.next hb6; clear hb6; refine ⟨_, rfl, hK_ _ _ hS2 (fun hS_ => ?_)⟩; clear hK_ hS2
    refine norm_ (a' := ?a2_10n) ?ha2_10n ?rest2_10n
    case ha2_10n => go_simp; rfl
    refine pure_ (i := 8) (a' := ?a2_11) (v := .bool false) #[true, true, true, true, true, true, true, true, true, false, false, false, false] rfl rfl (by kernel_rfl) (fun _ _ _ h => h) (Or.inl ⟨rfl, ?hy2_11⟩) ?ha2_11 ?rest2_11
    case hy2_11 => intro w; first | (go_simp; done) | (go_simp; with_reducible rfl) | (go_simp; rfl)
    case ha2_11 => go_simp; rfl
    refine pure_ (i := 9) (a' := ?a2_12) (v := .bool false) #[true, true, true, true, true, true, true, true, true, true, false, false, false] rfl rfl (by kernel_rfl) (fun _ _ _ h => h) (Or.inl ⟨rfl, ?hy2_12⟩) ?ha2_12 ?rest2_12
    case hy2_12 => intro w; first | (go_simp; done) | (go_simp; with_reducible rfl) | (go_simp; rfl)
    case ha2_12 => go_simp; rfl
    refine pure_ (i := 10) (a' := ?a2_13) (v := undef) #[true, true, true, true, true, true, true, true, true, true, true, false, false] rfl rfl (by kernel_rfl) (fun _ _ _ h => h) ?hy2_13 ?ha2_13 ?rest2_13
    case hy2_13 => exact Or.inr ⟨rfl, rfl⟩
    case ha2_13 => go_simp; rfl
    refine pure_ (i := 11) (a' := ?a2_14) (v := undef) #[true, true, true, true, true, true, true, true, true, true, true, true, false] rfl rfl (by kernel_rfl) (fun _ _ _ h => h) ?hy2_14 ?ha2_14 ?rest2_14
    case hy2_14 => exact Or.inr ⟨rfl, rfl⟩
    case ha2_14 => go_simp; rfl
    refine pure_ (i := 12) (a' := ?a2_15) (v := .bool false) #[true, true, true, true, true, true, true, true, true, true, true, true, true] rfl rfl (by kernel_rfl) (fun _ _ _ h => h) (Or.inl ⟨rfl, ?hy2_15⟩) ?ha2_15 ?rest2_15
    case hy2_15 => intro w; first | (go_simp; done) | (go_simp; with_reducible rfl) | (go_simp; rfl)
    case ha2_15 => go_simp; rfl
    refine done_ (by kernel_rfl) ?_
    replace J3 := Aside0.mk hS_.out.1
    replace J4 := Aside0.mk hS_.out.2.1
    replace J5 := Aside0.mk hS_.out.2.2.1
    replace JF := Aside0.mk (below_step JF.out hS_.out.2.2.2)
    replace JB := Aside0.mk (below_step JB.out hS_.out.2.2.2)
    clear hS_ hS JFr JC JX heq
    go_wp2_with (first | ((with_reducible refine gate_dst (N := 62) rfl ?_); refine conv_own ?hg (N := 62) ?hd (.tmp 61) ?ho s ?hx (by omega) 53 Hz.out ?_; (case hg => rfl); (case hd => rfl); (case ho => rfl); (case hx => rfl); intro gD cD v9 hg_ hc_ hB_ hb_; have JD : Aside0 (Bcl v9 gD F) := ⟨by rw [← HFb0.out]; exact hB_⟩; have hcD := hc_; have HGD : w.heap.size ≤ gD ∧ v2.heap.size ≤ gD ∧ g3 < gD ∧ g4 < gD ∧ g5 < gD := (by rw [hg_]; exact ⟨JB.out.size, JF.out.size, blk_lt J3.out, blk_lt J4.out, blk_lt J5.out⟩); replace J3 := Aside0.mk (blk_below J3.out hb_); replace J4 := Aside0.mk (blk_below J4.out hb_); replace J5 := Aside0.mk (blk_below J5.out hb_); replace JF := Aside0.mk (below_step JF.out hb_); replace JB := Aside0.mk (below_step JB.out hb_); have hct0 := (blk_cell J5.out 0).trans rfl; have HgD := Aside0.mk (show w.heap.size ≤ gD ∧ v2.heap.size ≤ gD ∧ g3 < gD ∧ g4 < gD ∧ g5 < gD from HGD); clear hg_ hc_ hB_ hb_))
    obtain ⟨q, hq⟩ : ∃ q : Nat, (q : Int) = (m : Int) % 53 := ⟨m % 53, by omega⟩
    have hq53 : q < 53 := by omega
    rw [← hq]
    clear hq hct0
    obtain ⟨bx, hbx⟩ : ∃ b, b = F.getD q 0 := ⟨_, rfl⟩
    have hbr : 0 ≤ bx ∧ bx ≤ 255 := by rw [hbx]; exact HFl.out.2.1.getD q
    obtain ⟨z, hz⟩ : ∃ z, z = Go.bits .xor .u8 bx y := ⟨_, rfl⟩
    have Hz2 : Aside0 ((0 ≤ z ∧ z ≤ 255) ∧ z = Go.bits .xor .u8 bx y ∧ bx = F.getD q 0) := ⟨⟨by rw [hz]; exact xo_byt hbr Hy.out, hz, hbx⟩⟩
    have HJ1 := JD.out.1 q (by rw [HFl.out.1]; exact hq53)
    rw [← hbx] at HJ1
    replace HJ1 := Aside0.mk HJ1
    have HJ2 : Aside0 (v9.cell? ⟨g5, 1, none⟩ = some (.int .u8 y)) := ⟨(blk_cell J5.out 1).trans rfl⟩
    have hbr2 := Aside0.mk hbr
    clear hbx hbr hz
    have hS : (fun W : World => Aside0 (W.cell? ⟨g5, 1, none⟩ = some (.int .u8 y) ∧ W.cell? ⟨gD, q, none⟩ = some (.int .u8 bx))) v9.drew := ⟨HJ2.out, HJ1.out.1⟩
    refine start_ (S := (fun W : World => Aside0 (W.cell? ⟨g5, 1, none⟩ = some (.int .u8 y) ∧ W.cell? ⟨gD, q, none⟩ = some (.int .u8 bx)))) (ds := [8]) #[false, false, false, false, false, false, false, false, false] (by kernel_rfl) rfl rfl hS ?_
    intro hS_
    refine pure_ (i := 0) (a' := ?a3_1) (v := .slice (some ⟨gD, 0, none⟩) 53 cD) #[true, false, false, false, false, false, false, false, false] rfl rfl (by kernel_rfl) (fun _ _ _ h => h) (Or.inl ⟨rfl, ?hy3_1⟩) ?ha3_1 ?rest3_1
    case hy3_1 => intro w; first | (go_simp; done) | (go_simp; with_reducible rfl) | (go_simp; rfl)
    case ha3_1 => go_simp; rfl
    refine pure_ (i := 1) (a' := ?a3_2) (v := .int .i64 (q : Nat)) #[true, true, false, false, false, false, false, false, false] rfl rfl (by kernel_rfl) (fun _ _ _ h => h) (Or.inl ⟨rfl, ?hy3_2⟩) ?ha3_2 ?rest3_2
    case hy3_2 => intro w; first | (go_simp; done) | (go_simp; with_reducible rfl) | (go_simp; rfl)
    case ha3_2 => go_simp; rfl
    refine pure_ (i := 2) (a' := ?a3_3) (v := .pointer (some ⟨gD, q, none⟩)) #[true, true, true, false, false, false, false, false, false] rfl rfl (by kernel_rfl) (fun _ _ _ h => h) (Or.inl ⟨rfl, ?hy3_3⟩) ?ha3_3 ?rest3_3
    case hy3_3 => intro w; (have h3 : (q : Int) < 53 := (by omega); have h4 : (0 : Int) ≤ (q : Int) := (by omega); first | (go_simp; done) | (go_simp; rfl))
    case ha3_3 => go_simp; rfl
    refine take_ (i := 3) (a' := ?a3_4) (v := .int .u8 bx) #[true, true, true, true, false, false, false, false, false] rfl rfl (by kernel_rfl) (fun _ _ _ h => h) (yields_cell rfl (fun w h => by have h8 := h.out.2; (first | (go_simp; done) | (go_simp; with_reducible rfl) | (go_simp; rfl)))) hS_ ?ha3_4 ?rest3_4
    case ha3_4 => go_simp; rfl
    refine pure_ (i := 4) (a' := ?a3_5) (v := .pointer (some ⟨g5, 1, none⟩)) #[true, true, true, true, true, false, false, false, false] rfl rfl (by kernel_rfl) (fun _ _ _ h => h) (Or.inl ⟨rfl, ?hy3_5⟩) ?ha3_5 ?rest3_5
    case hy3_5 => intro w; first | (go_simp; done) | (go_simp; with_reducible rfl) | (go_simp; rfl)
    case ha3_5 => go_simp; rfl
    refine take_ (i := 5) (a' := ?a3_6) (v := .int .u8 y) #[true, true, true, true, true, true, false, false, false] rfl rfl (by kernel_rfl) (fun _ _ _ h => h) (yields_cell rfl (fun w h => by have h8 := h.out.1; (first | (go_simp; done) | (go_simp; with_reducible rfl) | (go_simp; rfl)))) hS_ ?ha3_6 ?rest3_6
    case ha3_6 => go_simp; rfl
    refine pure_ (i := 6) (a' := ?a3_7) (v := .int .u8 z) #[true, true, true, true, true, true, true, false, false] rfl rfl (by kernel_rfl) (fun _ _ _ h => h) (Or.inl ⟨rfl, ?hy3_7⟩) ?ha3_7 ?rest3_7
    case hy3_7 => intro w; (rw [Hz2.out.2.1]; first | (go_simp; done) | (go_simp; rfl))
    case ha3_7 => go_simp; rfl
    refine pure_ (i := 7) (a' := ?a3_8) (v := .pointer (some ⟨gD, q, none⟩)) #[true, true, true, true, true, true, true, true, false] rfl rfl (by kernel_rfl) (fun _ _ _ h => h) (Or.inl ⟨rfl, ?hy3_8⟩) ?ha3_8 ?rest3_8
    case hy3_8 => intro w; (have h3 : (q : Int) < 53 := (by omega); have h4 : (0 : Int) ≤ (q : Int) := (by omega); first | (go_simp; done) | (go_simp; rfl))
    case ha3_8 => go_simp; rfl
    refine last_ (i := 8) #[true, true, true, true, true, true, true, true, true] rfl rfl (by kernel_rfl) (by decide) ?_
    intro K_ hK_
    unfold Shut at hK_
    refine skip_ (w1 := v9.drew.setCell ⟨gD, q, none⟩ (.int .u8 z)) rfl rfl (by have h1 : (v9.drew).cell? ⟨gD, q, none⟩ = some (.int .u8 bx) := HJ1.out.1; have h2 : (v9.drew).frozen? ⟨gD, q, none⟩ = false := HJ1.out.2; first | (go_simp; done) | (go_simp; rfl)) ?_; refine hK_ _ _ ?_; clear hK_
    refine done_ (by kernel_rfl) ?_
    replace JD : Aside0 (Bcl (v9.drew.setCell ⟨gD, q, none⟩ (.int .u8 z)) gD (F.set q z)) := ⟨Bcl.set (W := v9.drew) JD.out q z (by rw [HFl.out.1]; exact hq53)⟩
    replace J3 := Aside0.mk (blk_far (w := v9.drew) (p := ⟨gD, q, none⟩) J3.out (Nat.ne_of_lt HgD.out.2.2.1) (.int .u8 z))
    replace J4 := Aside0.mk (blk_far (w := v9.drew) (p := ⟨gD, q, none⟩) J4.out (Nat.ne_of_lt HgD.out.2.2.2.1) (.int .u8 z))
    replace J5 := Aside0.mk (blk_far (w := v9.drew) (p := ⟨gD, q, none⟩) J5.out (Nat.ne_of_lt HgD.out.2.2.2.2) (.int .u8 z))
    replace JF := Aside0.mk ((below_drew JF.out).setCell (p := ⟨gD, q, none⟩) HgD.out.2.1 (.int .u8 z))
    replace JB := Aside0.mk ((below_drew JB.out).setCell (p := ⟨gD, q, none⟩) HgD.out.1 (.int .u8 z))
    obtain ⟨wA, hwA⟩ : ∃ W, W = v9.drew.setCell ⟨gD, q, none⟩ (.int .u8 z) := ⟨_, rfl⟩
    rw [← hwA] at JD J3 J4 J5 JF JB
    try rw [← hwA]
    clear hwA hS hS_ HJ1 HJ2
    have HFs : Aside0 (Byt (F.set q z) ∧ (F.set q z).length = 53) := ⟨set_byte HFl.out.2.1 Hz2.out.1, by rw [List.length_set]; exact HFl.out.1⟩
    obtain ⟨s2, hs2⟩ : ∃ s2, s2 = strOfNums (F.set q z) := ⟨_, rfl⟩
    have Hs2 : Aside0 (strOfNums (F.set q z) = s2) := ⟨hs2.symm⟩
    have hs2z : s2.size ≤ 1000 := by rw [hs2, ← bytesOf_length, bytes_back HFs.out.1, HFs.out.2]; decide
    have Hs2z := Aside0.mk hs2z
    obtain ⟨X2, hX2⟩ : ∃ X, X = refT k0 s2 := ⟨_, rfl⟩
    have HX2 : Aside0 (refT k0 s2 = X2) := ⟨hX2.symm⟩
    obtain ⟨⟨p2, e2, n2⟩, r2⟩ := X2
    clear hs2 hs2z hX2
    have JDC : Aside0 ((Kd.int .u8).C wA (some ⟨gD, 0, none⟩) 53 (F.set q z)) := ⟨by have h := Bcl.C JD.out; rwa [HFs.out.2] at h⟩
    go_wp2_with (first | ((with_reducible refine gate_dst (N := 78) rfl ?_); refine conv_str2 ?hg (N := 78) ?hd (.tmp 77) ?ho (c := cD) ?hx JDC.out s2 Hs2.out ?_; (case hg => rfl); (case hd => rfl); (case ho => rfl); (case hx => rfl)))
    refine (open46_any (s := s2) _ (HT.out.below JB.out) (HFa.out.below JF.out) Hs2z.out).mono ?_
    rintro e vB ⟨rfl, hb⟩
    rw [openT_ref, HX2.out]
    replace J3 := Aside0.mk (blk_below J3.out hb)
    replace J4 := Aside0.mk (blk_below J4.out hb)
    replace J5 := Aside0.mk (blk_below J5.out hb)
    replace JF := Aside0.mk (below_step JF.out hb)
    replace JB := Aside0.mk (below_step JB.out hb)
    replace JD := Aside0.mk (Bcl.below JD.out hb)
    clear hb JDC
    go_wp2_with (first | ((with_reducible refine gate_dst (N := 15) rfl ?_); refine box_event ?hg (N := 15) ?hd (cs := #[.int .u32 0, .int .i64 0, .int .u64 0]) (t := 60) ?hr ?_; (case hd => rfl); (case hg => rfl); (case hr => first | (go_simp; done) | (go_simp; rfl)); intro g15 hg_ wB hbox_ hb_; have JX := Aside0.mk hbox_; have Ng := Aside0.mk (show w.heap.size ≤ g15 from Nat.le_trans JB.out.size (Nat.le_of_eq hg_.symm)); have NF := Aside0.mk (show v2.heap.size ≤ g15 from Nat.le_trans JF.out.size (Nat.le_of_eq hg_.symm)); have NJ3 := Aside0.mk (show g3 ≠ g15 from by have := blk_lt J3.out; omega); have NJ4 := Aside0.mk (show g4 ≠ g15 from by have := blk_lt J4.out; omega); have NJ5 := Aside0.mk (show g5 ≠ g15 from by have := blk_lt J5.out; omega); have ND := Aside0.mk (show gD ≠ g15 from by have := JD.out.2.1; omega); replace J3 := Aside0.mk (blk_below J3.out hb_); replace J4 := Aside0.mk (blk_below J4.out hb_); replace J5 := Aside0.mk (blk_below J5.out hb_); replace JF := Aside0.mk (below_step JF.out hb_); replace JB := Aside0.mk (below_step JB.out hb_); replace JD := Aside0.mk (Bcl.below JD.out hb_);clear hg_ hbox_ hb_) | ((with_reducible refine gate_store (t := 60) (p := 15) rfl ?_); refine store_row ?hg (ty := 60) (p := 15) (v := ?vr_2) ?ho ?hd (g := g15) (t := 60) (old := #[.int .u32 0, .int .i64 0, .int .u64 0]) (cells := #[.int .u32 (p2 : Nat), .int .i64 e2, .int .u64 (n2 : Nat)]) ?hx ?hy JX.out size60 rfl (by simp [Value.oneCell']) ?_; (case hd => rfl); (case hg => rfl); (case ho => rfl); (case hx => rfl); (case hy => rfl); intro wC hbox_ hk_ hb_; replace JX := Aside0.mk hbox_; replace J3 := Aside0.mk ((hk_.2 g3 (blk_lt J3.out) NJ3.out).trans J3.out); replace J4 := Aside0.mk ((hk_.2 g4 (blk_lt J4.out) NJ4.out).trans J4.out); replace J5 := Aside0.mk ((hk_.2 g5 (blk_lt J5.out) NJ5.out).trans J5.out); replace JD := Aside0.mk (Bcl.block JD.out (hk_.2 gD JD.out.2.1 ND.out) hk_.1); replace JF := Aside0.mk (JF.out.trans (hb_.mono NF.out)); replace JB := Aside0.mk (JB.out.trans (hb_.mono Ng.out)); have hca0 := (blk_cell J3.out 0).trans rfl; have JDC : Aside0 ((Kd.int .u8).C wC (some ⟨gD, 0, none⟩) 53 (F.set q z)) := ⟨by have h := Bcl.C JD.out; rwa [HFs.out.2] at h⟩;clear hbox_ hk_ hb_) | ((with_reducible refine gate_dst (N := 86) rfl ?_); refine conv_str2 ?hg (N := 86) ?hd (.tmp 85) ?ho (c := cD) ?hx JDC.out s2 Hs2.out ?_; (case hg => rfl); (case hd => rfl); (case ho => rfl); (case hx => rfl)))
    have J15 := JX
    clear JX hca0 JDC
    refine (ref47_any (s := s2) (key := k0) _ (Kd.C_below HC0.out JB.out) hc0 Hb0.out Hm0.out Hs2z.out).mono ?_
    rintro e vC ⟨rfl, hb⟩
    rw [HX2.out]
    replace J3 := Aside0.mk (blk_below J3.out hb)
    replace J4 := Aside0.mk (blk_below J4.out hb)
    replace J5 := Aside0.mk (blk_below J5.out hb)
    replace J15 := Aside0.mk (blk_below J15.out hb)
    replace JF := Aside0.mk (below_step JF.out hb)
    replace JB := Aside0.mk (below_step JB.out hb)
    clear hb JD
    by_cases hy0 : y = 0
    · have hR : ((⟨p2, e2, n2⟩ : Tk), r2) = (t, 0) := by
        rw [← HX2.out, ← Hs2.out, Hz2.out.2.1, hy0]
        have h1 : Go.bits .xor .u8 bx 0 = bx := xo_id hbr2.out
        rw [h1, Hz2.out.2.2, set_same (by rw [HFl.out.1]; exact hq53), HFe.out]
        exact refT_seal k0 Ht.out
      injection hR with hR1 hR2
      have hp2 : p2 = t.p := by rw [← hR1]
      have he2 : e2 = t.e := by rw [← hR1]
      have hn2 : n2 = t.n := by rw [← hR1]
      subst hp2
      subst he2
      subst hn2
      subst hR2
      subst hy0
      clear hR1
      go_wp2_with (first | ((with_reducible refine gate_dst (N := 17) rfl ?_); refine box_event ?hg (N := 17) ?hd (cs := #[.int .u32 0, .int .i64 0, .int .u64 0]) (t := 53) ?hr ?_; (case hd => rfl); (case hg => rfl); (case hr => first | (go_simp; done) | (go_simp; rfl)); intro g17 hg_ wD hbox_ hb_; have JX := Aside0.mk hbox_; have Ng := Aside0.mk (show w.heap.size ≤ g17 from Nat.le_trans JB.out.size (Nat.le_of_eq hg_.symm)); have NF := Aside0.mk (show v2.heap.size ≤ g17 from Nat.le_trans JF.out.size (Nat.le_of_eq hg_.symm)); have NJ3 := Aside0.mk (show g3 ≠ g17 from by have := blk_lt J3.out; omega); have NJ4 := Aside0.mk (show g4 ≠ g17 from by have := blk_lt J4.out; omega); have NJ5 := Aside0.mk (show g5 ≠ g17 from by have := blk_lt J5.out; omega); have NJ15 := Aside0.mk (show g15 ≠ g17 from by have := blk_lt J15.out; omega); replace J3 := Aside0.mk (blk_below J3.out hb_); replace J4 := Aside0.mk (blk_below J4.out hb_); replace J5 := Aside0.mk (blk_below J5.out hb_); replace J15 := Aside0.mk (blk_below J15.out hb_); replace JF := Aside0.mk (below_step JF.out hb_); replace JB := Aside0.mk (below_step JB.out hb_);clear hg_ hbox_ hb_) | ((with_reducible refine gate_store (t := 53) (p := 17) rfl ?_); refine store_row ?hg (ty := 53) (p := 17) (v := ?vr_3) ?ho ?hd (g := g17) (t := 53) (old := #[.int .u32 0, .int .i64 0, .int .u64 0]) (cells := #[.int .u32 (t.p : Nat), .int .i64 t.e, .int .u64 (t.n : Nat)]) ?hx ?hy JX.out size53 rfl (by simp [Value.oneCell']) ?_; (case hd => rfl); (case hg => rfl); (case ho => rfl); (case hx => rfl); (case hy => rfl); intro wE hbox_ hk_ hb_; replace JX := Aside0.mk hbox_; replace J3 := Aside0.mk ((hk_.2 g3 (blk_lt J3.out) NJ3.out).trans J3.out); replace J4 := Aside0.mk ((hk_.2 g4 (blk_lt J4.out) NJ4.out).trans J4.out); replace J5 := Aside0.mk ((hk_.2 g5 (blk_lt J5.out) NJ5.out).trans J5.out); replace J15 := Aside0.mk ((hk_.2 g15 (blk_lt J15.out) NJ15.out).trans J15.out); replace JF := Aside0.mk (JF.out.trans (hb_.mono NF.out)); replace JB := Aside0.mk (JB.out.trans (hb_.mono Ng.out)); have hct1 := (blk_cell J5.out 1).trans rfl;clear hbox_ hk_ hb_))
      have hS : Sot wE g15 g4 #[.int .u32 (t.p : Nat), .int .i64 t.e, .int .u64 (t.n : Nat)] 60 #[.int .u32 (t.p : Nat), .int .i64 t.e, .int .u64 (t.n : Nat)] 53 wE.drew := ⟨J15.out, J4.out, below_drew (Below.refl _ _)⟩
      refine start_ (S := Sot wE g15 g4 #[.int .u32 (t.p : Nat), .int .i64 t.e, .int .u64 (t.n : Nat)] 60 #[.int .u32 (t.p : Nat), .int .i64 t.e, .int .u64 (t.n : Nat)] 53) (ds := []) #[false, false, false, false, false, false, false, false, false, false, false, false] (by kernel_rfl) rfl rfl hS ?_
      intro hS_
      refine pure_ (i := 0) (a' := ?a4_1) (v := .int .i64 0) #[true, false, false, false, false, false, false, false, false, false, false, false] rfl rfl (by kernel_rfl) (fun _ _ _ h => h) (Or.inl ⟨rfl, ?hy4_1⟩) ?ha4_1 ?rest4_1
      case hy4_1 => intro w; first | (go_simp; done) | (go_simp; with_reducible rfl) | (go_simp; rfl)
      case ha4_1 => go_simp; rfl
      refine pure_ (i := 1) (a' := ?a4_2) (v := .bool true) #[true, true, false, false, false, false, false, false, false, false, false, false] rfl rfl (by kernel_rfl) (fun _ _ _ h => h) (Or.inl ⟨rfl, ?hy4_2⟩) ?ha4_2 ?rest4_2
      case hy4_2 => intro w; first | (go_simp; done) | (go_simp; with_reducible rfl) | (go_simp; rfl)
      case ha4_2 => go_simp; rfl
      refine pure_ (i := 2) (a' := ?a4_3) (v := .bool true) #[true, true, true, false, false, false, false, false, false, false, false, false] rfl rfl (by kernel_rfl) (fun _ _ _ h => h) (Or.inl ⟨rfl, ?hy4_3⟩) ?ha4_3 ?rest4_3
      case hy4_3 => intro w; first | (go_simp; done) | (go_simp; with_reducible rfl) | (go_simp; rfl)
      case ha4_3 => go_simp; rfl
      refine take_ (i := 3) (a' := ?a4_4) (v := .agg #[.int .u32 (t.p : Nat), .int .i64 t.e, .int .u64 (t.n : Nat)]) #[true, true, true, true, false, false, false, false, false, false, false, false] rfl rfl (by kernel_rfl) (fun _ _ _ h => h) (yields_row rfl 60 (.tmp 15) rfl g15 0 rfl #[.int .u32 (t.p : Nat), .int .i64 t.e, .int .u64 (t.n : Nat)] _ (fun w h => range_block h.out.1 _ ⟨[], by rw [List.append_nil]⟩) hu60 rfl size60) hS_ ?ha4_4 ?rest4_4
      case ha4_4 => go_simp; rfl
      refine take_ (i := 4) (a' := ?a4_5) (v := .agg #[.int .u32 (t.p : Nat), .int .i64 t.e, .int .u64 (t.n : Nat)]) #[true, true, true, true, true, false, false, false, false, false, false, false] rfl rfl (by kernel_rfl) (fun _ _ _ h => h) (yields_row rfl 53 (.tmp 4) rfl g4 0 rfl #[.int .u32 (t.p : Nat), .int .i64 t.e, .int .u64 (t.n : Nat)] _ (fun w h => range_block h.out.2.1 _ ⟨[], by rw [List.append_nil]⟩) hu53 rfl size53) hS_ ?ha4_5 ?rest4_5
      case ha4_5 => go_simp; rfl
      refine one_ (i := 5) #[true, true, true, true, true, true, false, false, false, false, false, false] rfl rfl (by kernel_rfl) (by decide) ?_
      intro K_ hK_
      unfold Shut at hK_
      refine goes_ Tryd.func38 (by kernel_rfl) (by kernel_rfl) #[.agg #[.int .u32 (t.p : Nat), .int .i64 t.e, .int .u64 (t.n : Nat)]] rfl rfl rfl (by go_simp) ?_; refine (ticket38 (t := t) _).mono ?_; rintro e zy ⟨rfl, hb6⟩; have hS2 := hS_.next hb6; clear hb6; refine ⟨_, rfl, hK_ _ _ hS2 (fun hS_ => ?_)⟩; clear hK_ hS2
      refine norm_ (a' := ?a4_7n) ?ha4_7n ?rest4_7n
      case ha4_7n => go_simp; rfl
      refine pure_ (i := 6) (a' := ?a4_8) (v := .bool true) #[true, true, true, true, true, true, true, false, false, false, false, false] rfl rfl (by kernel_rfl) (fun _ _ _ h => h) (Or.inl ⟨rfl, ?hy4_8⟩) ?ha4_8 ?rest4_8
      case hy4_8 => intro w; first | (go_simp; done) | (go_simp; with_reducible rfl) | (go_simp; rfl)
      case ha4_8 => go_simp; rfl
      refine pure_ (i := 7) (a' := ?a4_9) (v := .bool true) #[true, true, true, true, true, true, true, true, false, false, false, false] rfl rfl (by kernel_rfl) (fun _ _ _ h => h) (Or.inl ⟨rfl, ?hy4_9⟩) ?ha4_9 ?rest4_9
      case hy4_9 => intro w; first | (go_simp; done) | (go_simp; with_reducible rfl) | (go_simp; rfl)
      case ha4_9 => go_simp; rfl
      refine pure_ (i := 8) (a' := ?a4_10) (v := .bool true) #[true, true, true, true, true, true, true, true, true, false, false, false] rfl rfl (by kernel_rfl) (fun _ _ _ h => h) (Or.inl ⟨rfl, ?hy4_10⟩) ?ha4_10 ?rest4_10
      case hy4_10 => intro w; first | (go_simp; done) | (go_simp; with_reducible rfl) | (go_simp; rfl)
      case ha4_10 => go_simp; rfl
      refine one_ (i := 9) #[true, true, true, true, true, true, true, true, true, true, false, false] rfl rfl (by kernel_rfl) (by decide) ?_
      intro K_ hK_
      unfold Shut at hK_
      refine goes_ Tryd.func44 (by kernel_rfl) (by kernel_rfl) #[] rfl rfl rfl (by go_simp) ?_; refine (awake44_any _ (HT.out.below (below_step JB.out hS_.out.2.2))).mono ?_; rintro e zz ⟨rfl, hb6⟩; have hS2 := hS_.next hb6; clear hb6; refine ⟨_, rfl, hK_ _ _ hS2 (fun hS_ => ?_)⟩; clear hK_ hS2
      refine norm_ (a' := ?a4_12n) ?ha4_12n ?rest4_12n
      case ha4_12n => go_simp; rfl
      refine pure_ (i := 10) (a' := ?a4_13) (v := .bool true) #[true, true, true, true, true, true, true, true, true, true, true, false] rfl rfl (by kernel_rfl) (fun _ _ _ h => h) (Or.inl ⟨rfl, ?hy4_13⟩) ?ha4_13 ?rest4_13
      case hy4_13 => intro w; first | (go_simp; done) | (go_simp; with_reducible rfl) | (go_simp; rfl)
      case ha4_13 => go_simp; rfl
      refine pure_ (i := 11) (a' := ?a4_14) (v := .bool true) #[true, true, true, true, true, true, true, true, true, true, true, true] rfl rfl (by kernel_rfl) (fun _ _ _ h => h) (Or.inl ⟨rfl, ?hy4_14⟩) ?ha4_14 ?rest4_14
      case hy4_14 => intro w; first | (go_simp; done) | (go_simp; with_reducible rfl) | (go_simp; rfl)
      case ha4_14 => go_simp; rfl
      refine done_ (by kernel_rfl) ?_
      have HBf := Aside0.mk (below_step JB.out hS_.out.2.2)
      go_wp2_with fail
      go_ret
      exact ⟨rfl, HBf.out⟩
    · have hyn : (y == 0) = false := by simpa using hy0
      go_wp2_with (first | ((with_reducible refine gate_dst (N := 17) rfl ?_); refine box_event ?hg (N := 17) ?hd (cs := #[.int .u32 0, .int .i64 0, .int .u64 0]) (t := 53) ?hr ?_; (case hd => rfl); (case hg => rfl); (case hr => first | (go_simp; done) | (go_simp; rfl)); intro g17 hg_ wD hbox_ hb_; have JX := Aside0.mk hbox_; have Ng := Aside0.mk (show w.heap.size ≤ g17 from Nat.le_trans JB.out.size (Nat.le_of_eq hg_.symm)); have NF := Aside0.mk (show v2.heap.size ≤ g17 from Nat.le_trans JF.out.size (Nat.le_of_eq hg_.symm)); have NJ3 := Aside0.mk (show g3 ≠ g17 from by have := blk_lt J3.out; omega); have NJ4 := Aside0.mk (show g4 ≠ g17 from by have := blk_lt J4.out; omega); have NJ5 := Aside0.mk (show g5 ≠ g17 from by have := blk_lt J5.out; omega); have NJ15 := Aside0.mk (show g15 ≠ g17 from by have := blk_lt J15.out; omega); replace J3 := Aside0.mk (blk_below J3.out hb_); replace J4 := Aside0.mk (blk_below J4.out hb_); replace J5 := Aside0.mk (blk_below J5.out hb_); replace J15 := Aside0.mk (blk_below J15.out hb_); replace JF := Aside0.mk (below_step JF.out hb_); replace JB := Aside0.mk (below_step JB.out hb_);clear hg_ hbox_ hb_) | ((with_reducible refine gate_store (t := 53) (p := 17) rfl ?_); refine store_row ?hg (ty := 53) (p := 17) (v := ?vr_4) ?ho ?hd (g := g17) (t := 53) (old := #[.int .u32 0, .int .i64 0, .int .u64 0]) (cells := #[.int .u32 (p2 : Nat), .int .i64 e2, .int .u64 (n2 : Nat)]) ?hx ?hy JX.out size53 rfl (by simp [Value.oneCell']) ?_; (case hd => rfl); (case hg => rfl); (case ho => rfl); (case hx => rfl); (case hy => rfl); intro wE hbox_ hk_ hb_; replace JX := Aside0.mk hbox_; replace J3 := Aside0.mk ((hk_.2 g3 (blk_lt J3.out) NJ3.out).trans J3.out); replace J4 := Aside0.mk ((hk_.2 g4 (blk_lt J4.out) NJ4.out).trans J4.out); replace J5 := Aside0.mk ((hk_.2 g5 (blk_lt J5.out) NJ5.out).trans J5.out); replace J15 := Aside0.mk ((hk_.2 g15 (blk_lt J15.out) NJ15.out).trans J15.out); replace JF := Aside0.mk (JF.out.trans (hb_.mono NF.out)); replace JB := Aside0.mk (JB.out.trans (hb_.mono Ng.out)); have hct1 := (blk_cell J5.out 1).trans rfl;clear hbox_ hk_ hb_))
      by_cases hq0 : q = 0
      · have hr7 : r2 = 7 := by
          have h := refT_first (k0 := k0) (F := F) (z := z) (by rw [← hq0]; exact HFs.out.1) (by rw [HFl.out.1]; decide) (by
            rw [Hz2.out.2.1]
            have h1 : bx = 116 := by rw [Hz2.out.2.2, hq0]; exact HFl.out.2.2.2
            rw [← h1]
            exact xo_ne hbr2.out Hy.out hy0)
          rw [hq0] at Hs2
          rw [Hs2.out, HX2.out] at h
          exact h
        subst hr7
        subst hq0
        have hS : Sot wE g15 g17 #[.int .u32 (p2 : Nat), .int .i64 e2, .int .u64 (n2 : Nat)] 60 #[.int .u32 (p2 : Nat), .int .i64 e2, .int .u64 (n2 : Nat)] 53 wE.drew := ⟨J15.out, JX.out, below_drew (Below.refl _ _)⟩
        refine start_ (S := Sot wE g15 g17 #[.int .u32 (p2 : Nat), .int .i64 e2, .int .u64 (n2 : Nat)] 60 #[.int .u32 (p2 : Nat), .int .i64 e2, .int .u64 (n2 : Nat)] 53) (ds := []) #[false, false, false, false, false, false, false, false, false, false, false, false, false, false, false, false, false, false, false, false, false] (by kernel_rfl) rfl rfl hS ?_
        intro hS_
        refine pure_ (i := 0) (a' := ?a5_1) (v := .int .i64 7) #[true, false, false, false, false, false, false, false, false, false, false, false, false, false, false, false, false, false, false, false, false] rfl rfl (by kernel_rfl) (fun _ _ _ h => h) (Or.inl ⟨rfl, ?hy5_1⟩) ?ha5_1 ?rest5_1
        case hy5_1 => intro w; first | (go_simp; done) | (go_simp; with_reducible rfl) | (go_simp; rfl)
        case ha5_1 => go_simp; rfl
        refine pure_ (i := 1) (a' := ?a5_2) (v := .int .i64 7) #[true, true, false, false, false, false, false, false, false, false, false, false, false, false, false, false, false, false, false, false, false] rfl rfl (by kernel_rfl) (fun _ _ _ h => h) (Or.inl ⟨rfl, ?hy5_2⟩) ?ha5_2 ?rest5_2
        case hy5_2 => intro w; first | (go_simp; done) | (go_simp; with_reducible rfl) | (go_simp; rfl)
        case ha5_2 => go_simp; rfl
        refine pure_ (i := 2) (a' := ?a5_3) (v := .bool true) #[true, true, true, false, false, false, false, false, false, false, false, false, false, false, false, false, false, false, false, false, false] rfl rfl (by kernel_rfl) (fun _ _ _ h => h) (Or.inl ⟨rfl, ?hy5_3⟩) ?ha5_3 ?rest5_3
        case hy5_3 => intro w; first | (go_simp; done) | (go_simp; with_reducible rfl) | (go_simp; rfl)
        case ha5_3 => go_simp; rfl
        refine pure_ (i := 3) (a' := ?a5_4) (v := .bool true) #[true, true, true, true, false, false, false, false, false, false, false, false, false, false, false, false, false, false, false, false, false] rfl rfl (by kernel_rfl) (fun _ _ _ h => h) (Or.inl ⟨rfl, ?hy5_4⟩) ?ha5_4 ?rest5_4
        case hy5_4 => intro w; first | (go_simp; done) | (go_simp; with_reducible rfl) | (go_simp; rfl)
        case ha5_4 => go_simp; rfl
        refine take_ (i := 4) (a' := ?a5_5) (v := .agg #[.int .u32 (p2 : Nat), .int .i64 e2, .int .u64 (n2 : Nat)]) #[true, true, true, true, true, false, false, false, false, false, false, false, false, false, false, false, false, false, false, false, false] rfl rfl (by kernel_rfl) (fun _ _ _ h => h) (yields_row rfl 60 (.tmp 15) rfl g15 0 rfl #[.int .u32 (p2 : Nat), .int .i64 e2, .int .u64 (n2 : Nat)] _ (fun w h => range_block h.out.1 _ ⟨[], by rw [List.append_nil]⟩) hu60 rfl size60) hS_ ?ha5_5 ?rest5_5
        case ha5_5 => go_simp; rfl
        refine take_ (i := 5) (a' := ?a5_6) (v := .agg #[.int .u32 (p2 : Nat), .int .i64 e2, .int .u64 (n2 : Nat)]) #[true, true, true, true, true, true, false, false, false, false, false, false, false, false, false, false, false, false, false, false, false] rfl rfl (by kernel_rfl) (fun _ _ _ h => h) (yields_row rfl 53 (.tmp 17) rfl g17 0 rfl #[.int .u32 (p2 : Nat), .int .i64 e2, .int .u64 (n2 : Nat)] _ (fun w h => range_block h.out.2.1 _ ⟨[], by rw [List.append_nil]⟩) hu53 rfl size53) hS_ ?ha5_6 ?rest5_6
        case ha5_6 => go_simp; rfl
        refine one_ (i := 6) #[true, true, true, true, true, true, true, false, false, false, false, false, false, false, false, false, false, false, false, false, false] rfl rfl (by kernel_rfl) (by decide) ?_
        intro K_ hK_
        unfold Shut at hK_
        refine goes_ Tryd.func38 (by kernel_rfl) (by kernel_rfl) #[.agg #[.int .u32 (p2 : Nat), .int .i64 e2, .int .u64 (n2 : Nat)]] rfl rfl rfl (by go_simp) ?_; refine (ticket38 (t := ⟨p2, e2, n2⟩) _).mono ?_; rintro e zy ⟨rfl, hb6⟩; have hS2 := hS_.next hb6; clear hb6; refine ⟨_, rfl, hK_ _ _ hS2 (fun hS_ => ?_)⟩; clear hK_ hS2
        refine norm_ (a' := ?a5_8n) ?ha5_8n ?rest5_8n
        case ha5_8n => go_simp; rfl
        refine pure_ (i := 7) (a' := ?a5_9) (v := .bool true) #[true, true, true, true, true, true, true, true, false, false, false, false, false, false, false, false, false, false, false, false, false] rfl rfl (by kernel_rfl) (fun _ _ _ h => h) (Or.inl ⟨rfl, ?hy5_9⟩) ?ha5_9 ?rest5_9
        case hy5_9 => intro w; first | (go_simp; done) | (go_simp; with_reducible rfl) | (go_simp; rfl)
        case ha5_9 => go_simp; rfl
        refine pure_ (i := 8) (a' := ?a5_10) (v := .bool true) #[true, true, true, true, true, true, true, true, true, false, false, false, false, false, false, false, false, false, false, false, false] rfl rfl (by kernel_rfl) (fun _ _ _ h => h) (Or.inl ⟨rfl, ?hy5_10⟩) ?ha5_10 ?rest5_10
        case hy5_10 => intro w; first | (go_simp; done) | (go_simp; with_reducible rfl) | (go_simp; rfl)
        case ha5_10 => go_simp; rfl
        refine pure_ (i := 9) (a' := ?a5_11) (v := .bool true) #[true, true, true, true, true, true, true, true, true, true, false, false, false, false, false, false, false, false, false, false, false] rfl rfl (by kernel_rfl) (fun _ _ _ h => h) (Or.inl ⟨rfl, ?hy5_11⟩) ?ha5_11 ?rest5_11
        case hy5_11 => intro w; first | (go_simp; done) | (go_simp; with_reducible rfl) | (go_simp; rfl)
        case ha5_11 => go_simp; rfl
        refine pure_ (i := 10) (a' := ?a5_12) (v := .int .i64 0) #[true, true, true, true, true, true, true, true, true, true, true, false, false, false, false, false, false, false, false, false, false] rfl rfl (by kernel_rfl) (fun _ _ _ h => h) (Or.inl ⟨rfl, ?hy5_12⟩) ?ha5_12 ?rest5_12
        case hy5_12 => intro w; first | (go_simp; done) | (go_simp; with_reducible rfl) | (go_simp; rfl)
        case ha5_12 => go_simp; rfl
        refine pure_ (i := 11) (a' := ?a5_13) (v := .bool false) #[true, true, true, true, true, true, true, true, true, true, true, true, false, false, false, false, false, false, false, false, false] rfl rfl (by kernel_rfl) (fun _ _ _ h => h) (Or.inl ⟨rfl, ?hy5_13⟩) ?ha5_13 ?rest5_13
        case hy5_13 => intro w; first | (go_simp; done) | (go_simp; with_reducible rfl) | (go_simp; rfl)
        case ha5_13 => go_simp; rfl
        refine pure_ (i := 12) (a' := ?a5_14) (v := .bool false) #[true, true, true, true, true, true, true, true, true, true, true, true, true, false, false, false, false, false, false, false, false] rfl rfl (by kernel_rfl) (fun _ _ _ h => h) (Or.inl ⟨rfl, ?hy5_14⟩) ?ha5_14 ?rest5_14
        case hy5_14 => intro w; first | (go_simp; done) | (go_simp; with_reducible rfl) | (go_simp; rfl)
        case ha5_14 => go_simp; rfl
        refine pure_ (i := 13) (a' := ?a5_15) (v := .int .i64 7) #[true, true, true, true, true, true, true, true, true, true, true, true, true, true, false, false, false, false, false, false, false] rfl rfl (by kernel_rfl) (fun _ _ _ h => h) (Or.inl ⟨rfl, ?hy5_15⟩) ?ha5_15 ?rest5_15
        case hy5_15 => intro w; first | (go_simp; done) | (go_simp; with_reducible rfl) | (go_simp; rfl)
        case ha5_15 => go_simp; rfl
        refine pure_ (i := 14) (a' := ?a5_16) (v := .bool true) #[true, true, true, true, true, true, true, true, true, true, true, true, true, true, true, false, false, false, false, false, false] rfl rfl (by kernel_rfl) (fun _ _ _ h => h) (Or.inl ⟨rfl, ?hy5_16⟩) ?ha5_16 ?rest5_16
        case hy5_16 => intro w; first | (go_simp; done) | (go_simp; with_reducible rfl) | (go_simp; rfl)
        case ha5_16 => go_simp; rfl
        refine pure_ (i := 15) (a' := ?a5_17) (v := .bool true) #[true, true, true, true, true, true, true, true, true, true, true, true, true, true, true, true, false, false, false, false, false] rfl rfl (by kernel_rfl) (fun _ _ _ h => h) (Or.inl ⟨rfl, ?hy5_17⟩) ?ha5_17 ?rest5_17
        case hy5_17 => intro w; first | (go_simp; done) | (go_simp; with_reducible rfl) | (go_simp; rfl)
        case ha5_17 => go_simp; rfl
        refine pure_ (i := 16) (a' := ?a5_18) (v := .bool true) #[true, true, true, true, true, true, true, true, true, true, true, true, true, true, true, true, true, false, false, false, false] rfl rfl (by kernel_rfl) (fun _ _ _ h => h) (Or.inl ⟨rfl, ?hy5_18⟩) ?ha5_18 ?rest5_18
        case hy5_18 => intro w; first | (go_simp; done) | (go_simp; with_reducible rfl) | (go_simp; rfl)
        case ha5_18 => go_simp; rfl
        refine pure_ (i := 17) (a' := ?a5_19) (v := .bool true) #[true, true, true, true, true, true, true, true, true, true, true, true, true, true, true, true, true, true, false, false, false] rfl rfl (by kernel_rfl) (fun _ _ _ h => h) (Or.inl ⟨rfl, ?hy5_19⟩) ?ha5_19 ?rest5_19
        case hy5_19 => intro w; first | (go_simp; done) | (go_simp; with_reducible rfl) | (go_simp; rfl)
        case ha5_19 => go_simp; rfl
        refine one_ (i := 18) #[true, true, true, true, true, true, true, true, true, true, true, true, true, true, true, true, true, true, true, false, false] rfl rfl (by kernel_rfl) (by decide) ?_
        intro K_ hK_
        unfold Shut at hK_
        refine goes_ Tryd.func44 (by kernel_rfl) (by kernel_rfl) #[] rfl rfl rfl (by go_simp) ?_; refine (awake44_any _ (HT.out.below (below_step JB.out hS_.out.2.2))).mono ?_; rintro e zz ⟨rfl, hb6⟩; have hS2 := hS_.next hb6; clear hb6; refine ⟨_, rfl, hK_ _ _ hS2 (fun hS_ => ?_)⟩; clear hK_ hS2
        refine norm_ (a' := ?a5_21n) ?ha5_21n ?rest5_21n
        case ha5_21n => go_simp; rfl
        refine pure_ (i := 19) (a' := ?a5_22) (v := .bool true) #[true, true, true, true, true, true, true, true, true, true, true, true, true, true, true, true, true, true, true, true, false] rfl rfl (by kernel_rfl) (fun _ _ _ h => h) (Or.inl ⟨rfl, ?hy5_22⟩) ?ha5_22 ?rest5_22
        case hy5_22 => intro w; first | (go_simp; done) | (go_simp; with_reducible rfl) | (go_simp; rfl)
        case ha5_22 => go_simp; rfl
        refine pure_ (i := 20) (a' := ?a5_23) (v := .bool true) #[true, true, true, true, true, true, true, true, true, true, true, true, true, true, true, true, true, true, true, true, true] rfl rfl (by kernel_rfl) (fun _ _ _ h => h) (Or.inl ⟨rfl, ?hy5_23⟩) ?ha5_23 ?rest5_23
        case hy5_23 => intro w; first | (go_simp; done) | (go_simp; with_reducible rfl) | (go_simp; rfl)
        case ha5_23 => go_simp; rfl
        refine done_ (by kernel_rfl) ?_
        have HBf := Aside0.mk (below_step JB.out hS_.out.2.2)
        go_wp2_with fail
        go_ret
        exact ⟨rfl, HBf.out⟩
      · have hqn : ((q : Int) != 0) = true := by rw [bne_iff_ne]; omega
        clear hq0
        have hS : Sot wE g15 g17 #[.int .u32 (p2 : Nat), .int .i64 e2, .int .u64 (n2 : Nat)] 60 #[.int .u32 (p2 : Nat), .int .i64 e2, .int .u64 (n2 : Nat)] 53 wE.drew := ⟨J15.out, JX.out, below_drew (Below.refl _ _)⟩
        refine start_ (S := Sot wE g15 g17 #[.int .u32 (p2 : Nat), .int .i64 e2, .int .u64 (n2 : Nat)] 60 #[.int .u32 (p2 : Nat), .int .i64 e2, .int .u64 (n2 : Nat)] 53) (ds := []) #[false, false, false, false, false, false, false, false, false, false, false, false, false, false, false, false, false, false, false, false, false] (by kernel_rfl) rfl rfl hS ?_
        intro hS_
        refine pure_ (i := 0) (a' := ?a6_1) (v := .int .i64 r2) #[true, false, false, false, false, false, false, false, false, false, false, false, false, false, false, false, false, false, false, false, false] rfl rfl (by kernel_rfl) (fun _ _ _ h => h) (Or.inl ⟨rfl, ?hy6_1⟩) ?ha6_1 ?rest6_1
        case hy6_1 => intro w; first | (go_simp; done) | (go_simp; with_reducible rfl) | (go_simp; rfl)
        case ha6_1 => go_simp; rfl
        refine pure_ (i := 1) (a' := ?a6_2) (v := .int .i64 r2) #[true, true, false, false, false, false, false, false, false, false, false, false, false, false, false, false, false, false, false, false, false] rfl rfl (by kernel_rfl) (fun _ _ _ h => h) (Or.inl ⟨rfl, ?hy6_2⟩) ?ha6_2 ?rest6_2
        case hy6_2 => intro w; first | (go_simp; done) | (go_simp; with_reducible rfl) | (go_simp; rfl)
        case ha6_2 => go_simp; rfl
        refine pure_ (i := 2) (a' := ?a6_3) (v := .bool true) #[true, true, true, false, false, false, false, false, false, false, false, false, false, false, false, false, false, false, false, false, false] rfl rfl (by kernel_rfl) (fun _ _ _ h => h) (Or.inl ⟨rfl, ?hy6_3⟩) ?ha6_3 ?rest6_3
        case hy6_3 => intro w; first | (go_simp; done) | (go_simp; with_reducible rfl) | (go_simp; rfl)
        case ha6_3 => go_simp; rfl
        refine pure_ (i := 3) (a' := ?a6_4) (v := .bool true) #[true, true, true, true, false, false, false, false, false, false, false, false, false, false, false, false, false, false, false, false, false] rfl rfl (by kernel_rfl) (fun _ _ _ h => h) (Or.inl ⟨rfl, ?hy6_4⟩) ?ha6_4 ?rest6_4
        case hy6_4 => intro w; first | (go_simp; done) | (go_simp; with_reducible rfl) | (go_simp; rfl)
        case ha6_4 => go_simp; rfl
        refine take_ (i := 4) (a' := ?a6_5) (v := .agg #[.int .u32 (p2 : Nat), .int .i64 e2, .int .u64 (n2 : Nat)]) #[true, true, true, true, true, false, false, false, false, false, false, false, false, false, false, false, false, false, false, false, false] rfl rfl (by kernel_rfl) (fun _ _ _ h => h) (yields_row rfl 60 (.tmp 15) rfl g15 0 rfl #[.int .u32 (p2 : Nat), .int .i64 e2, .int .u64 (n2 : Nat)] _ (fun w h => range_block h.out.1 _ ⟨[], by rw [List.append_nil]⟩) hu60 rfl size60) hS_ ?ha6_5 ?rest6_5
        case ha6_5 => go_simp; rfl
        refine take_ (i := 5) (a' := ?a6_6) (v := .agg #[.int .u32 (p2 : Nat), .int .i64 e2, .int .u64 (n2 : Nat)]) #[true, true, true, true, true, true, false, false, false, false, false, false, false, false, false, false, false, false, false, false, false] rfl rfl (by kernel_rfl) (fun _ _ _ h => h) (yields_row rfl 53 (.tmp 17) rfl g17 0 rfl #[.int .u32 (p2 : Nat), .int .i64 e2, .int .u64 (n2 : Nat)] _ (fun w h => range_block h.out.2.1 _ ⟨[], by rw [List.append_nil]⟩) hu53 rfl size53) hS_ ?ha6_6 ?rest6_6
        case ha6_6 => go_simp; rfl
        refine one_ (i := 6) #[true, true, true, true, true, true, true, false, false, false, false, false, false, false, false, false, false, false, false, false, false] rfl rfl (by kernel_rfl) (by decide) ?_
        intro K_ hK_
        unfold Shut at hK_
        refine goes_ Tryd.func38 (by kernel_rfl) (by kernel_rfl) #[.agg #[.int .u32 (p2 : Nat), .int .i64 e2, .int .u64 (n2 : Nat)]] rfl rfl rfl (by go_simp) ?_; refine (ticket38 (t := ⟨p2, e2, n2⟩) _).mono ?_; rintro e zy ⟨rfl, hb6⟩; have hS2 := hS_.next hb6; clear hb6; refine ⟨_, rfl, hK_ _ _ hS2 (fun hS_ => ?_)⟩; clear hK_ hS2
        refine norm_ (a' := ?a6_8n) ?ha6_8n ?rest6_8n
        case ha6_8n => go_simp; rfl
        refine pure_ (i := 7) (a' := ?a6_9) (v := .bool true) #[true, true, true, true, true, true, true, true, false, false, false, false, false, false, false, false, false, false, false, false, false] rfl rfl (by kernel_rfl) (fun _ _ _ h => h) (Or.inl ⟨rfl, ?hy6_9⟩) ?ha6_9 ?rest6_9
        case hy6_9 => intro w; first | (go_simp; done) | (go_simp; with_reducible rfl) | (go_simp; rfl)
        case ha6_9 => go_simp; rfl
        refine pure_ (i := 8) (a' := ?a6_10) (v := .bool true) #[true, true, true, true, true, true, true, true, true, false, false, false, false, false, false, false, false, false, false, false, false] rfl rfl (by kernel_rfl) (fun _ _ _ h => h) (Or.inl ⟨rfl, ?hy6_10⟩) ?ha6_10 ?rest6_10
        case hy6_10 => intro w; first | (go_simp; done) | (go_simp; with_reducible rfl) | (go_simp; rfl)
        case ha6_10 => go_simp; rfl
        refine pure_ (i := 9) (a' := ?a6_11) (v := .bool true) #[true, true, true, true, true, true, true, true, true, true, false, false, false, false, false, false, false, false, false, false, false] rfl rfl (by kernel_rfl) (fun _ _ _ h => h) (Or.inl ⟨rfl, ?hy6_11⟩) ?ha6_11 ?rest6_11
        case hy6_11 => intro w; first | (go_simp; done) | (go_simp; with_reducible rfl) | (go_simp; rfl)
        case ha6_11 => go_simp; rfl
        refine pure_ (i := 10) (a' := ?a6_12) (v := .int .i64 (q : Nat)) #[true, true, true, true, true, true, true, true, true, true, true, false, false, false, false, false, false, false, false, false, false] rfl rfl (by kernel_rfl) (fun _ _ _ h => h) (Or.inl ⟨rfl, ?hy6_12⟩) ?ha6_12 ?rest6_12
        case hy6_12 => intro w; first | (go_simp; done) | (go_simp; with_reducible rfl) | (go_simp; rfl)
        case ha6_12 => go_simp; rfl
        refine pure_ (i := 11) (a' := ?a6_13) (v := .bool true) #[true, true, true, true, true, true, true, true, true, true, true, true, false, false, false, false, false, false, false, false, false] rfl rfl (by kernel_rfl) (fun _ _ _ h => h) (Or.inl ⟨rfl, ?hy6_13⟩) ?ha6_13 ?rest6_13
        case hy6_13 => intro w; first | (go_simp; done) | (go_simp; with_reducible rfl) | (go_simp; rfl)
        case ha6_13 => go_simp; rfl
        refine pure_ (i := 12) (a' := ?a6_14) (v := .bool true) #[true, true, true, true, true, true, true, true, true, true, true, true, true, false, false, false, false, false, false, false, false] rfl rfl (by kernel_rfl) (fun _ _ _ h => h) (Or.inl ⟨rfl, ?hy6_14⟩) ?ha6_14 ?rest6_14
        case hy6_14 => intro w; first | (go_simp; done) | (go_simp; with_reducible rfl) | (go_simp; rfl)
        case ha6_14 => go_simp; rfl
        refine pure_ (i := 13) (a' := ?a6_15) (v := undef) #[true, true, true, true, true, true, true, true, true, true, true, true, true, true, false, false, false, false, false, false, false] rfl rfl (by kernel_rfl) (fun _ _ _ h => h) ?hy6_15 ?ha6_15 ?rest6_15
        case hy6_15 => exact Or.inr ⟨rfl, rfl⟩
        case ha6_15 => go_simp; rfl
        refine pure_ (i := 14) (a' := ?a6_16) (v := undef) #[true, true, true, true, true, true, true, true, true, true, true, true, true, true, true, false, false, false, false, false, false] rfl rfl (by kernel_rfl) (fun _ _ _ h => h) ?hy6_16 ?ha6_16 ?rest6_16
        case hy6_16 => exact Or.inr ⟨rfl, rfl⟩
        case ha6_16 => go_simp; rfl
        refine pure_ (i := 15) (a' := ?a6_17) (v := .bool true) #[true, true, true, true, true, true, true, true, true, true, true, true, true, true, true, true, false, false, false, false, false] rfl rfl (by kernel_rfl) (fun _ _ _ h => h) (Or.inl ⟨rfl, ?hy6_17⟩) ?ha6_17 ?rest6_17
        case hy6_17 => intro w; first | (go_simp; done) | (go_simp; with_reducible rfl) | (go_simp; rfl)
        case ha6_17 => go_simp; rfl
        refine pure_ (i := 16) (a' := ?a6_18) (v := .bool true) #[true, true, true, true, true, true, true, true, true, true, true, true, true, true, true, true, true, false, false, false, false] rfl rfl (by kernel_rfl) (fun _ _ _ h => h) (Or.inl ⟨rfl, ?hy6_18⟩) ?ha6_18 ?rest6_18
        case hy6_18 => intro w; first | (go_simp; done) | (go_simp; with_reducible rfl) | (go_simp; rfl)
        case ha6_18 => go_simp; rfl
        refine pure_ (i := 17) (a' := ?a6_19) (v := .bool true) #[true, true, true, true, true, true, true, true, true, true, true, true, true, true, true, true, true, true, false, false, false] rfl rfl (by kernel_rfl) (fun _ _ _ h => h) (Or.inl ⟨rfl, ?hy6_19⟩) ?ha6_19 ?rest6_19
        case hy6_19 => intro w; first | (go_simp; done) | (go_simp; with_reducible rfl) | (go_simp; rfl)
        case ha6_19 => go_simp; rfl
        refine one_ (i := 18) #[true, true, true, true, true, true, true, true, true, true, true, true, true, true, true, true, true, true, true, false, false] rfl rfl (by kernel_rfl) (by decide) ?_
        intro K_ hK_
        unfold Shut at hK_
        refine goes_ Tryd.func44 (by kernel_rfl) (by kernel_rfl) #[] rfl rfl rfl (by go_simp) ?_; refine (awake44_any _ (HT.out.below (below_step JB.out hS_.out.2.2))).mono ?_; rintro e zz ⟨rfl, hb6⟩; have hS2 := hS_.next hb6; clear hb6; refine ⟨_, rfl, hK_ _ _ hS2 (fun hS_ => ?_)⟩; clear hK_ hS2
        refine norm_ (a' := ?a6_21n) ?ha6_21n ?rest6_21n
        case ha6_21n => go_simp; rfl
        refine pure_ (i := 19) (a' := ?a6_22) (v := .bool true) #[true, true, true, true, true, true, true, true, true, true, true, true, true, true, true, true, true, true, true, true, false] rfl rfl (by kernel_rfl) (fun _ _ _ h => h) (Or.inl ⟨rfl, ?hy6_22⟩) ?ha6_22 ?rest6_22
        case hy6_22 => intro w; first | (go_simp; done) | (go_simp; with_reducible rfl) | (go_simp; rfl)
        case ha6_22 => go_simp; rfl
        refine pure_ (i := 20) (a' := ?a6_23) (v := .bool true) #[true, true, true, true, true, true, true, true, true, true, true, true, true, true, true, true, true, true, true, true, true] rfl rfl (by kernel_rfl) (fun _ _ _ h => h) (Or.inl ⟨rfl, ?hy6_23⟩) ?ha6_23 ?rest6_23
        case hy6_23 => intro w; first | (go_simp; done) | (go_simp; with_reducible rfl) | (go_simp; rfl)
        case ha6_23 => go_simp; rfl
        refine done_ (by kernel_rfl) ?_
        have HBf := Aside0.mk (below_step JB.out hS_.out.2.2)
        go_wp2_with fail
        go_ret
        exact ⟨rfl, HBf.out⟩
  · have hd : decide (b0 = b1) = false := decide_eq_false hbb
    have hr8 : r1 = 8 := HX1r.out hbb
    subst hr8
    have Hbb := Aside0.mk hbb
    clear hbb
    refine start_ (S := Sothers v7 g3 g4 g5 #[.slice A0 n0 c0, .slice A1 n1 c1] #[.int .u32 (t.p : Nat), .int .i64 t.e, .int .u64 (t.n : Nat)] #[.int .u8 (m : Nat), .int .u8 y]) (ds := []) #[false, false, false, false, false, false, false, false, false, false, false, false, false] (by kernel_rfl) rfl rfl hS ?_
    intro hS_
    refine pure_ (i := 0) (a' := ?a7_1) (v := .pointer (some ⟨g3, 0, none⟩)) #[true, false, false, false, false, false, false, false, false, false, false, false, false] rfl rfl (by kernel_rfl) (fun _ _ _ h => h) (Or.inl ⟨rfl, ?hy7_1⟩) ?ha7_1 ?rest7_1
    case hy7_1 => intro w; first | (go_simp; done) | (go_simp; with_reducible rfl) | (go_simp; rfl)
    case ha7_1 => go_simp; rfl
    refine take_ (i := 1) (a' := ?a7_2) (v := .slice A0 n0 c0) #[true, true, false, false, false, false, false, false, false, false, false, false, false] rfl rfl (by kernel_rfl) (fun _ _ _ h => h) (yields_cell rfl (fun w h => by have h8 := (blk_cell h.out.1 0).trans rfl; (first | (go_simp; done) | (go_simp; with_reducible rfl) | (go_simp; rfl)))) hS_ ?ha7_2 ?rest7_2
    case ha7_2 => go_simp; rfl
    refine pure_ (i := 2) (a' := ?a7_3) (v := .slice (some ⟨gC, 0, none⟩) 21 cC) #[true, true, true, false, false, false, false, false, false, false, false, false, false] rfl rfl (by kernel_rfl) (fun _ _ _ h => h) (Or.inl ⟨rfl, ?hy7_3⟩) ?ha7_3 ?rest7_3
    case hy7_3 => intro w; first | (go_simp; done) | (go_simp; with_reducible rfl) | (go_simp; rfl)
    case ha7_3 => go_simp; rfl
    refine pure_ (i := 4) (a' := ?a7_4) (v := .pointer (some ⟨g3, 1, none⟩)) #[true, true, true, false, true, false, false, false, false, false, false, false, false] rfl rfl (by kernel_rfl) (fun _ _ _ h => h) (Or.inl ⟨rfl, ?hy7_4⟩) ?ha7_4 ?rest7_4
    case hy7_4 => intro w; first | (go_simp; done) | (go_simp; with_reducible rfl) | (go_simp; rfl)
    case ha7_4 => go_simp; rfl
    refine take_ (i := 5) (a' := ?a7_5) (v := .slice A1 n1 c1) #[true, true, true, false, true, true, false, false, false, false, false, false, false] rfl rfl (by kernel_rfl) (fun _ _ _ h => h) (yields_cell rfl (fun w h => by have h8 := (blk_cell h.out.1 1).trans rfl; (first | (go_simp; done) | (go_simp; with_reducible rfl) | (go_simp; rfl)))) hS_ ?ha7_5 ?rest7_5
    case ha7_5 => go_simp; rfl
    refine pure_ (i := 6) (a' := ?a7_6) (v := .slice (some ⟨gC, 0, none⟩) 21 cC) #[true, true, true, false, true, true, true, false, false, false, false, false, false] rfl rfl (by kernel_rfl) (fun _ _ _ h => h) (Or.inl ⟨rfl, ?hy7_6⟩) ?ha7_6 ?rest7_6
    case hy7_6 => intro w; first | (go_simp; done) | (go_simp; with_reducible rfl) | (go_simp; rfl)
    case ha7_6 => go_simp; rfl
    refine one_ (i := 3) #[true, true, true, true, true, true, true, false, false, false, false, false, false] rfl rfl (by kernel_rfl) (by decide) ?_
    intro K_ hK_
    unfold Shut at hK_
    refine goes_ Tryd.func31 (by kernel_rfl) (by kernel_rfl) #[.slice A0 n0 c0, .slice (some ⟨gC, 0, none⟩) 21 cC] rfl rfl rfl (by go_simp) ?_; refine (reftag_any (key := k0) (msg := t.front) _ (Kd.C_below HC0.out (below_step JB.out hS_.out.2.2.2)) hc0 Hb0.out Hm0.out (JFr _ hS_.out.2.2.2) t.front_byt (by decide)).mono ?_; rintro e z1 ⟨rfl, hb6⟩; rw [Hb0e.out]; have hS2 := hS_.next hb6; clear hb6; refine ⟨_, rfl, hK_ _ _ hS2 (fun hS_ => ?_)⟩; clear hK_ hS2
    refine norm_ (a' := ?a7_8n) ?ha7_8n ?rest7_8n
    case ha7_8n => go_simp; rfl
    refine one_ (i := 7) #[true, true, true, true, true, true, true, true, false, false, false, false, false] rfl rfl (by kernel_rfl) (by decide) ?_
    intro K_ hK_
    unfold Shut at hK_
    refine goes_ Tryd.func31 (by kernel_rfl) (by kernel_rfl) #[.slice A1 n1 c1, .slice (some ⟨gC, 0, none⟩) 21 cC] rfl rfl rfl (by go_simp) ?_; refine (reftag_any (key := k1) (msg := t.front) _ (Kd.C_below HC1.out (below_step JB.out hS_.out.2.2.2)) hc1 Hb1.out Hm1.out (JFr _ hS_.out.2.2.2) t.front_byt (by decide)).mono ?_; rintro e z2 ⟨rfl, hb6⟩; rw [Hb1e.out]; have hS2 := hS_.next hb6; clear hb6; refine ⟨_, rfl, hK_ _ _ hS2 (fun hS_ => ?_)⟩; clear hK_ hS2
    refine norm_ (a' := ?a7_10n) ?ha7_10n ?rest7_10n
    case ha7_10n => go_simp; rfl
    refine pure_ (i := 8) (a' := ?a7_11) (v := .bool true) #[true, true, true, true, true, true, true, true, true, false, false, false, false] rfl rfl (by kernel_rfl) (fun _ _ _ h => h) (Or.inl ⟨rfl, ?hy7_11⟩) ?ha7_11 ?rest7_11
    case hy7_11 => intro w; first | (go_simp; done) | (go_simp; with_reducible rfl) | (go_simp; rfl)
    case ha7_11 => go_simp; rfl
    refine pure_ (i := 9) (a' := ?a7_12) (v := .bool true) #[true, true, true, true, true, true, true, true, true, true, false, false, false] rfl rfl (by kernel_rfl) (fun _ _ _ h => h) (Or.inl ⟨rfl, ?hy7_12⟩) ?ha7_12 ?rest7_12
    case hy7_12 => intro w; first | (go_simp; done) | (go_simp; with_reducible rfl) | (go_simp; rfl)
    case ha7_12 => go_simp; rfl
    refine pure_ (i := 10) (a' := ?a7_13) (v := .int .i64 8) #[true, true, true, true, true, true, true, true, true, true, true, false, false] rfl rfl (by kernel_rfl) (fun _ _ _ h => h) (Or.inl ⟨rfl, ?hy7_13⟩) ?ha7_13 ?rest7_13
    case hy7_13 => intro w; first | (go_simp; done) | (go_simp; with_reducible rfl) | (go_simp; rfl)
    case ha7_13 => go_simp; rfl
    refine pure_ (i := 11) (a' := ?a7_14) (v := .bool false) #[true, true, true, true, true, true, true, true, true, true, true, true, false] rfl rfl (by kernel_rfl) (fun _ _ _ h => h) (Or.inl ⟨rfl, ?hy7_14⟩) ?ha7_14 ?rest7_14
    case hy7_14 => intro w; first | (go_simp; done) | (go_simp; with_reducible rfl) | (go_simp; rfl)
    case ha7_14 => go_simp; rfl
    refine pure_ (i := 12) (a' := ?a7_15) (v := .bool false) #[true, true, true, true, true, true, true, true, true, true, true, true, true] rfl rfl (by kernel_rfl) (fun _ _ _ h => h) (Or.inl ⟨rfl, ?hy7_15⟩) ?ha7_15 ?rest7_15
    case hy7_15 => intro w; first | (go_simp; done) | (go_simp; with_reducible rfl) | (go_simp; rfl)
    case ha7_15 => go_simp; rfl
    refine done_ (by kernel_rfl) ?_
    replace J3 := Aside0.mk hS_.out.1
    replace J4 := Aside0.mk hS_.out.2.1
    replace J5 := Aside0.mk hS_.out.2.2.1
    replace JF := Aside0.mk (below_step JF.out hS_.out.2.2.2)
    replace JB := Aside0.mk (below_step JB.out hS_.out.2.2.2)
    clear hS_ hS JFr JC JX heq
    go_wp2_with (first | ((with_reducible refine gate_dst (N := 62) rfl ?_); refine conv_own ?hg (N := 62) ?hd (.tmp 61) ?ho s ?hx (by omega) 53 Hz.out ?_; (case hg => rfl); (case hd => rfl); (case ho => rfl); (case hx => rfl); intro gD cD v9 hg_ hc_ hB_ hb_; have JD : Aside0 (Bcl v9 gD F) := ⟨by rw [← HFb0.out]; exact hB_⟩; have hcD := hc_; have HGD : w.heap.size ≤ gD ∧ v2.heap.size ≤ gD ∧ g3 < gD ∧ g4 < gD ∧ g5 < gD := (by rw [hg_]; exact ⟨JB.out.size, JF.out.size, blk_lt J3.out, blk_lt J4.out, blk_lt J5.out⟩); replace J3 := Aside0.mk (blk_below J3.out hb_); replace J4 := Aside0.mk (blk_below J4.out hb_); replace J5 := Aside0.mk (blk_below J5.out hb_); replace JF := Aside0.mk (below_step JF.out hb_); replace JB := Aside0.mk (below_step JB.out hb_); have hct0 := (blk_cell J5.out 0).trans rfl; have HgD := Aside0.mk (show w.heap.size ≤ gD ∧ v2.heap.size ≤ gD ∧ g3 < gD ∧ g4 < gD ∧ g5 < gD from HGD); clear hg_ hc_ hB_ hb_))
    obtain ⟨q, hq⟩ : ∃ q : Nat, (q : Int) = (m : Int) % 53 := ⟨m % 53, by omega⟩
    have hq53 : q < 53 := by omega
    rw [← hq]
    clear hq hct0
    obtain ⟨bx, hbx⟩ : ∃ b, b = F.getD q 0 := ⟨_, rfl⟩
    have hbr : 0 ≤ bx ∧ bx ≤ 255 := by rw [hbx]; exact HFl.out.2.1.getD q
    obtain ⟨z, hz⟩ : ∃ z, z = Go.bits .xor .u8 bx y := ⟨_, rfl⟩
    have Hz2 : Aside0 ((0 ≤ z ∧ z ≤ 255) ∧ z = Go.bits .xor .u8 bx y ∧ bx = F.getD q 0) := ⟨⟨by rw [hz]; exact xo_byt hbr Hy.out, hz, hbx⟩⟩
    have HJ1 := JD.out.1 q (by rw [HFl.out.1]; exact hq53)
    rw [← hbx] at HJ1
    replace HJ1 := Aside0.mk HJ1
    have HJ2 : Aside0 (v9.cell? ⟨g5, 1, none⟩ = some (.int .u8 y)) := ⟨(blk_cell J5.out 1).trans rfl⟩
    have hbr2 := Aside0.mk hbr
    clear hbx hbr hz
    have hS : (fun W : World => Aside0 (W.cell? ⟨g5, 1, none⟩ = some (.int .u8 y) ∧ W.cell? ⟨gD, q, none⟩ = some (.int .u8 bx))) v9.drew := ⟨HJ2.out, HJ1.out.1⟩
    refine start_ (S := (fun W : World => Aside0 (W.cell? ⟨g5, 1, none⟩ = some (.int .u8 y) ∧ W.cell? ⟨gD, q, none⟩ = some (.int .u8 bx)))) (ds := [8]) #[false, false, false, false, false, false, false, false, false] (by kernel_rfl) rfl rfl hS ?_
    intro hS_
    refine pure_ (i := 0) (a' := ?a8_1) (v := .slice (some ⟨gD, 0, none⟩) 53 cD) #[true, false, false, false, false, false, false, false, false] rfl rfl (by kernel_rfl) (fun _ _ _ h => h) (Or.inl ⟨rfl, ?hy8_1⟩) ?ha8_1 ?rest8_1
    case hy8_1 => intro w; first | (go_simp; done) | (go_simp; with_reducible rfl) | (go_simp; rfl)
    case ha8_1 => go_simp; rfl
    refine pure_ (i := 1) (a' := ?a8_2) (v := .int .i64 (q : Nat)) #[true, true, false, false, false, false, false, false, false] rfl rfl (by kernel_rfl) (fun _ _ _ h => h) (Or.inl ⟨rfl, ?hy8_2⟩) ?ha8_2 ?rest8_2
    case hy8_2 => intro w; first | (go_simp; done) | (go_simp; with_reducible rfl) | (go_simp; rfl)
    case ha8_2 => go_simp; rfl
    refine pure_ (i := 2) (a' := ?a8_3) (v := .pointer (some ⟨gD, q, none⟩)) #[true, true, true, false, false, false, false, false, false] rfl rfl (by kernel_rfl) (fun _ _ _ h => h) (Or.inl ⟨rfl, ?hy8_3⟩) ?ha8_3 ?rest8_3
    case hy8_3 => intro w; (have h3 : (q : Int) < 53 := (by omega); have h4 : (0 : Int) ≤ (q : Int) := (by omega); first | (go_simp; done) | (go_simp; rfl))
    case ha8_3 => go_simp; rfl
    refine take_ (i := 3) (a' := ?a8_4) (v := .int .u8 bx) #[true, true, true, true, false, false, false, false, false] rfl rfl (by kernel_rfl) (fun _ _ _ h => h) (yields_cell rfl (fun w h => by have h8 := h.out.2; (first | (go_simp; done) | (go_simp; with_reducible rfl) | (go_simp; rfl)))) hS_ ?ha8_4 ?rest8_4
    case ha8_4 => go_simp; rfl
    refine pure_ (i := 4) (a' := ?a8_5) (v := .pointer (some ⟨g5, 1, none⟩)) #[true, true, true, true, true, false, false, false, false] rfl rfl (by kernel_rfl) (fun _ _ _ h => h) (Or.inl ⟨rfl, ?hy8_5⟩) ?ha8_5 ?rest8_5
    case hy8_5 => intro w; first | (go_simp; done) | (go_simp; with_reducible rfl) | (go_simp; rfl)
    case ha8_5 => go_simp; rfl
    refine take_ (i := 5) (a' := ?a8_6) (v := .int .u8 y) #[true, true, true, true, true, true, false, false, false] rfl rfl (by kernel_rfl) (fun _ _ _ h => h) (yields_cell rfl (fun w h => by have h8 := h.out.1; (first | (go_simp; done) | (go_simp; with_reducible rfl) | (go_simp; rfl)))) hS_ ?ha8_6 ?rest8_6
    case ha8_6 => go_simp; rfl
    refine pure_ (i := 6) (a' := ?a8_7) (v := .int .u8 z) #[true, true, true, true, true, true, true, false, false] rfl rfl (by kernel_rfl) (fun _ _ _ h => h) (Or.inl ⟨rfl, ?hy8_7⟩) ?ha8_7 ?rest8_7
    case hy8_7 => intro w; (rw [Hz2.out.2.1]; first | (go_simp; done) | (go_simp; rfl))
    case ha8_7 => go_simp; rfl
    refine pure_ (i := 7) (a' := ?a8_8) (v := .pointer (some ⟨gD, q, none⟩)) #[true, true, true, true, true, true, true, true, false] rfl rfl (by kernel_rfl) (fun _ _ _ h => h) (Or.inl ⟨rfl, ?hy8_8⟩) ?ha8_8 ?rest8_8
    case hy8_8 => intro w; (have h3 : (q : Int) < 53 := (by omega); have h4 : (0 : Int) ≤ (q : Int) := (by omega); first | (go_simp; done) | (go_simp; rfl))
    case ha8_8 => go_simp; rfl
    refine last_ (i := 8) #[true, true, true, true, true, true, true, true, true] rfl rfl (by kernel_rfl) (by decide) ?_
    intro K_ hK_
    unfold Shut at hK_
    refine skip_ (w1 := v9.drew.setCell ⟨gD, q, none⟩ (.int .u8 z)) rfl rfl (by have h1 : (v9.drew).cell? ⟨gD, q, none⟩ = some (.int .u8 bx) := HJ1.out.1; have h2 : (v9.drew).frozen? ⟨gD, q, none⟩ = false := HJ1.out.2; first | (go_simp; done) | (go_simp; rfl)) ?_; refine hK_ _ _ ?_; clear hK_
    refine done_ (by kernel_rfl) ?_
    replace JD : Aside0 (Bcl (v9.drew.setCell ⟨gD, q, none⟩ (.int .u8 z)) gD (F.set q z)) := ⟨Bcl.set (W := v9.drew) JD.out q z (by rw [HFl.out.1]; exact hq53)⟩
    replace J3 := Aside0.mk (blk_far (w := v9.drew) (p := ⟨gD, q, none⟩) J3.out (Nat.ne_of_lt HgD.out.2.2.1) (.int .u8 z))
    replace J4 := Aside0.mk (blk_far (w := v9.drew) (p := ⟨gD, q, none⟩) J4.out (Nat.ne_of_lt HgD.out.2.2.2.1) (.int .u8 z))
    replace J5 := Aside0.mk (blk_far (w := v9.drew) (p := ⟨gD, q, none⟩) J5.out (Nat.ne_of_lt HgD.out.2.2.2.2) (.int .u8 z))
    replace JF := Aside0.mk ((below_drew JF.out).setCell (p := ⟨gD, q, none⟩) HgD.out.2.1 (.int .u8 z))
    replace JB := Aside0.mk ((below_drew JB.out).setCell (p := ⟨gD, q, none⟩) HgD.out.1 (.int .u8 z))
    obtain ⟨wA, hwA⟩ : ∃ W, W = v9.drew.setCell ⟨gD, q, none⟩ (.int .u8 z) := ⟨_, rfl⟩
    rw [← hwA] at JD J3 J4 J5 JF JB
    try rw [← hwA]
    clear hwA hS hS_ HJ1 HJ2
    have HFs : Aside0 (Byt (F.set q z) ∧ (F.set q z).length = 53) := ⟨set_byte HFl.out.2.1 Hz2.out.1, by rw [List.length_set]; exact HFl.out.1⟩
    obtain ⟨s2, hs2⟩ : ∃ s2, s2 = strOfNums (F.set q z) := ⟨_, rfl⟩
    have Hs2 : Aside0 (strOfNums (F.set q z) = s2) := ⟨hs2.symm⟩
    have hs2z : s2.size ≤ 1000 := by rw [hs2, ← bytesOf_length, bytes_back HFs.out.1, HFs.out.2]; decide
    have Hs2z := Aside0.mk hs2z
    obtain ⟨X2, hX2⟩ : ∃ X, X = refT k0 s2 := ⟨_, rfl⟩
    have HX2 : Aside0 (refT k0 s2 = X2) := ⟨hX2.symm⟩
    obtain ⟨⟨p2, e2, n2⟩, r2⟩ := X2
    clear hs2 hs2z hX2
    have JDC : Aside0 ((Kd.int .u8).C wA (some ⟨gD, 0, none⟩) 53 (F.set q z)) := ⟨by have h := Bcl.C JD.out; rwa [HFs.out.2] at h⟩
    go_wp2_with (first | ((with_reducible refine gate_dst (N := 78) rfl ?_); refine conv_str2 ?hg (N := 78) ?hd (.tmp 77) ?ho (c := cD) ?hx JDC.out s2 Hs2.out ?_; (case hg => rfl); (case hd => rfl); (case ho => rfl); (case hx => rfl)))
    refine (open46_any (s := s2) _ (HT.out.below JB.out) (HFa.out.below JF.out) Hs2z.out).mono ?_
    rintro e vB ⟨rfl, hb⟩
    rw [openT_ref, HX2.out]
    replace J3 := Aside0.mk (blk_below J3.out hb)
    replace J4 := Aside0.mk (blk_below J4.out hb)
    replace J5 := Aside0.mk (blk_below J5.out hb)
    replace JF := Aside0.mk (below_step JF.out hb)
    replace JB := Aside0.mk (below_step JB.out hb)
    replace JD := Aside0.mk (Bcl.below JD.out hb)
    clear hb JDC
    go_wp2_with (first | ((with_reducible refine gate_dst (N := 15) rfl ?_); refine box_event ?hg (N := 15) ?hd (cs := #[.int .u32 0, .int .i64 0, .int .u64 0]) (t := 60) ?hr ?_; (case hd => rfl); (case hg => rfl); (case hr => first | (go_simp; done) | (go_simp; rfl)); intro g15 hg_ wB hbox_ hb_; have JX := Aside0.mk hbox_; have Ng := Aside0.mk (show w.heap.size ≤ g15 from Nat.le_trans JB.out.size (Nat.le_of_eq hg_.symm)); have NF := Aside0.mk (show v2.heap.size ≤ g15 from Nat.le_trans JF.out.size (Nat.le_of_eq hg_.symm)); have NJ3 := Aside0.mk (show g3 ≠ g15 from by have := blk_lt J3.out; omega); have NJ4 := Aside0.mk (show g4 ≠ g15 from by have := blk_lt J4.out; omega); have NJ5 := Aside0.mk (show g5 ≠ g15 from by have := blk_lt J5.out; omega); have ND := Aside0.mk (show gD ≠ g15 from by have := JD.out.2.1; omega); replace J3 := Aside0.mk (blk_below J3.out hb_); replace J4 := Aside0.mk (blk_below J4.out hb_); replace J5 := Aside0.mk (blk_below J5.out hb_); replace JF := Aside0.mk (below_step JF.out hb_); replace JB := Aside0.mk (below_step JB.out hb_); replace JD := Aside0.mk (Bcl.below JD.out hb_);clear hg_ hbox_ hb_) | ((with_reducible refine gate_store (t := 60) (p := 15) rfl ?_); refine store_row ?hg (ty := 60) (p := 15) (v := ?vr_5) ?ho ?hd (g := g15) (t := 60) (old := #[.int .u32 0, .int .i64 0, .int .u64 0]) (cells := #[.int .u32 (p2 : Nat), .int .i64 e2, .int .u64 (n2 : Nat)]) ?hx ?hy JX.out size60 rfl (by simp [Value.oneCell']) ?_; (case hd => rfl); (case hg => rfl); (case ho => rfl); (case hx => rfl); (case hy => rfl); intro wC hbox_ hk_ hb_; replace JX := Aside0.mk hbox_; replace J3 := Aside0.mk ((hk_.2 g3 (blk_lt J3.out) NJ3.out).trans J3.out); replace J4 := Aside0.mk ((hk_.2 g4 (blk_lt J4.out) NJ4.out).trans J4.out); replace J5 := Aside0.mk ((hk_.2 g5 (blk_lt J5.out) NJ5.out).trans J5.out); replace JD := Aside0.mk (Bcl.block JD.out (hk_.2 gD JD.out.2.1 ND.out) hk_.1); replace JF := Aside0.mk (JF.out.trans (hb_.mono NF.out)); replace JB := Aside0.mk (JB.out.trans (hb_.mono Ng.out)); have hca0 := (blk_cell J3.out 0).trans rfl; have JDC : Aside0 ((Kd.int .u8).C wC (some ⟨gD, 0, none⟩) 53 (F.set q z)) := ⟨by have h := Bcl.C JD.out; rwa [HFs.out.2] at h⟩;clear hbox_ hk_ hb_) | ((with_reducible refine gate_dst (N := 86) rfl ?_); refine conv_str2 ?hg (N := 86) ?hd (.tmp 85) ?ho (c := cD) ?hx JDC.out s2 Hs2.out ?_; (case hg => rfl); (case hd => rfl); (case ho => rfl); (case hx => rfl)))
    have J15 := JX
    clear JX hca0 JDC
    refine (ref47_any (s := s2) (key := k0) _ (Kd.C_below HC0.out JB.out) hc0 Hb0.out Hm0.out Hs2z.out).mono ?_
    rintro e vC ⟨rfl, hb⟩
    rw [HX2.out]
    replace J3 := Aside0.mk (blk_below J3.out hb)
    replace J4 := Aside0.mk (blk_below J4.out hb)
    replace J5 := Aside0.mk (blk_below J5.out hb)
    replace J15 := Aside0.mk (blk_below J15.out hb)
    replace JF := Aside0.mk (below_step JF.out hb)
    replace JB := Aside0.mk (below_step JB.out hb)
    clear hb JD
    by_cases hy0 : y = 0
    · have hR : ((⟨p2, e2, n2⟩ : Tk), r2) = (t, 0) := by
        rw [← HX2.out, ← Hs2.out, Hz2.out.2.1, hy0]
        have h1 : Go.bits .xor .u8 bx 0 = bx := xo_id hbr2.out
        rw [h1, Hz2.out.2.2, set_same (by rw [HFl.out.1]; exact hq53), HFe.out]
        exact refT_seal k0 Ht.out
      injection hR with hR1 hR2
      have hp2 : p2 = t.p := by rw [← hR1]
      have he2 : e2 = t.e := by rw [← hR1]
      have hn2 : n2 = t.n := by rw [← hR1]
      subst hp2
      subst he2
      subst hn2
      subst hR2
      subst hy0
      clear hR1
      go_wp2_with (first | ((with_reducible refine gate_dst (N := 17) rfl ?_); refine box_event ?hg (N := 17) ?hd (cs := #[.int .u32 0, .int .i64 0, .int .u64 0]) (t := 53) ?hr ?_; (case hd => rfl); (case hg => rfl); (case hr => first | (go_simp; done) | (go_simp; rfl)); intro g17 hg_ wD hbox_ hb_; have JX := Aside0.mk hbox_; have Ng := Aside0.mk (show w.heap.size ≤ g17 from Nat.le_trans JB.out.size (Nat.le_of_eq hg_.symm)); have NF := Aside0.mk (show v2.heap.size ≤ g17 from Nat.le_trans JF.out.size (Nat.le_of_eq hg_.symm)); have NJ3 := Aside0.mk (show g3 ≠ g17 from by have := blk_lt J3.out; omega); have NJ4 := Aside0.mk (show g4 ≠ g17 from by have := blk_lt J4.out; omega); have NJ5 := Aside0.mk (show g5 ≠ g17 from by have := blk_lt J5.out; omega); have NJ15 := Aside0.mk (show g15 ≠ g17 from by have := blk_lt J15.out; omega); replace J3 := Aside0.mk (blk_below J3.out hb_); replace J4 := Aside0.mk (blk_below J4.out hb_); replace J5 := Aside0.mk (blk_below J5.out hb_); replace J15 := Aside0.mk (blk_below J15.out hb_); replace JF := Aside0.mk (below_step JF.out hb_); replace JB := Aside0.mk (below_step JB.out hb_);clear hg_ hbox_ hb_) | ((with_reducible refine gate_store (t := 53) (p := 17) rfl ?_); refine store_row ?hg (ty := 53) (p := 17) (v := ?vr_6) ?ho ?hd (g := g17) (t := 53) (old := #[.int .u32 0, .int .i64 0, .int .u64 0]) (cells := #[.int .u32 (t.p : Nat), .int .i64 t.e, .int .u64 (t.n : Nat)]) ?hx ?hy JX.out size53 rfl (by simp [Value.oneCell']) ?_; (case hd => rfl); (case hg => rfl); (case ho => rfl); (case hx => rfl); (case hy => rfl); intro wE hbox_ hk_ hb_; replace JX := Aside0.mk hbox_; replace J3 := Aside0.mk ((hk_.2 g3 (blk_lt J3.out) NJ3.out).trans J3.out); replace J4 := Aside0.mk ((hk_.2 g4 (blk_lt J4.out) NJ4.out).trans J4.out); replace J5 := Aside0.mk ((hk_.2 g5 (blk_lt J5.out) NJ5.out).trans J5.out); replace J15 := Aside0.mk ((hk_.2 g15 (blk_lt J15.out) NJ15.out).trans J15.out); replace JF := Aside0.mk (JF.out.trans (hb_.mono NF.out)); replace JB := Aside0.mk (JB.out.trans (hb_.mono Ng.out)); have hct1 := (blk_cell J5.out 1).trans rfl;clear hbox_ hk_ hb_))
      have hS : Sot wE g15 g4 #[.int .u32 (t.p : Nat), .int .i64 t.e, .int .u64 (t.n : Nat)] 60 #[.int .u32 (t.p : Nat), .int .i64 t.e, .int .u64 (t.n : Nat)] 53 wE.drew := ⟨J15.out, J4.out, below_drew (Below.refl _ _)⟩
      refine start_ (S := Sot wE g15 g4 #[.int .u32 (t.p : Nat), .int .i64 t.e, .int .u64 (t.n : Nat)] 60 #[.int .u32 (t.p : Nat), .int .i64 t.e, .int .u64 (t.n : Nat)] 53) (ds := []) #[false, false, false, false, false, false, false, false, false, false, false, false] (by kernel_rfl) rfl rfl hS ?_
      intro hS_
      refine pure_ (i := 0) (a' := ?a9_1) (v := .int .i64 0) #[true, false, false, false, false, false, false, false, false, false, false, false] rfl rfl (by kernel_rfl) (fun _ _ _ h => h) (Or.inl ⟨rfl, ?hy9_1⟩) ?ha9_1 ?rest9_1
      case hy9_1 => intro w; first | (go_simp; done) | (go_simp; with_reducible rfl) | (go_simp; rfl)
      case ha9_1 => go_simp; rfl
      refine pure_ (i := 1) (a' := ?a9_2) (v := .bool true) #[true, true, false, false, false, false, false, false, false, false, false, false] rfl rfl (by kernel_rfl) (fun _ _ _ h => h) (Or.inl ⟨rfl, ?hy9_2⟩) ?ha9_2 ?rest9_2
      case hy9_2 => intro w; first | (go_simp; done) | (go_simp; with_reducible rfl) | (go_simp; rfl)
      case ha9_2 => go_simp; rfl
      refine pure_ (i := 2) (a' := ?a9_3) (v := .bool true) #[true, true, true, false, false, false, false, false, false, false, false, false] rfl rfl (by kernel_rfl) (fun _ _ _ h => h) (Or.inl ⟨rfl, ?hy9_3⟩) ?ha9_3 ?rest9_3
      case hy9_3 => intro w; first | (go_simp; done) | (go_simp; with_reducible rfl) | (go_simp; rfl)
      case ha9_3 => go_simp; rfl
      refine take_ (i := 3) (a' := ?a9_4) (v := .agg #[.int .u32 (t.p : Nat), .int .i64 t.e, .int .u64 (t.n : Nat)]) #[true, true, true, true, false, false, false, false, false, false, false, false] rfl rfl (by kernel_rfl) (fun _ _ _ h => h) (yields_row rfl 60 (.tmp 15) rfl g15 0 rfl #[.int .u32 (t.p : Nat), .int .i64 t.e, .int .u64 (t.n : Nat)] _ (fun w h => range_block h.out.1 _ ⟨[], by rw [List.append_nil]⟩) hu60 rfl size60) hS_ ?ha9_4 ?rest9_4
      case ha9_4 => go_simp; rfl
      refine take_ (i := 4) (a' := ?a9_5) (v := .agg #[.int .u32 (t.p : Nat), .int .i64 t.e, .int .u64 (t.n : Nat)]) #[true, true, true, true, true, false, false, false, false, false, false, false] rfl rfl (by kernel_rfl) (fun _ _ _ h => h) (yields_row rfl 53 (.tmp 4) rfl g4 0 rfl #[.int .u32 (t.p : Nat), .int .i64 t.e, .int .u64 (t.n : Nat)] _ (fun w h => range_block h.out.2.1 _ ⟨[], by rw [List.append_nil]⟩) hu53 rfl size53) hS_ ?ha9_5 ?rest9_5
      case ha9_5 => go_simp; rfl
      refine one_ (i := 5) #[true, true, true, true, true, true, false, false, false, false, false, false] rfl rfl (by kernel_rfl) (by decide) ?_
      intro K_ hK_
      unfold Shut at hK_
      refine goes_ Tryd.func38 (by kernel_rfl) (by kernel_rfl) #[.agg #[.int .u32 (t.p : Nat), .int .i64 t.e, .int .u64 (t.n : Nat)]] rfl rfl rfl (by go_simp) ?_; refine (ticket38 (t := t) _).mono ?_; rintro e zy ⟨rfl, hb6⟩; have hS2 := hS_.next hb6; clear hb6; refine ⟨_, rfl, hK_ _ _ hS2 (fun hS_ => ?_)⟩; clear hK_ hS2
      refine norm_ (a' := ?a9_7n) ?ha9_7n ?rest9_7n
      case ha9_7n => go_simp; rfl
      refine pure_ (i := 6) (a' := ?a9_8) (v := .bool true) #[true, true, true, true, true, true, true, false, false, false, false, false] rfl rfl (by kernel_rfl) (fun _ _ _ h => h) (Or.inl ⟨rfl, ?hy9_8⟩) ?ha9_8 ?rest9_8
      case hy9_8 => intro w; first | (go_simp; done) | (go_simp; with_reducible rfl) | (go_simp; rfl)
      case ha9_8 => go_simp; rfl
      refine pure_ (i := 7) (a' := ?a9_9) (v := .bool true) #[true, true, true, true, true, true, true, true, false, false, false, false] rfl rfl (by kernel_rfl) (fun _ _ _ h => h) (Or.inl ⟨rfl, ?hy9_9⟩) ?ha9_9 ?rest9_9
      case hy9_9 => intro w; first | (go_simp; done) | (go_simp; with_reducible rfl) | (go_simp; rfl)
      case ha9_9 => go_simp; rfl
      refine pure_ (i := 8) (a' := ?a9_10) (v := .bool true) #[true, true, true, true, true, true, true, true, true, false, false, false] rfl rfl (by kernel_rfl) (fun _ _ _ h => h) (Or.inl ⟨rfl, ?hy9_10⟩) ?ha9_10 ?rest9_10
      case hy9_10 => intro w; first | (go_simp; done) | (go_simp; with_reducible rfl) | (go_simp; rfl)
      case ha9_10 => go_simp; rfl
      refine one_ (i := 9) #[true, true, true, true, true, true, true, true, true, true, false, false] rfl rfl (by kernel_rfl) (by decide) ?_
      intro K_ hK_
      unfold Shut at hK_
      refine goes_ Tryd.func44 (by kernel_rfl) (by kernel_rfl) #[] rfl rfl rfl (by go_simp) ?_; refine (awake44_any _ (HT.out.below (below_step JB.out hS_.out.2.2))).mono ?_; rintro e zz ⟨rfl, hb6⟩; have hS2 := hS_.next hb6; clear hb6; refine ⟨_, rfl, hK_ _ _ hS2 (fun hS_ => ?_)⟩; clear hK_ hS2
      refine norm_ (a' := ?a9_12n) ?ha9_12n ?rest9_12n
      case ha9_12n => go_simp; rfl
      refine pure_ (i := 10) (a' := ?a9_13) (v := .bool true) #[true, true, true, true, true, true, true, true, true, true, true, false] rfl rfl (by kernel_rfl) (fun _ _ _ h => h) (Or.inl ⟨rfl, ?hy9_13⟩) ?ha9_13 ?rest9_13
      case hy9_13 => intro w; first | (go_simp; done) | (go_simp; with_reducible rfl) | (go_simp; rfl)
      case ha9_13 => go_simp; rfl
      refine pure_ (i := 11) (a' := ?a9_14) (v := .bool true) #[true, true, true, true, true, true, true, true, true, true, true, true] rfl rfl (by kernel_rfl) (fun _ _ _ h => h) (Or.inl ⟨rfl, ?hy9_14⟩) ?ha9_14 ?rest9_14
      case hy9_14 => intro w; first | (go_simp; done) | (go_simp; with_reducible rfl) | (go_simp; rfl)
      case ha9_14 => go_simp; rfl
      refine done_ (by kernel_rfl) ?_
      have HBf := Aside0.mk (below_step JB.out hS_.out.2.2)
      go_wp2_with fail
      go_ret
      exact ⟨rfl, HBf.out⟩
    · have hyn : (y == 0) = false := by simpa using hy0
      go_wp2_with (first | ((with_reducible refine gate_dst (N := 17) rfl ?_); refine box_event ?hg (N := 17) ?hd (cs := #[.int .u32 0, .int .i64 0, .int .u64 0]) (t := 53) ?hr ?_; (case hd => rfl); (case hg => rfl); (case hr => first | (go_simp; done) | (go_simp; rfl)); intro g17 hg_ wD hbox_ hb_; have JX := Aside0.mk hbox_; have Ng := Aside0.mk (show w.heap.size ≤ g17 from Nat.le_trans JB.out.size (Nat.le_of_eq hg_.symm)); have NF := Aside0.mk (show v2.heap.size ≤ g17 from Nat.le_trans JF.out.size (Nat.le_of_eq hg_.symm)); have NJ3 := Aside0.mk (show g3 ≠ g17 from by have := blk_lt J3.out; omega); have NJ4 := Aside0.mk (show g4 ≠ g17 from by have := blk_lt J4.out; omega); have NJ5 := Aside0.mk (show g5 ≠ g17 from by have := blk_lt J5.out; omega); have NJ15 := Aside0.mk (show g15 ≠ g17 from by have := blk_lt J15.out; omega); replace J3 := Aside0.mk (blk_below J3.out hb_); replace J4 := Aside0.mk (blk_below J4.out hb_); replace J5 := Aside0.mk (blk_below J5.out hb_); replace J15 := Aside0.mk (blk_below J15.out hb_); replace JF := Aside0.mk (below_step JF.out hb_); replace JB := Aside0.mk (below_step JB.out hb_);clear hg_ hbox_ hb_) | ((with_reducible refine gate_store (t := 53) (p := 17) rfl ?_); refine store_row ?hg (ty := 53) (p := 17) (v := ?vr_7) ?ho ?hd (g := g17) (t := 53) (old := #[.int .u32 0, .int .i64 0, .int .u64 0]) (cells := #[.int .u32 (p2 : Nat), .int .i64 e2, .int .u64 (n2 : Nat)]) ?hx ?hy JX.out size53 rfl (by simp [Value.oneCell']) ?_; (case hd => rfl); (case hg => rfl); (case ho => rfl); (case hx => rfl); (case hy => rfl); intro wE hbox_ hk_ hb_; replace JX := Aside0.mk hbox_; replace J3 := Aside0.mk ((hk_.2 g3 (blk_lt J3.out) NJ3.out).trans J3.out); replace J4 := Aside0.mk ((hk_.2 g4 (blk_lt J4.out) NJ4.out).trans J4.out); replace J5 := Aside0.mk ((hk_.2 g5 (blk_lt J5.out) NJ5.out).trans J5.out); replace J15 := Aside0.mk ((hk_.2 g15 (blk_lt J15.out) NJ15.out).trans J15.out); replace JF := Aside0.mk (JF.out.trans (hb_.mono NF.out)); replace JB := Aside0.mk (JB.out.trans (hb_.mono Ng.out)); have hct1 := (blk_cell J5.out 1).trans rfl;clear hbox_ hk_ hb_))
      by_cases hq0 : q = 0
      · have hr7 : r2 = 7 := by
          have h := refT_first (k0 := k0) (F := F) (z := z) (by rw [← hq0]; exact HFs.out.1) (by rw [HFl.out.1]; decide) (by
            rw [Hz2.out.2.1]
            have h1 : bx = 116 := by rw [Hz2.out.2.2, hq0]; exact HFl.out.2.2.2
            rw [← h1]
            exact xo_ne hbr2.out Hy.out hy0)
          rw [hq0] at Hs2
          rw [Hs2.out, HX2.out] at h
          exact h
        subst hr7
        subst hq0
        have hS : Sot wE g15 g17 #[.int .u32 (p2 : Nat), .int .i64 e2, .int .u64 (n2 : Nat)] 60 #[.int .u32 (p2 : Nat), .int .i64 e2, .int .u64 (n2 : Nat)] 53 wE.drew := ⟨J15.out, JX.out, below_drew (Below.refl _ _)⟩
        refine start_ (S := Sot wE g15 g17 #[.int .u32 (p2 : Nat), .int .i64 e2, .int .u64 (n2 : Nat)] 60 #[.int .u32 (p2 : Nat), .int .i64 e2, .int .u64 (n2 : Nat)] 53) (ds := []) #[false, false, false, false, false, false, false, false, false, false, false, false, false, false, false, false, false, false, false, false, false] (by kernel_rfl) rfl rfl hS ?_
        intro hS_
        refine pure_ (i := 0) (a' := ?a10_1) (v := .int .i64 7) #[true, false, false, false, false, false, false, false, false, false, false, false, false, false, false, false, false, false, false, false, false] rfl rfl (by kernel_rfl) (fun _ _ _ h => h) (Or.inl ⟨rfl, ?hy10_1⟩) ?ha10_1 ?rest10_1
        case hy10_1 => intro w; first | (go_simp; done) | (go_simp; with_reducible rfl) | (go_simp; rfl)
        case ha10_1 => go_simp; rfl
        refine pure_ (i := 1) (a' := ?a10_2) (v := .int .i64 7) #[true, true, false, false, false, false, false, false, false, false, false, false, false, false, false, false, false, false, false, false, false] rfl rfl (by kernel_rfl) (fun _ _ _ h => h) (Or.inl ⟨rfl, ?hy10_2⟩) ?ha10_2 ?rest10_2
        case hy10_2 => intro w; first | (go_simp; done) | (go_simp; with_reducible rfl) | (go_simp; rfl)
        case ha10_2 => go_simp; rfl
        refine pure_ (i := 2) (a' := ?a10_3) (v := .bool true) #[true, true, true, false, false, false, false, false, false, false, false, false, false, false, false, false, false, false, false, false, false] rfl rfl (by kernel_rfl) (fun _ _ _ h => h) (Or.inl ⟨rfl, ?hy10_3⟩) ?ha10_3 ?rest10_3
        case hy10_3 => intro w; first | (go_simp; done) | (go_simp; with_reducible rfl) | (go_simp; rfl)
        case ha10_3 => go_simp; rfl
        refine pure_ (i := 3) (a' := ?a10_4) (v := .bool true) #[true, true, true, true, false, false, false, false, false, false, false, false, false, false, false, false, false, false, false, false, false] rfl rfl (by kernel_rfl) (fun _ _ _ h => h) (Or.inl ⟨rfl, ?hy10_4⟩) ?ha10_4 ?rest10_4
        case hy10_4 => intro w; first | (go_simp; done) | (go_simp; with_reducible rfl) | (go_simp; rfl)
        case ha10_4 => go_simp; rfl
        refine take_ (i := 4) (a' := ?a10_5) (v := .agg #[.int .u32 (p2 : Nat), .int .i64 e2, .int .u64 (n2 : Nat)]) #[true, true, true, true, true, false, false, false, false, false, false, false, false, false, false, false, false, false, false, false, false] rfl rfl (by kernel_rfl) (fun _ _ _ h => h) (yields_row rfl 60 (.tmp 15) rfl g15 0 rfl #[.int .u32 (p2 : Nat), .int .i64 e2, .int .u64 (n2 : Nat)] _ (fun w h => range_block h.out.1 _ ⟨[], by rw [List.append_nil]⟩) hu60 rfl size60) hS_ ?ha10_5 ?rest10_5
        case ha10_5 => go_simp; rfl
        refine take_ (i := 5) (a' := ?a10_6) (v := .agg #[.int .u32 (p2 : Nat), .int .i64 e2, .int .u64 (n2 : Nat)]) #[true, true, true, true, true, true, false, false, false, false, false, false, false, false, false, false, false, false, false, false, false] rfl rfl (by kernel_rfl) (fun _ _ _ h => h) (yields_row rfl 53 (.tmp 17) rfl g17 0 rfl #[.int .u32 (p2 : Nat), .int .i64 e2, .int .u64 (n2 : Nat)] _ (fun w h => range_block h.out.2.1 _ ⟨[], by rw [List.append_nil]⟩) hu53 rfl size53) hS_ ?ha10_6 ?rest10_6
        case ha10_6 => go_simp; rfl
        refine one_ (i := 6) #[true, true, true, true, true, true, true, false, false, false, false, false, false, false, false, false, false, false, false, false, false] rfl rfl (by kernel_rfl) (by decide) ?_
        intro K_ hK_
        unfold Shut at hK_
        refine goes_ Tryd.func38 (by kernel_rfl) (by kernel_rfl) #[.agg #[.int .u32 (p2 : Nat), .int .i64 e2, .int .u64 (n2 : Nat)]] rfl rfl rfl (by go_simp) ?_; refine (ticket38 (t := ⟨p2, e2, n2⟩) _).mono ?_; rintro e zy ⟨rfl, hb6⟩; have hS2 := hS_.next hb6; clear hb6; refine ⟨_, rfl, hK_ _ _ hS2 (fun hS_ => ?_)⟩; clear hK_ hS2
        refine norm_ (a' := ?a10_8n) ?ha10_8n ?rest10_8n
        case ha10_8n => go_simp; rfl
        refine pure_ (i := 7) (a' := ?a10_9) (v := .bool true) #[true, true, true, true, true, true, true, true, false, false, false, false, false, false, false, false, false, false, false, false, false] rfl rfl (by kernel_rfl) (fun _ _ _ h => h) (Or.inl ⟨rfl, ?hy10_9⟩) ?ha10_9 ?rest10_9
        case hy10_9 => intro w; first | (go_simp; done) | (go_simp; with_reducible rfl) | (go_simp; rfl)
        case ha10_9 => go_simp; rfl
        refine pure_ (i := 8) (a' := ?a10_10) (v := .bool true) #[true, true, true, true, true, true, true, true, true, false, false, false, false, false, false, false, false, false, false, false, false] rfl rfl (by kernel_rfl) (fun _ _ _ h => h) (Or.inl ⟨rfl, ?hy10_10⟩) ?ha10_10 ?rest10_10
        case hy10_10 => intro w; first | (go_simp; done) | (go_simp; with_reducible rfl) | (go_simp; rfl)
        case ha10_10 => go_simp; rfl
        refine pure_ (i := 9) (a' := ?a10_11) (v := .bool true) #[true, true, true, true, true, true, true, true, true, true, false, false, false, false, false, false, false, false, false, false, false] rfl rfl (by kernel_rfl) (fun _ _ _ h => h) (Or.inl ⟨rfl, ?hy10_11⟩) ?ha10_11 ?rest10_11
        case hy10_11 => intro w; first | (go_simp; done) | (go_simp; with_reducible rfl) | (go_simp; rfl)
        case ha10_11 => go_simp; rfl
        refine pure_ (i := 10) (a' := ?a10_12) (v := .int .i64 0) #[true, true, true, true, true, true, true, true, true, true, true, false, false, false, false, false, false, false, false, false, false] rfl rfl (by kernel_rfl) (fun _ _ _ h => h) (Or.inl ⟨rfl, ?hy10_12⟩) ?ha10_12 ?rest10_12
        case hy10_12 => intro w; first | (go_simp; done) | (go_simp; with_reducible rfl) | (go_simp; rfl)
        case ha10_12 => go_simp; rfl
        refine pure_ (i := 11) (a' := ?a10_13) (v := .bool false) #[true, true, true, true, true, true, true, true, true, true, true, true, false, false, false, false, false, false, false, false, false] rfl rfl (by kernel_rfl) (fun _ _ _ h => h) (Or.inl ⟨rfl, ?hy10_13⟩) ?ha10_13 ?rest10_13
        case hy10_13 => intro w; first | (go_simp; done) | (go_simp; with_reducible rfl) | (go_simp; rfl)
        case ha10_13 => go_simp; rfl
        refine pure_ (i := 12) (a' := ?a10_14) (v := .bool false) #[true, true, true, true, true, true, true, true, true, true, true, true, true, false, false, false, false, false, false, false, false] rfl rfl (by kernel_rfl) (fun _ _ _ h => h) (Or.inl ⟨rfl, ?hy10_14⟩) ?ha10_14 ?rest10_14
        case hy10_14 => intro w; first | (go_simp; done) | (go_simp; with_reducible rfl) | (go_simp; rfl)
        case ha10_14 => go_simp; rfl
        refine pure_ (i := 13) (a' := ?a10_15) (v := .int .i64 7) #[true, true, true, true, true, true, true, true, true, true, true, true, true, true, false, false, false, false, false, false, false] rfl rfl (by kernel_rfl) (fun _ _ _ h => h) (Or.inl ⟨rfl, ?hy10_15⟩) ?ha10_15 ?rest10_15
        case hy10_15 => intro w; first | (go_simp; done) | (go_simp; with_reducible rfl) | (go_simp; rfl)
        case ha10_15 => go_simp; rfl
        refine pure_ (i := 14) (a' := ?a10_16) (v := .bool true) #[true, true, true, true, true, true, true, true, true, true, true, true, true, true, true, false, false, false, false, false, false] rfl rfl (by kernel_rfl) (fun _ _ _ h => h) (Or.inl ⟨rfl, ?hy10_16⟩) ?ha10_16 ?rest10_16
        case hy10_16 => intro w; first | (go_simp; done) | (go_simp; with_reducible rfl) | (go_simp; rfl)
        case ha10_16 => go_simp; rfl
        refine pure_ (i := 15) (a' := ?a10_17) (v := .bool true) #[true, true, true, true, true, true, true, true, true, true, true, true, true, true, true, true, false, false, false, false, false] rfl rfl (by kernel_rfl) (fun _ _ _ h => h) (Or.inl ⟨rfl, ?hy10_17⟩) ?ha10_17 ?rest10_17
        case hy10_17 => intro w; first | (go_simp; done) | (go_simp; with_reducible rfl) | (go_simp; rfl)
        case ha10_17 => go_simp; rfl
        refine pure_ (i := 16) (a' := ?a10_18) (v := .bool true) #[true, true, true, true, true, true, true, true, true, true, true, true, true, true, true, true, true, false, false, false, false] rfl rfl (by kernel_rfl) (fun _ _ _ h => h) (Or.inl ⟨rfl, ?hy10_18⟩) ?ha10_18 ?rest10_18
        case hy10_18 => intro w; first | (go_simp; done) | (go_simp; with_reducible rfl) | (go_simp; rfl)
        case ha10_18 => go_simp; rfl
        refine pure_ (i := 17) (a' := ?a10_19) (v := .bool true) #[true, true, true, true, true, true, true, true, true, true, true, true, true, true, true, true, true, true, false, false, false] rfl rfl (by kernel_rfl) (fun _ _ _ h => h) (Or.inl ⟨rfl, ?hy10_19⟩) ?ha10_19 ?rest10_19
        case hy10_19 => intro w; first | (go_simp; done) | (go_simp; with_reducible rfl) | (go_simp; rfl)
        case ha10_19 => go_simp; rfl
        refine one_ (i := 18) #[true, true, true, true, true, true, true, true, true, true, true, true, true, true, true, true, true, true, true, false, false] rfl rfl (by kernel_rfl) (by decide) ?_
        intro K_ hK_
        unfold Shut at hK_
        refine goes_ Tryd.func44 (by kernel_rfl) (by kernel_rfl) #[] rfl rfl rfl (by go_simp) ?_; refine (awake44_any _ (HT.out.below (below_step JB.out hS_.out.2.2))).mono ?_; rintro e zz ⟨rfl, hb6⟩; have hS2 := hS_.next hb6; clear hb6; refine ⟨_, rfl, hK_ _ _ hS2 (fun hS_ => ?_)⟩; clear hK_ hS2
        refine norm_ (a' := ?a10_21n) ?ha10_21n ?rest10_21n
        case ha10_21n => go_simp; rfl
        refine pure_ (i := 19) (a' := ?a10_22) (v := .bool true) #[true, true, true, true, true, true, true, true, true, true, true, true, true, true, true, true, true, true, true, true, false] rfl rfl (by kernel_rfl) (fun _ _ _ h => h) (Or.inl ⟨rfl, ?hy10_22⟩) ?ha10_22 ?rest10_22
        case hy10_22 => intro w; first | (go_simp; done) | (go_simp; with_reducible rfl) | (go_simp; rfl)
        case ha10_22 => go_simp; rfl
        refine pure_ (i := 20) (a' := ?a10_23) (v := .bool true) #[true, true, true, true, true, true, true, true, true, true, true, true, true, true, true, true, true, true, true, true, true] rfl rfl (by kernel_rfl) (fun _ _ _ h => h) (Or.inl ⟨rfl, ?hy10_23⟩) ?ha10_23 ?rest10_23
        case hy10_23 => intro w; first | (go_simp; done) | (go_simp; with_reducible rfl) | (go_simp; rfl)
        case ha10_23 => go_simp; rfl
        refine done_ (by kernel_rfl) ?_
        have HBf := Aside0.mk (below_step JB.out hS_.out.2.2)
        go_wp2_with fail
        go_ret
        exact ⟨rfl, HBf.out⟩
      · have hqn : ((q : Int) != 0) = true := by rw [bne_iff_ne]; omega
        clear hq0
        have hS : Sot wE g15 g17 #[.int .u32 (p2 : Nat), .int .i64 e2, .int .u64 (n2 : Nat)] 60 #[.int .u32 (p2 : Nat), .int .i64 e2, .int .u64 (n2 : Nat)] 53 wE.drew := ⟨J15.out, JX.out, below_drew (Below.refl _ _)⟩
        refine start_ (S := Sot wE g15 g17 #[.int .u32 (p2 : Nat), .int .i64 e2, .int .u64 (n2 : Nat)] 60 #[.int .u32 (p2 : Nat), .int .i64 e2, .int .u64 (n2 : Nat)] 53) (ds := []) #[false, false, false, false, false, false, false, false, false, false, false, false, false, false, false, false, false, false, false, false, false] (by kernel_rfl) rfl rfl hS ?_
        intro hS_
        refine pure_ (i := 0) (a' := ?a11_1) (v := .int .i64 r2) #[true, false, false, false, false, false, false, false, false, false, false, false, false, false, false, false, false, false, false, false, false] rfl rfl (by kernel_rfl) (fun _ _ _ h => h) (Or.inl ⟨rfl, ?hy11_1⟩) ?ha11_1 ?rest11_1
        case hy11_1 => intro w; first | (go_simp; done) | (go_simp; with_reducible rfl) | (go_simp; rfl)
        case ha11_1 => go_simp; rfl
        refine pure_ (i := 1) (a' := ?a11_2) (v := .int .i64 r2) #[true, true, false, false, false, false, false, false, false, false, false, false, false, false, false, false, false, false, false, false, false] rfl rfl (by kernel_rfl) (fun _ _ _ h => h) (Or.inl ⟨rfl, ?hy11_2⟩) ?ha11_2 ?rest11_2
        case hy11_2 => intro w; first | (go_simp; done) | (go_simp; with_reducible rfl) | (go_simp; rfl)
        case ha11_2 => go_simp; rfl
        refine pure_ (i := 2) (a' := ?a11_3) (v := .bool true) #[true, true, true, false, false, false, false, false, false, false, false, false, false, false, false, false, false, false, false, false, false] rfl rfl (by kernel_rfl) (fun _ _ _ h => h) (Or.inl ⟨rfl, ?hy11_3⟩) ?ha11_3 ?rest11_3
        case hy11_3 => intro w; first | (go_simp; done) | (go_simp; with_reducible rfl) | (go_simp; rfl)
        case ha11_3 => go_simp; rfl
        refine pure_ (i := 3) (a' := ?a11_4) (v := .bool true) #[true, true, true, true, false, false, false, false, false, false, false, false, false, false, false, false, false, false, false, false, false] rfl rfl (by kernel_rfl) (fun _ _ _ h => h) (Or.inl ⟨rfl, ?hy11_4⟩) ?ha11_4 ?rest11_4
        case hy11_4 => intro w; first | (go_simp; done) | (go_simp; with_reducible rfl) | (go_simp; rfl)
        case ha11_4 => go_simp; rfl
        refine take_ (i := 4) (a' := ?a11_5) (v := .agg #[.int .u32 (p2 : Nat), .int .i64 e2, .int .u64 (n2 : Nat)]) #[true, true, true, true, true, false, false, false, false, false, false, false, false, false, false, false, false, false, false, false, false] rfl rfl (by kernel_rfl) (fun _ _ _ h => h) (yields_row rfl 60 (.tmp 15) rfl g15 0 rfl #[.int .u32 (p2 : Nat), .int .i64 e2, .int .u64 (n2 : Nat)] _ (fun w h => range_block h.out.1 _ ⟨[], by rw [List.append_nil]⟩) hu60 rfl size60) hS_ ?ha11_5 ?rest11_5
        case ha11_5 => go_simp; rfl
        refine take_ (i := 5) (a' := ?a11_6) (v := .agg #[.int .u32 (p2 : Nat), .int .i64 e2, .int .u64 (n2 : Nat)]) #[true, true, true, true, true, true, false, false, false, false, false, false, false, false, false, false, false, false, false, false, false] rfl rfl (by kernel_rfl) (fun _ _ _ h => h) (yields_row rfl 53 (.tmp 17) rfl g17 0 rfl #[.int .u32 (p2 : Nat), .int .i64 e2, .int .u64 (n2 : Nat)] _ (fun w h => range_block h.out.2.1 _ ⟨[], by rw [List.append_nil]⟩) hu53 rfl size53) hS_ ?ha11_6 ?rest11_6
        case ha11_6 => go_simp; rfl
        refine one_ (i := 6) #[true, true, true, true, true, true, true, false, false, false, false, false, false, false, false, false, false, false, false, false, false] rfl rfl (by kernel_rfl) (by decide) ?_
        intro K_ hK_
        unfold Shut at hK_
        refine goes_ Tryd.func38 (by kernel_rfl) (by kernel_rfl) #[.agg #[.int .u32 (p2 : Nat), .int .i64 e2, .int .u64 (n2 : Nat)]] rfl rfl rfl (by go_simp) ?_; refine (ticket38 (t := ⟨p2, e2, n2⟩) _).mono ?_; rintro e zy ⟨rfl, hb6⟩; have hS2 := hS_.next hb6; clear hb6; refine ⟨_, rfl, hK_ _ _ hS2 (fun hS_ => ?_)⟩; clear hK_ hS2
        refine norm_ (a' := ?a11_8n) ?ha11_8n ?rest11_8n
        case ha11_8n => go_simp; rfl
        refine pure_ (i := 7) (a' := ?a11_9) (v := .bool true) #[true, true, true, true, true, true, true, true, false, false, false, false, false, false, false, false, false, false, false, false, false] rfl rfl (by kernel_rfl) (fun _ _ _ h => h) (Or.inl ⟨rfl, ?hy11_9⟩) ?ha11_9 ?rest11_9
        case hy11_9 => intro w; first | (go_simp; done) | (go_simp; with_reducible rfl) | (go_simp; rfl)
        case ha11_9 => go_simp; rfl
        refine pure_ (i := 8) (a' := ?a11_10) (v := .bool true) #[true, true, true, true, true, true, true, true, true, false, false, false, false, false, false, false, false, false, false, false, false] rfl rfl (by kernel_rfl) (fun _ _ _ h => h) (Or.inl ⟨rfl, ?hy11_10⟩) ?ha11_10 ?rest11_10
        case hy11_10 => intro w; first | (go_simp; done) | (go_simp; with_reducible rfl) | (go_simp; rfl)
        case ha11_10 => go_simp; rfl
        refine pure_ (i := 9) (a' := ?a11_11) (v := .bool true) #[true, true, true, true, true, true, true, true, true, true, false, false, false, false, false, false, false, false, false, false, false] rfl rfl (by kernel_rfl) (fun _ _ _ h => h) (Or.inl ⟨rfl, ?hy11_11⟩) ?ha11_11 ?rest11_11
        case hy11_11 => intro w; first | (go_simp; done) | (go_simp; with_reducible rfl) | (go_simp; rfl)
        case ha11_11 => go_simp; rfl
        refine pure_ (i := 10) (a' := ?a11_12) (v := .int .i64 (q : Nat)) #[true, true, true, true, true, true, true, true, true, true, true, false, false, false, false, false, false, false, false, false, false] rfl rfl (by kernel_rfl) (fun _ _ _ h => h) (Or.inl ⟨rfl, ?hy11_12⟩) ?ha11_12 ?rest11_12
        case hy11_12 => intro w; first | (go_simp; done) | (go_simp; with_reducible rfl) | (go_simp; rfl)
        case ha11_12 => go_simp; rfl
        refine pure_ (i := 11) (a' := ?a11_13) (v := .bool true) #[true, true, true, true, true, true, true, true, true, true, true, true, false, false, false, false, false, false, false, false, false] rfl rfl (by kernel_rfl) (fun _ _ _ h => h) (Or.inl ⟨rfl, ?hy11_13⟩) ?ha11_13 ?rest11_13
        case hy11_13 => intro w; first | (go_simp; done) | (go_simp; with_reducible rfl) | (go_simp; rfl)
        case ha11_13 => go_simp; rfl
        refine pure_ (i := 12) (a' := ?a11_14) (v := .bool true) #[true, true, true, true, true, true, true, true, true, true, true, true, true, false, false, false, false, false, false, false, false] rfl rfl (by kernel_rfl) (fun _ _ _ h => h) (Or.inl ⟨rfl, ?hy11_14⟩) ?ha11_14 ?rest11_14
        case hy11_14 => intro w; first | (go_simp; done) | (go_simp; with_reducible rfl) | (go_simp; rfl)
        case ha11_14 => go_simp; rfl
        refine pure_ (i := 13) (a' := ?a11_15) (v := undef) #[true, true, true, true, true, true, true, true, true, true, true, true, true, true, false, false, false, false, false, false, false] rfl rfl (by kernel_rfl) (fun _ _ _ h => h) ?hy11_15 ?ha11_15 ?rest11_15
        case hy11_15 => exact Or.inr ⟨rfl, rfl⟩
        case ha11_15 => go_simp; rfl
        refine pure_ (i := 14) (a' := ?a11_16) (v := undef) #[true, true, true, true, true, true, true, true, true, true, true, true, true, true, true, false, false, false, false, false, false] rfl rfl (by kernel_rfl) (fun _ _ _ h => h) ?hy11_16 ?ha11_16 ?rest11_16
        case hy11_16 => exact Or.inr ⟨rfl, rfl⟩
        case ha11_16 => go_simp; rfl
        refine pure_ (i := 15) (a' := ?a11_17) (v := .bool true) #[true, true, true, true, true, true, true, true, true, true, true, true, true, true, true, true, false, false, false, false, false] rfl rfl (by kernel_rfl) (fun _ _ _ h => h) (Or.inl ⟨rfl, ?hy11_17⟩) ?ha11_17 ?rest11_17
        case hy11_17 => intro w; first | (go_simp; done) | (go_simp; with_reducible rfl) | (go_simp; rfl)
        case ha11_17 => go_simp; rfl
        refine pure_ (i := 16) (a' := ?a11_18) (v := .bool true) #[true, true, true, true, true, true, true, true, true, true, true, true, true, true, true, true, true, false, false, false, false] rfl rfl (by kernel_rfl) (fun _ _ _ h => h) (Or.inl ⟨rfl, ?hy11_18⟩) ?ha11_18 ?rest11_18
        case hy11_18 => intro w; first | (go_simp; done) | (go_simp; with_reducible rfl) | (go_simp; rfl)
        case ha11_18 => go_simp; rfl
        refine pure_ (i := 17) (a' := ?a11_19) (v := .bool true) #[true, true, true, true, true, true, true, true, true, true, true, true, true, true, true, true, true, true, false, false, false] rfl rfl (by kernel_rfl) (fun _ _ _ h => h) (Or.inl ⟨rfl, ?hy11_19⟩) ?ha11_19 ?rest11_19
        case hy11_19 => intro w; first | (go_simp; done) | (go_simp; with_reducible rfl) | (go_simp; rfl)
        case ha11_19 => go_simp; rfl
        refine one_ (i := 18) #[true, true, true, true, true, true, true, true, true, true, true, true, true, true, true, true, true, true, true, false, false] rfl rfl (by kernel_rfl) (by decide) ?_
        intro K_ hK_
        unfold Shut at hK_
        refine goes_ Tryd.func44 (by kernel_rfl) (by kernel_rfl) #[] rfl rfl rfl (by go_simp) ?_; refine (awake44_any _ (HT.out.below (below_step JB.out hS_.out.2.2))).mono ?_; rintro e zz ⟨rfl, hb6⟩; have hS2 := hS_.next hb6; clear hb6; refine ⟨_, rfl, hK_ _ _ hS2 (fun hS_ => ?_)⟩; clear hK_ hS2
        refine norm_ (a' := ?a11_21n) ?ha11_21n ?rest11_21n
        case ha11_21n => go_simp; rfl
        refine pure_ (i := 19) (a' := ?a11_22) (v := .bool true) #[true, true, true, true, true, true, true, true, true, true, true, true, true, true, true, true, true, true, true, true, false] rfl rfl (by kernel_rfl) (fun _ _ _ h => h) (Or.inl ⟨rfl, ?hy11_22⟩) ?ha11_22 ?rest11_22
        case hy11_22 => intro w; first | (go_simp; done) | (go_simp; with_reducible rfl) | (go_simp; rfl)
        case ha11_22 => go_simp; rfl
        refine pure_ (i := 20) (a' := ?a11_23) (v := .bool true) #[true, true, true, true, true, true, true, true, true, true, true, true, true, true, true, true, true, true, true, true, true] rfl rfl (by kernel_rfl) (fun _ _ _ h => h) (Or.inl ⟨rfl, ?hy11_23⟩) ?ha11_23 ?rest11_23
        case hy11_23 => intro w; first | (go_simp; done) | (go_simp; with_reducible rfl) | (go_simp; rfl)
        case ha11_23 => go_simp; rfl
        refine done_ (by kernel_rfl) ?_
        have HBf := Aside0.mk (below_step JB.out hS_.out.2.2)
        go_wp2_with fail
        go_ret
        exact ⟨rfl, HBf.out⟩
end Go.Proofs.YtpigkgnmegpddaaDoor.Sh
