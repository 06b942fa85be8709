/-
The law OutboxRuns: whatever is done to a flow, each answer, what is in flight and was asked then.
-/
import Derived.Test.YtgblihndkhiddaaOc
namespace Go.Proofs.Ytgblihndkhiddaa.Ou
set_option linter.unusedVariables false
set_option linter.unusedSimpArgs false
open Go.RowKit Go.Proofs.YtgblihndkhiddaaW.PrintWords Go.Proofs.YtgblihndkhiddaaW.PrintLast Go.Proofs.YtgblihndkhiddaaW.PrintMore Go.Proofs.Ytgblihndkhiddaa.POutboxRuns

theorem flying_q {g : Nat} {f0 f1 f2 f3 : Int} (w : World) (h : Fl w g f0 f1 f2 f3) :
    Calls Try.prog 23 #[.pointer (some ⟨g, 0, none⟩)] w fun e w' => e = .returned (.int .i64 f0) ∧ w' = w :=
  (flying_any (f1 := 0) (f2 := 0) (f3 := 0) w h.c0).mono fun e w' ⟨h1, h2⟩ => ⟨h1, h2.symm⟩
theorem asked_q {g : Nat} {f0 f1 f2 f3 : Int} (w : World) (h : Fl w g f0 f1 f2 f3) :
    Calls Try.prog 24 #[.pointer (some ⟨g, 2, none⟩)] w fun e w' => e = .returned (.int .i64 f2) ∧ w' = w :=
  (asked_any (f0 := 0) (f1 := 0) (f3 := 0) w h.c2).mono fun e w' ⟨h1, h2⟩ => ⟨h1, h2.symm⟩
theorem refask_any {o r n a : Int} (w : World) (h0 : 0 ≤ a) (h1 : r ≤ 9223372036854775807) :
    Calls Try.prog 20 #[.agg #[.int .i64 o, .int .i64 r, .int .i64 n, .int .i64 a]] w fun e w' => e = .returned (.tuple #[.agg #[.int .i64 o, .int .i64 r, .int .i64 n, .int .i64 (if a < r then a + 1 else a)], .bool (decide (a < r))]) ∧ Below w.heap.size w w' := by
  by_cases h : a < r
  · rw [if_pos h, decide_eq_true h]
    exact refask_yes w h h0 h1
  · rw [if_neg h, decide_eq_false h]
    exact refask_no w (by omega)

/-- The flow's block (f in flight of o, a asked of r), and the reference's flow beside it. -/
structure St (w wr : World) (g h : Nat) (o r f a f' a' : Int) : Prop where
  fl : Fl wr g f o a r
  wt : F4 wr h 27 o r f' a'
  hg : w.heap.size ≤ g
  hh : w.heap.size ≤ h
  ne : g ≠ h
  bel : Below w.heap.size w wr
theorem St.ltg {w wr : World} {g h : Nat} {o r f a f' a' : Int} (s : St w wr g h o r f a f' a') : g < wr.heap.size := blk_lt s.fl
theorem St.lth {w wr : World} {g h : Nat} {o r f a f' a' : Int} (s : St w wr g h o r f a f' a') : h < wr.heap.size := blk_lt s.wt
theorem St.below {w wr w' : World} {g h : Nat} {o r f a f' a' : Int} (s : St w wr g h o r f a f' a') (hb : Below wr.heap.size wr w') : St w w' g h o r f a f' a' :=
  ⟨(hb.block g s.ltg).trans s.fl, (hb.block h s.lth).trans s.wt, s.hg, s.hh, s.ne, s.bel.trans (hb.mono s.bel.size)⟩
theorem St.drewN {w wr : World} {g h : Nat} {o r f a f' a' : Int} (s : St w wr g h o r f a f' a') (m : Nat) : St w (wr.drewN m) g h o r f a f' a' :=
  ⟨s.fl, s.wt, s.hg, s.hh, s.ne, pw_below_drewN s.bel m⟩
theorem St.drew {w wr : World} {g h : Nat} {o r f a f' a' : Int} (s : St w wr g h o r f a f' a') : St w wr.drew g h o r f a f' a' :=
  ⟨s.fl, s.wt, s.hg, s.hh, s.ne, below_drew s.bel⟩
/-- Another block has been written. -/
theorem St.side {w wr w' : World} {g h b : Nat} {o r f a f' a' : Int} (s : St w wr g h o r f a f' a') (hk : Kept wr w' (fun k => k = b)) (hb : Below b wr w') (h1 : b ≠ g) (h2 : b ≠ h) (h3 : w.heap.size ≤ b) : St w w' g h o r f a f' a' :=
  ⟨(hk.2 g s.ltg (Ne.symm h1)).trans s.fl, (hk.2 h s.lth (Ne.symm h2)).trans s.wt, s.hg, s.hh, s.ne, s.bel.trans (hb.mono h3)⟩
/-- The flow has been written. -/
theorem St.flow {w wr w' : World} {g h : Nat} {o r f a f' a' f2 a2 : Int} (s : St w wr g h o r f a f' a') (hk : Kept wr w' (fun k => k = g)) (hf : Fl w' g f2 o a2 r) (hb : Below w.heap.size w w') : St w w' g h o r f2 a2 f' a' :=
  ⟨hf, (hk.2 h s.lth (fun e => s.ne e.symm)).trans s.wt, s.hg, s.hh, s.ne, hb⟩
/-- The reference's flow has been written. -/
theorem St.want {w wr w' : World} {g h : Nat} {o r f a f' a' f2 a2 : Int} (s : St w wr g h o r f a f' a') (hk : Kept wr w' (fun k => k = h)) (hw : F4 w' h 27 o r f2 a2) (hb : Below h wr w') : St w w' g h o r f a f2 a2 :=
  ⟨(hk.2 g s.ltg s.ne).trans s.fl, hw, s.hg, s.hh, s.ne, s.bel.trans (hb.mono s.hh)⟩
/-- Bytes of the call's own, read as a string. -/
theorem str_of {W : World} {base : Nat} {ok : Nat → Prop} {A : Option Addr} {n c : Nat} {xs : List Int} (h : (Kd.int .u8).R 5 W base ok (.slice A n c) xs) : (convert 32 9 (.slice A n c)).run Try.prog W = .ok (.string (strOfNums xs)) W :=
  Kd.C_string Try.underlying32 Try.underlying5 Try.underlying9 (R_C h)
theorem mx0 (a : Int) (ha : a ≤ 9223372036854775807) : 0 ≤ mx a 0 ∧ mx a 0 ≤ 9223372036854775807 := by
  unfold mx
  split <;> omega
theorem rd_T31_nat (xs : List S31) (k : Nat) (h : k < xs.length) : rd_T31 xs (k : Int) = xs[k] := by
  simp [rd_T31, List.getD_eq_getElem?_getD, List.getElem?_eq_getElem h]
theorem sendP_range {o f : Int} {ls : List (List Int)} {out : List Int} {er f' : Int} (hP : sendP o f ls = (out, er, f')) (h0 : 0 ≤ f) (h1 : f ≤ o) : 0 ≤ f' ∧ f' ≤ o ∧ (er ≠ 0 → out = [] ∧ f' = f) ∧ (er = 0 → f' = f + out.length) := by
  unfold sendP at hP
  (repeat' split at hP) <;> (injection hP with e1 hP; injection hP with e2 e3; subst e1 e2 e3) <;> refine ⟨by omega, by omega, ?_, ?_⟩ <;> intro h <;> simp_all

set_option maxRecDepth 100000 in
set_option maxHeartbeats 6400000 in
theorem runs_law {out rate : Int} {n c : Nat} {A : Option Addr} {acts : List S31} (w : World) (HR : k31.C w A n acts) (hc : n ≤ c) (ho : out ≤ 9223372036854775807) (hr : rate ≤ 9223372036854775807) :
    Calls Try.prog 3 #[.int .i64 out, .int .i64 rate, .slice A n c] w fun e w' => e = .returned (.bool true) ∧ Below w.heap.size w w' := by
  have hu27 := Try.underlying27
  have hu31 := Try.underlying31
  have H := Aside0.mk HR
  have Hn : Aside0 (acts.length = n) := ⟨HR.1⟩
  have hmo := mx0 out ho
  have hmr := mx0 rate hr
  clear HR
  go_enter Try.func3, Try.ntmps3
  go_wp2_with fail
  refine (great_any _ H.out hc).mono ?_
  rintro e w1 ⟨gr, m1, rfl, rfl, hgr⟩
  cases gr with
  | true =>
    go_wp2_with fail
    go_ret
    exact ⟨rfl, pw_below_drewN (Below.refl _ _) m1⟩
  | false =>
    have Hgr := Aside0.mk (hgr rfl)
    clear hgr
    have hn60 := Hgr.out.1
    go_wp2_with fail
    refine (new_any out rate _).mono ?_
    rintro e w2 ⟨g, rfl, hF2, hg2, hb2⟩
    have HF2 := Aside0.mk hF2
    have HB2 : Aside0 (Below w.heap.size w w2) := ⟨(pw_below_drewN (Below.refl _ _) m1).trans hb2⟩
    have hg : w.heap.size ≤ g := hg2
    clear hF2 hb2 hg2
    go_wp2_with fail
    refine (refnew_any out rate _).mono ?_
    rintro e w3 ⟨rfl, hb3⟩
    obtain ⟨o, ho'⟩ : ∃ o, o = mx out 0 := ⟨_, rfl⟩
    obtain ⟨r, hr'⟩ : ∃ r, r = mx rate 0 := ⟨_, rfl⟩
    rw [← ho', ← hr'] at HF2 ⊢
    rw [← ho'] at hmo
    rw [← hr'] at hmr
    have HF3 := Aside0.mk (HF2.out.below hb3)
    have HB3 := Aside0.mk (HB2.out.trans (hb3.mono HB2.out.size))
    clear ho' hr' hb3 HF2 HB2
    go_wp2_with (first | ((with_reducible refine gate_dst (N := 8) rfl ?_); refine box_event ?hg (N := 8) ?hd (cs := #[.int .i64 0, .int .i64 0, .int .i64 0, .int .i64 0]) (t := 27) ?hr ?_; (case hd => rfl); (case hg => rfl); (case hr => first | (go_simp; done) | (go_simp; rfl)); intro h hg_ w4 hbox_ hb_; have HW4 := Aside0.mk hbox_; have HF4 := Aside0.mk (HF3.out.below hb_); have hgh := Aside0.mk (show g ≠ h ∧ w.heap.size ≤ h from by rw [hg_]; exact ⟨Nat.ne_of_lt (blk_lt HF3.out), HB3.out.size⟩); have HB4 := Aside0.mk (below_step HB3.out hb_); have dw0 := (blk_cell HW4.out 0).trans rfl; have ew0 := blk_frozen HW4.out 0; have dw1 := (blk_cell HW4.out 1).trans rfl; have ew1 := blk_frozen HW4.out 1; have dw2 := (blk_cell HW4.out 2).trans rfl; have ew2 := blk_frozen HW4.out 2; have dw3 := (blk_cell HW4.out 3).trans rfl; have ew3 := blk_frozen HW4.out 3;clear hg_ hbox_ hb_) | ((with_reducible refine gate_store (t := 27) (p := 8) rfl ?_); refine store4 ?hg (t := 27) (p := 8) (v := ?vo_1) ?ho ?hd (x0 := .int .i64 o) (x1 := .int .i64 r) (x2 := .int .i64 0) (x3 := .int .i64 0) HW4.out ?hr ?_; (case hd => rfl); (case hg => rfl); (case ho => rfl); (case hr => first | (go_simp; done) | (go_simp; rfl)); intro w5 hbox_ hk_ hb_; have HS := Aside0.mk (show St w w5 g h o r 0 0 0 0 from ⟨(hk_.2 g (blk_lt HF4.out) hgh.out.1).trans HF4.out, hbox_, hg, hgh.out.2, hgh.out.1, HB4.out.trans (hb_.mono hgh.out.2)⟩); clear dw0 ew0 dw1 ew1 dw2 ew2 dw3 ew3;clear hbox_ hk_ hb_))
    clear HW4 HF4 HB4 HF3 HB3 hgh
    go_loopg [9] n (fun gk iv wr => ∃ (k : Nat) (f a : Int), k + gk = n ∧ iv = .int .i64 k ∧ Aside0 (0 ≤ f ∧ f ≤ o ∧ 0 ≤ a ∧ a ≤ r) ∧ Aside0 (St w wr g h o r f a f a))
    case atStart => exact ⟨0, 0, 0, by omega, rfl, ⟨by omega⟩, HS⟩
    case round =>
      clear HS
      obtain ⟨k, f, a, hk, rfl, HI, HS⟩ := hrel
      by_cases hlt : k < n
      · obtain ⟨gq, rfl⟩ : ∃ gq, gk = gq + 1 := ⟨gk - 1, by omega⟩
        obtain ⟨wo, hwo⟩ : ∃ wo, wo = wr := ⟨_, rfl⟩
        subst hwo
        have p1 : 0 ≤ (k : Int) := by omega
        have p2 : (k : Int) < n := by omega
        obtain ⟨ad, A2, c2, rfl, hx0, hx1, hx2, hl2, hC2⟩ := at_T31 H.out (k : Int) p1 p2
        have h8 := Hgr.out.2 k hlt
        obtain ⟨⟨x0, x1, ls⟩, hact⟩ : ∃ s, rd_T31 acts (k : Int) = s := ⟨_, rfl⟩
        rw [hact] at hx0 hx1 hx2 hl2 hC2 h8
        simp only at hx0 hx1 hx2 hl2 hC2 h8
        obtain ⟨n2, hn2⟩ : ∃ n2, n2 = ls.length := ⟨_, rfl⟩
        rw [← hn2] at hx2 hl2 hC2 h8
        replace hx0 := pw_cell_below HS.out.bel hx0
        replace hx1 := pw_cell_below HS.out.bel hx1
        replace hx2 := pw_cell_below HS.out.bel hx2
        rw [Int.toNat_natCast] at hx0 hx1 hx2
        have HC2 := Aside0.mk hC2
        have Hn2 := Aside0.mk hn2
        have hr0 := HI.out
        clear hC2 hact hn2
        by_cases t0 : x0 = 0
        · subst t0
          obtain ⟨⟨ob, er, f'⟩, hP⟩ : ∃ P, sendP o f ls = P := ⟨_, rfl⟩
          have HP := Aside0.mk hP
          have HRg := Aside0.mk (sendP_range hP hr0.1 hr0.2.1)
          clear hP
          go_wp2_with (first | ((with_reducible refine gate_dst (N := 10) rfl ?_); refine box_event ?hg (N := 10) ?hd (cs := #[.int .u8 0, .int .i64 0, .slice none 0 0]) (t := 31) ?hr ?_; (case hd => rfl); (case hg => rfl); (case hr => first | (go_simp; done) | (go_simp; rfl)); intro b hg_ w4 hbox_ hb_; have HA4 := Aside0.mk hbox_; have HS4 := Aside0.mk (HS.out.below hb_); have hbg := Aside0.mk (show g ≠ b ∧ h ≠ b ∧ w.heap.size ≤ b from by rw [hg_]; exact ⟨Nat.ne_of_lt HS.out.ltg, Nat.ne_of_lt HS.out.lth, HS.out.bel.size⟩); have ca0 := (blk_cell HA4.out 0).trans rfl; have fa0 := blk_frozen HA4.out 0; have ca1 := (blk_cell HA4.out 1).trans rfl; have fa1 := blk_frozen HA4.out 1; have ca2 := (blk_cell HA4.out 2).trans rfl; have fa2 := blk_frozen HA4.out 2;clear hg_ hbox_ hb_) | ((with_reducible refine gate_store (t := 31) (p := 10) rfl ?_); refine store3 ?hg (t := 31) (p := 10) (v := ?vo_2) ?ho ?hd (x0 := .int .u8 0) (x1 := .int .i64 x1) (x2 := .slice A2 n2 c2) HA4.out ?hr ?_; (case hd => rfl); (case hg => rfl); (case ho => rfl); (case hr => first | (go_simp; done) | (go_simp; rfl)); intro w5 hbox_ hk_ hb_; have HA5 := Aside0.mk hbox_; have HS5 := Aside0.mk (HS4.out.side hk_ hb_ (Ne.symm hbg.out.1) (Ne.symm hbg.out.2.1) hbg.out.2.2); clear ca0 fa0 ca1 fa1 ca2 fa2; have ca0 := (blk_cell HA5.out 0).trans rfl; have fa0 := blk_frozen HA5.out 0; have ca1 := (blk_cell HA5.out 1).trans rfl; have fa1 := blk_frozen HA5.out 1; have ca2 := (blk_cell HA5.out 2).trans rfl; have fa2 := blk_frozen HA5.out 2;clear hbox_ hk_ hb_))
          refine (send_any (w0 := w) _ HS5.out.fl HS5.out.hg HS5.out.bel (Kd.C_below HC2.out HS5.out.bel) hl2 (by rw [← Hn2.out]; omega) hr0.1 hr0.2.1 hmo.2 HP.out).mono ?_
          rintro e w6 ⟨A6, c6, rfl, hR6, hF6, hB6, hK6⟩
          have HS6 := Aside0.mk (HS5.out.flow hK6 hF6 hB6)
          have HA6 := Aside0.mk ((hK6.2 b (blk_lt HA5.out) (Ne.symm hbg.out.1)).trans HA5.out)
          have HR6 := Aside0.mk hR6
          clear hR6 hF6 hB6 hK6 HS5 HS4 HA5 HA4 ca0 ca1 ca2 fa0 fa1 fa2
          have dw0 := (blk_cell HS6.out.wt 0).trans rfl
          have ew0 := blk_frozen HS6.out.wt 0
          have dw1 := (blk_cell HS6.out.wt 1).trans rfl
          have ew1 := blk_frozen HS6.out.wt 1
          have dw2 := (blk_cell HS6.out.wt 2).trans rfl
          have ew2 := blk_frozen HS6.out.wt 2
          have dw3 := (blk_cell HS6.out.wt 3).trans rfl
          have ew3 := blk_frozen HS6.out.wt 3
          have ca2 := (blk_cell HA6.out 2).trans rfl
          go_wp2_with fail
          refine (refsend_any _ (Kd.C_below HC2.out HS6.out.bel) hl2 (by rw [← Hn2.out]; omega) hr0.1 hr0.2.1 hmo.2 HP.out).mono ?_
          rintro e w7 ⟨A7, c7, rfl, hC7, hB7⟩
          have HS7 := Aside0.mk (HS6.out.below hB7)
          have HR7 := Aside0.mk (Kd.R_bound (Kd.R_below HR6.out hB7))
          have HC7 := Aside0.mk (Kd.R_bound hC7)
          clear hC7 hB7 HS6 HR6 HA6 ca2 dw0 ew0 dw1 ew1 dw2 ew2 dw3 ew3
          obtain ⟨m6, hm6⟩ : ∃ m6, m6 = ob.length := ⟨_, rfl⟩
          rw [← hm6] at HR7 HC7 HRg ⊢
          clear hm6
          go_wp2_with (first | ((with_reducible refine gate_dst (N := 13) rfl ?_); refine box_event ?hg (N := 13) ?hd (cs := #[.int .i64 0, .int .i64 0, .int .i64 0, .int .i64 0]) (t := 27) ?hr ?_; (case hd => rfl); (case hg => rfl); (case hr => first | (go_simp; done) | (go_simp; rfl)); intro j hg_ w8 hbox_ hb_; have HJ8 := Aside0.mk hbox_; have HS8 := Aside0.mk (HS7.out.below hb_); have HR8 := Aside0.mk (Kd.R_below HR7.out hb_); have HC8 := Aside0.mk (Kd.R_below HC7.out hb_); have hjs := Aside0.mk hg_; have hjg := Aside0.mk (show j ≠ g ∧ j ≠ h ∧ w.heap.size ≤ j from by rw [hg_]; exact ⟨Ne.symm (Nat.ne_of_lt HS7.out.ltg), Ne.symm (Nat.ne_of_lt HS7.out.lth), HS7.out.bel.size⟩); have ca0 := (blk_cell HJ8.out 0).trans rfl; have fa0 := blk_frozen HJ8.out 0; have ca1 := (blk_cell HJ8.out 1).trans rfl; have fa1 := blk_frozen HJ8.out 1; have ca2 := (blk_cell HJ8.out 2).trans rfl; have fa2 := blk_frozen HJ8.out 2; have ca3 := (blk_cell HJ8.out 3).trans rfl; have fa3 := blk_frozen HJ8.out 3;clear hg_ hbox_ hb_) | ((with_reducible refine gate_store (t := 27) (p := 13) rfl ?_); refine store4 ?hg (t := 27) (p := 13) (v := ?vo_3) ?ho ?hd (x0 := .int .i64 o) (x1 := .int .i64 r) (x2 := .int .i64 f') (x3 := .int .i64 a) HJ8.out ?hr ?_; (case hd => rfl); (case hg => rfl); (case ho => rfl); (case hr => first | (go_simp; done) | (go_simp; rfl)); intro w9 hbox_ hk_ hb_; have HJ9 := Aside0.mk hbox_; have HS9 := Aside0.mk (HS8.out.side hk_ hb_ hjg.out.1 hjg.out.2.1 hjg.out.2.2); have hv1 := str_of (Kd.R_kept HR8.out hk_ (fun k hk e => by have := hk.2.2.1; have := hjs.out; omega)); have hv2 := str_of (Kd.R_kept HC8.out hk_ (fun k hk e => by have := hk.2.2.1; have := hjs.out; omega)); clear ca0 fa0 ca1 fa1 ca2 fa2 ca3 fa3; have ca0 := (blk_cell HJ9.out 0).trans rfl; have fa0 := blk_frozen HJ9.out 0; have ca1 := (blk_cell HJ9.out 1).trans rfl; have fa1 := blk_frozen HJ9.out 1; have ca2 := (blk_cell HJ9.out 2).trans rfl; have fa2 := blk_frozen HJ9.out 2; have ca3 := (blk_cell HJ9.out 3).trans rfl; have fa3 := blk_frozen HJ9.out 3; have dw0 := (blk_cell HS9.out.wt 0).trans rfl; have ew0 := blk_frozen HS9.out.wt 0; have dw1 := (blk_cell HS9.out.wt 1).trans rfl; have ew1 := blk_frozen HS9.out.wt 1; have dw2 := (blk_cell HS9.out.wt 2).trans rfl; have ew2 := blk_frozen HS9.out.wt 2; have dw3 := (blk_cell HS9.out.wt 3).trans rfl; have ew3 := blk_frozen HS9.out.wt 3;clear hbox_ hk_ hb_) | ((with_reducible refine gate_store (t := 27) (p := 8) rfl ?_); refine store4 ?hg (t := 27) (p := 8) (v := ?vo_4) ?ho ?hd (x0 := .int .i64 o) (x1 := .int .i64 r) (x2 := .int .i64 f') (x3 := .int .i64 a) HS9.out.wt ?hr ?_; (case hd => rfl); (case hg => rfl); (case ho => rfl); (case hr => first | (go_simp; done) | (go_simp; rfl)); intro w10 hbox_ hk_ hb_; have HS10 := Aside0.mk (HS9.out.want hk_ hbox_ hb_); clear ca0 fa0 ca1 fa1 ca2 fa2 ca3 fa3; clear dw0 ew0 dw1 ew1 dw2 ew2 dw3 ew3; clear hv1 hv2;clear hbox_ hk_ hb_))

          have q0 := HS10.out.fl.c0
          have q2 := HS10.out.fl.c2
          have dw0 := (blk_cell HS10.out.wt 0).trans rfl
          have ew0 := blk_frozen HS10.out.wt 0
          have dw1 := (blk_cell HS10.out.wt 1).trans rfl
          have ew1 := blk_frozen HS10.out.wt 1
          have dw2 := (blk_cell HS10.out.wt 2).trans rfl
          have ew2 := blk_frozen HS10.out.wt 2
          have dw3 := (blk_cell HS10.out.wt 3).trans rfl
          have ew3 := blk_frozen HS10.out.wt 3
          go_quiet ((first | (go_at_call 23; exact Calls.quiet_of_same (flying_q _ (HS10.out.fl.drewN _))) | (go_at_call 24; exact Calls.quiet_of_same (asked_q _ (HS10.out.fl.drewN _)))))
          go_wp2_with fail
          go_roundg gq
          case measure => omega
          case rel => exact ⟨k + 1, _, _, by omega, by go_num, ⟨by have := HRg.out; exact ⟨this.1, this.2.1, hr0.2.2⟩⟩, ⟨HS10.out.drewN _⟩⟩
        · by_cases t1 : x0 = 1
          · subst t1
            obtain ⟨z, hz⟩ : ∃ z, z = (if x1 ≤ 0 then f else if x1 ≤ f then f - x1 else 0) := ⟨_, rfl⟩
            have hz2 : 0 ≤ z ∧ z ≤ o := by rw [hz]; (repeat' split) <;> omega
            have Hz := Aside0.mk hz
            clear hz
            go_wp2_with (first | ((with_reducible refine gate_dst (N := 10) rfl ?_); refine box_event ?hg (N := 10) ?hd (cs := #[.int .u8 0, .int .i64 0, .slice none 0 0]) (t := 31) ?hr ?_; (case hd => rfl); (case hg => rfl); (case hr => first | (go_simp; done) | (go_simp; rfl)); intro b hg_ w4 hbox_ hb_; have HA4 := Aside0.mk hbox_; have HS4 := Aside0.mk (HS.out.below hb_); have hbg := Aside0.mk (show g ≠ b ∧ h ≠ b ∧ w.heap.size ≤ b from by rw [hg_]; exact ⟨Nat.ne_of_lt HS.out.ltg, Nat.ne_of_lt HS.out.lth, HS.out.bel.size⟩); have ca0 := (blk_cell HA4.out 0).trans rfl; have fa0 := blk_frozen HA4.out 0; have ca1 := (blk_cell HA4.out 1).trans rfl; have fa1 := blk_frozen HA4.out 1; have ca2 := (blk_cell HA4.out 2).trans rfl; have fa2 := blk_frozen HA4.out 2;clear hg_ hbox_ hb_) | ((with_reducible refine gate_store (t := 31) (p := 10) rfl ?_); refine store3 ?hg (t := 31) (p := 10) (v := ?vo_5) ?ho ?hd (x0 := .int .u8 1) (x1 := .int .i64 x1) (x2 := .slice A2 n2 c2) HA4.out ?hr ?_; (case hd => rfl); (case hg => rfl); (case ho => rfl); (case hr => first | (go_simp; done) | (go_simp; rfl)); intro w5 hbox_ hk_ hb_; have HA5 := Aside0.mk hbox_; have HS5 := Aside0.mk (HS4.out.side hk_ hb_ (Ne.symm hbg.out.1) (Ne.symm hbg.out.2.1) hbg.out.2.2); clear ca0 fa0 ca1 fa1 ca2 fa2; have ca0 := (blk_cell HA5.out 0).trans rfl; have fa0 := blk_frozen HA5.out 0; have ca1 := (blk_cell HA5.out 1).trans rfl; have fa1 := blk_frozen HA5.out 1; have ca2 := (blk_cell HA5.out 2).trans rfl; have fa2 := blk_frozen HA5.out 2;clear hbox_ hk_ hb_))
            go_region_with ((go_at_call 17; refine (gone_fl (w0 := w) _ HS5.out.drew.fl hg HS5.out.drew.bel hr0.1 (by omega) Hz.out).mono ?_; rintro e w6 ⟨rfl, hF6, hB6, hK6⟩; have HS6 := Aside0.mk (HS5.out.drew.flow hK6 hF6 hB6); have HA6 := Aside0.mk ((hK6.2 b (blk_lt HA5.out) (Ne.symm hbg.out.1)).trans HA5.out); clear hF6 hB6 hK6))
            clear HS5 HS4 HA5 HA4 ca0 ca1 ca2 fa0 fa1 fa2
            have dw0 := (blk_cell HS6.out.wt 0).trans rfl
            have ew0 := blk_frozen HS6.out.wt 0
            have dw1 := (blk_cell HS6.out.wt 1).trans rfl
            have ew1 := blk_frozen HS6.out.wt 1
            have dw2 := (blk_cell HS6.out.wt 2).trans rfl
            have ew2 := blk_frozen HS6.out.wt 2
            have dw3 := (blk_cell HS6.out.wt 3).trans rfl
            have ew3 := blk_frozen HS6.out.wt 3
            have ca1 := (blk_cell HA6.out 1).trans rfl
            go_wp2_with fail
            refine (refgone_any _ hr0.1 (by omega) Hz.out).mono ?_
            rintro e w7 ⟨rfl, hB7⟩
            have HS7 := Aside0.mk (HS6.out.below hB7)
            clear hB7 HS6 HA6 ca1 dw0 ew0 dw1 ew1 dw2 ew2 dw3 ew3
            have dw0 := (blk_cell HS7.out.wt 0).trans rfl
            have ew0 := blk_frozen HS7.out.wt 0
            have dw1 := (blk_cell HS7.out.wt 1).trans rfl
            have ew1 := blk_frozen HS7.out.wt 1
            have dw2 := (blk_cell HS7.out.wt 2).trans rfl
            have ew2 := blk_frozen HS7.out.wt 2
            have dw3 := (blk_cell HS7.out.wt 3).trans rfl
            have ew3 := blk_frozen HS7.out.wt 3
            go_wp2_with (first | ((with_reducible refine gate_store (t := 27) (p := 8) rfl ?_); refine store4 ?hg (t := 27) (p := 8) (v := ?vo_6) ?ho ?hd (x0 := .int .i64 o) (x1 := .int .i64 r) (x2 := .int .i64 z) (x3 := .int .i64 a) HS7.out.wt ?hr ?_; (case hd => rfl); (case hg => rfl); (case ho => rfl); (case hr => first | (go_simp; done) | (go_simp; rfl)); intro w10 hbox_ hk_ hb_; have HS10 := Aside0.mk (HS7.out.want hk_ hbox_ hb_); clear dw0 ew0 dw1 ew1 dw2 ew2 dw3 ew3; have dx0 := (blk_cell HS10.out.wt 0).trans rfl; have ex0 := blk_frozen HS10.out.wt 0; have dx1 := (blk_cell HS10.out.wt 1).trans rfl; have ex1 := blk_frozen HS10.out.wt 1; have dx2 := (blk_cell HS10.out.wt 2).trans rfl; have ex2 := blk_frozen HS10.out.wt 2; have dx3 := (blk_cell HS10.out.wt 3).trans rfl; have ex3 := blk_frozen HS10.out.wt 3;clear hbox_ hk_ hb_))
            clear dx0 ex0 dx1 ex1 dx2 ex2 dx3 ex3
            have q0 := HS10.out.fl.c0
            have q2 := HS10.out.fl.c2
            have dw0 := (blk_cell HS10.out.wt 0).trans rfl
            have ew0 := blk_frozen HS10.out.wt 0
            have dw1 := (blk_cell HS10.out.wt 1).trans rfl
            have ew1 := blk_frozen HS10.out.wt 1
            have dw2 := (blk_cell HS10.out.wt 2).trans rfl
            have ew2 := blk_frozen HS10.out.wt 2
            have dw3 := (blk_cell HS10.out.wt 3).trans rfl
            have ew3 := blk_frozen HS10.out.wt 3
            go_quiet ((first | (go_at_call 23; exact Calls.quiet_of_same (flying_q _ (HS10.out.fl.drewN _))) | (go_at_call 24; exact Calls.quiet_of_same (asked_q _ (HS10.out.fl.drewN _)))))
            go_wp2_with fail
            go_roundg gq
            case measure => omega
            case rel => exact ⟨k + 1, _, _, by omega, by go_num, ⟨by omega⟩, ⟨HS10.out.drewN _⟩⟩
          · by_cases t2 : x0 = 2
            · subst t2
              obtain ⟨a2, ha2⟩ : ∃ a2, a2 = (if a < r then a + 1 else a) := ⟨_, rfl⟩
              obtain ⟨y, hy⟩ : ∃ y, y = decide (a < r) := ⟨_, rfl⟩
              have ha3 : 0 ≤ a2 ∧ a2 ≤ r := by rw [ha2]; split <;> omega
              have Ha2 := Aside0.mk ha2
              have Hy := Aside0.mk hy
              clear ha2 hy
              go_wp2_with (first | ((with_reducible refine gate_dst (N := 10) rfl ?_); refine box_event ?hg (N := 10) ?hd (cs := #[.int .u8 0, .int .i64 0, .slice none 0 0]) (t := 31) ?hr ?_; (case hd => rfl); (case hg => rfl); (case hr => first | (go_simp; done) | (go_simp; rfl)); intro b hg_ w4 hbox_ hb_; have HA4 := Aside0.mk hbox_; have HS4 := Aside0.mk (HS.out.below hb_); have hbg := Aside0.mk (show g ≠ b ∧ h ≠ b ∧ w.heap.size ≤ b from by rw [hg_]; exact ⟨Nat.ne_of_lt HS.out.ltg, Nat.ne_of_lt HS.out.lth, HS.out.bel.size⟩); have ca0 := (blk_cell HA4.out 0).trans rfl; have fa0 := blk_frozen HA4.out 0; have ca1 := (blk_cell HA4.out 1).trans rfl; have fa1 := blk_frozen HA4.out 1; have ca2 := (blk_cell HA4.out 2).trans rfl; have fa2 := blk_frozen HA4.out 2;clear hg_ hbox_ hb_) | ((with_reducible refine gate_store (t := 31) (p := 10) rfl ?_); refine store3 ?hg (t := 31) (p := 10) (v := ?vo_7) ?ho ?hd (x0 := .int .u8 2) (x1 := .int .i64 x1) (x2 := .slice A2 n2 c2) HA4.out ?hr ?_; (case hd => rfl); (case hg => rfl); (case ho => rfl); (case hr => first | (go_simp; done) | (go_simp; rfl)); intro w5 hbox_ hk_ hb_; have HA5 := Aside0.mk hbox_; have HS5 := Aside0.mk (HS4.out.side hk_ hb_ (Ne.symm hbg.out.1) (Ne.symm hbg.out.2.1) hbg.out.2.2); clear ca0 fa0 ca1 fa1 ca2 fa2; have ca0 := (blk_cell HA5.out 0).trans rfl; have fa0 := blk_frozen HA5.out 0; have ca1 := (blk_cell HA5.out 1).trans rfl; have fa1 := blk_frozen HA5.out 1; have ca2 := (blk_cell HA5.out 2).trans rfl; have fa2 := blk_frozen HA5.out 2;clear hbox_ hk_ hb_))
              refine (ask_fl (w0 := w) _ HS5.out.fl hg HS5.out.bel hr0.2.2.1 hr0.2.2.2 hmr.2).mono ?_
              rintro e w6 ⟨rfl, hF6, hB6, hK6⟩
              rw [← Ha2.out] at hF6
              rw [← Hy.out]
              have HS6 := Aside0.mk (HS5.out.flow hK6 hF6 hB6)
              clear hF6 hB6 hK6 HS5 HS4 HA5 HA4 ca0 ca1 ca2 fa0 fa1 fa2
              have dw0 := (blk_cell HS6.out.wt 0).trans rfl
              have ew0 := blk_frozen HS6.out.wt 0
              have dw1 := (blk_cell HS6.out.wt 1).trans rfl
              have ew1 := blk_frozen HS6.out.wt 1
              have dw2 := (blk_cell HS6.out.wt 2).trans rfl
              have ew2 := blk_frozen HS6.out.wt 2
              have dw3 := (blk_cell HS6.out.wt 3).trans rfl
              have ew3 := blk_frozen HS6.out.wt 3
              go_wp2_with fail
              refine (refask_any _ hr0.2.2.1 hmr.2).mono ?_
              rintro e w7 ⟨rfl, hB7⟩
              rw [← Ha2.out, ← Hy.out]
              have HS7 := Aside0.mk (HS6.out.below hB7)
              clear hB7 HS6 dw0 ew0 dw1 ew1 dw2 ew2 dw3 ew3
              go_wp2_with (first | ((with_reducible refine gate_dst (N := 18) rfl ?_); refine box_event ?hg (N := 18) ?hd (cs := #[.int .i64 0, .int .i64 0, .int .i64 0, .int .i64 0]) (t := 27) ?hr ?_; (case hd => rfl); (case hg => rfl); (case hr => first | (go_simp; done) | (go_simp; rfl)); intro j hg_ w8 hbox_ hb_; have HJ8 := Aside0.mk hbox_; have HS8 := Aside0.mk (HS7.out.below hb_); have hjg := Aside0.mk (show j ≠ g ∧ j ≠ h ∧ w.heap.size ≤ j from by rw [hg_]; exact ⟨Ne.symm (Nat.ne_of_lt HS7.out.ltg), Ne.symm (Nat.ne_of_lt HS7.out.lth), HS7.out.bel.size⟩); have ca0 := (blk_cell HJ8.out 0).trans rfl; have fa0 := blk_frozen HJ8.out 0; have ca1 := (blk_cell HJ8.out 1).trans rfl; have fa1 := blk_frozen HJ8.out 1; have ca2 := (blk_cell HJ8.out 2).trans rfl; have fa2 := blk_frozen HJ8.out 2; have ca3 := (blk_cell HJ8.out 3).trans rfl; have fa3 := blk_frozen HJ8.out 3;clear hg_ hbox_ hb_) | ((with_reducible refine gate_store (t := 27) (p := 18) rfl ?_); refine store4 ?hg (t := 27) (p := 18) (v := ?vo_8) ?ho ?hd (x0 := .int .i64 o) (x1 := .int .i64 r) (x2 := .int .i64 f) (x3 := .int .i64 a2) HJ8.out ?hr ?_; (case hd => rfl); (case hg => rfl); (case ho => rfl); (case hr => first | (go_simp; done) | (go_simp; rfl)); intro w9 hbox_ hk_ hb_; have HJ9 := Aside0.mk hbox_; have HS9 := Aside0.mk (HS8.out.side hk_ hb_ hjg.out.1 hjg.out.2.1 hjg.out.2.2); clear ca0 fa0 ca1 fa1 ca2 fa2 ca3 fa3; have ca0 := (blk_cell HJ9.out 0).trans rfl; have fa0 := blk_frozen HJ9.out 0; have ca1 := (blk_cell HJ9.out 1).trans rfl; have fa1 := blk_frozen HJ9.out 1; have ca2 := (blk_cell HJ9.out 2).trans rfl; have fa2 := blk_frozen HJ9.out 2; have ca3 := (blk_cell HJ9.out 3).trans rfl; have fa3 := blk_frozen HJ9.out 3; have dw0 := (blk_cell HS9.out.wt 0).trans rfl; have ew0 := blk_frozen HS9.out.wt 0; have dw1 := (blk_cell HS9.out.wt 1).trans rfl; have ew1 := blk_frozen HS9.out.wt 1; have dw2 := (blk_cell HS9.out.wt 2).trans rfl; have ew2 := blk_frozen HS9.out.wt 2; have dw3 := (blk_cell HS9.out.wt 3).trans rfl; have ew3 := blk_frozen HS9.out.wt 3;clear hbox_ hk_ hb_) | ((with_reducible refine gate_store (t := 27) (p := 8) rfl ?_); refine store4 ?hg (t := 27) (p := 8) (v := ?vo_9) ?ho ?hd (x0 := .int .i64 o) (x1 := .int .i64 r) (x2 := .int .i64 f) (x3 := .int .i64 a2) HS9.out.wt ?hr ?_; (case hd => rfl); (case hg => rfl); (case ho => rfl); (case hr => first | (go_simp; done) | (go_simp; rfl)); intro w10 hbox_ hk_ hb_; have HS10 := Aside0.mk (HS9.out.want hk_ hbox_ hb_); clear ca0 fa0 ca1 fa1 ca2 fa2 ca3 fa3; clear dw0 ew0 dw1 ew1 dw2 ew2 dw3 ew3;clear hbox_ hk_ hb_))

              have q0 := HS10.out.fl.c0
              have q2 := HS10.out.fl.c2
              have dw0 := (blk_cell HS10.out.wt 0).trans rfl
              have ew0 := blk_frozen HS10.out.wt 0
              have dw1 := (blk_cell HS10.out.wt 1).trans rfl
              have ew1 := blk_frozen HS10.out.wt 1
              have dw2 := (blk_cell HS10.out.wt 2).trans rfl
              have ew2 := blk_frozen HS10.out.wt 2
              have dw3 := (blk_cell HS10.out.wt 3).trans rfl
              have ew3 := blk_frozen HS10.out.wt 3
              go_quiet ((first | (go_at_call 23; exact Calls.quiet_of_same (flying_q _ (HS10.out.fl.drewN _))) | (go_at_call 24; exact Calls.quiet_of_same (asked_q _ (HS10.out.fl.drewN _)))))
              go_wp2_with fail
              go_roundg gq
              case measure => omega
              case rel => exact ⟨k + 1, _, _, by omega, by go_num, ⟨by omega⟩, ⟨HS10.out.drewN _⟩⟩
            · by_cases t3 : x0 = 3
              · subst t3
                go_wp2_with (first | ((with_reducible refine gate_dst (N := 10) rfl ?_); refine box_event ?hg (N := 10) ?hd (cs := #[.int .u8 0, .int .i64 0, .slice none 0 0]) (t := 31) ?hr ?_; (case hd => rfl); (case hg => rfl); (case hr => first | (go_simp; done) | (go_simp; rfl)); intro b hg_ w4 hbox_ hb_; have HA4 := Aside0.mk hbox_; have HS4 := Aside0.mk (HS.out.below hb_); have hbg := Aside0.mk (show g ≠ b ∧ h ≠ b ∧ w.heap.size ≤ b from by rw [hg_]; exact ⟨Nat.ne_of_lt HS.out.ltg, Nat.ne_of_lt HS.out.lth, HS.out.bel.size⟩); have ca0 := (blk_cell HA4.out 0).trans rfl; have fa0 := blk_frozen HA4.out 0; have ca1 := (blk_cell HA4.out 1).trans rfl; have fa1 := blk_frozen HA4.out 1; have ca2 := (blk_cell HA4.out 2).trans rfl; have fa2 := blk_frozen HA4.out 2;clear hg_ hbox_ hb_) | ((with_reducible refine gate_store (t := 31) (p := 10) rfl ?_); refine store3 ?hg (t := 31) (p := 10) (v := ?vo_10) ?ho ?hd (x0 := .int .u8 3) (x1 := .int .i64 x1) (x2 := .slice A2 n2 c2) HA4.out ?hr ?_; (case hd => rfl); (case hg => rfl); (case ho => rfl); (case hr => first | (go_simp; done) | (go_simp; rfl)); intro w5 hbox_ hk_ hb_; have HA5 := Aside0.mk hbox_; have HS5 := Aside0.mk (HS4.out.side hk_ hb_ (Ne.symm hbg.out.1) (Ne.symm hbg.out.2.1) hbg.out.2.2); clear ca0 fa0 ca1 fa1 ca2 fa2; have ca0 := (blk_cell HA5.out 0).trans rfl; have fa0 := blk_frozen HA5.out 0; have ca1 := (blk_cell HA5.out 1).trans rfl; have fa1 := blk_frozen HA5.out 1; have ca2 := (blk_cell HA5.out 2).trans rfl; have fa2 := blk_frozen HA5.out 2;clear hbox_ hk_ hb_))
                refine (tick_fl (w0 := w) _ HS5.out.fl hg HS5.out.bel).mono ?_
                rintro e w6 ⟨rfl, hF6, hB6, hK6⟩
                have HS6 := Aside0.mk (HS5.out.flow hK6 hF6 hB6)
                clear hF6 hB6 hK6 HS5 HS4 HA5 HA4 ca0 ca1 ca2 fa0 fa1 fa2
                have dw0 := (blk_cell HS6.out.wt 0).trans rfl
                have ew0 := blk_frozen HS6.out.wt 0
                have dw1 := (blk_cell HS6.out.wt 1).trans rfl
                have ew1 := blk_frozen HS6.out.wt 1
                have dw2 := (blk_cell HS6.out.wt 2).trans rfl
                have ew2 := blk_frozen HS6.out.wt 2
                have dw3 := (blk_cell HS6.out.wt 3).trans rfl
                have ew3 := blk_frozen HS6.out.wt 3
                go_wp2_with fail
                refine (reftick_any _).mono ?_
                rintro e w7 ⟨rfl, hB7⟩
                have HS7 := Aside0.mk (HS6.out.below hB7)
                clear hB7 HS6 dw0 ew0 dw1 ew1 dw2 ew2 dw3 ew3
                have dw0 := (blk_cell HS7.out.wt 0).trans rfl
                have ew0 := blk_frozen HS7.out.wt 0
                have dw1 := (blk_cell HS7.out.wt 1).trans rfl
                have ew1 := blk_frozen HS7.out.wt 1
                have dw2 := (blk_cell HS7.out.wt 2).trans rfl
                have ew2 := blk_frozen HS7.out.wt 2
                have dw3 := (blk_cell HS7.out.wt 3).trans rfl
                have ew3 := blk_frozen HS7.out.wt 3
                go_wp2_with (first | ((with_reducible refine gate_store (t := 27) (p := 8) rfl ?_); refine store4 ?hg (t := 27) (p := 8) (v := ?vo_11) ?ho ?hd (x0 := .int .i64 o) (x1 := .int .i64 r) (x2 := .int .i64 f) (x3 := .int .i64 0) HS7.out.wt ?hr ?_; (case hd => rfl); (case hg => rfl); (case ho => rfl); (case hr => first | (go_simp; done) | (go_simp; rfl)); intro w10 hbox_ hk_ hb_; have HS10 := Aside0.mk (HS7.out.want hk_ hbox_ hb_); clear dw0 ew0 dw1 ew1 dw2 ew2 dw3 ew3;clear hbox_ hk_ hb_))

                have q0 := HS10.out.fl.c0
                have q2 := HS10.out.fl.c2
                have dw0 := (blk_cell HS10.out.wt 0).trans rfl
                have ew0 := blk_frozen HS10.out.wt 0
                have dw1 := (blk_cell HS10.out.wt 1).trans rfl
                have ew1 := blk_frozen HS10.out.wt 1
                have dw2 := (blk_cell HS10.out.wt 2).trans rfl
                have ew2 := blk_frozen HS10.out.wt 2
                have dw3 := (blk_cell HS10.out.wt 3).trans rfl
                have ew3 := blk_frozen HS10.out.wt 3
                go_quiet ((first | (go_at_call 23; exact Calls.quiet_of_same (flying_q _ (HS10.out.fl.drewN _))) | (go_at_call 24; exact Calls.quiet_of_same (asked_q _ (HS10.out.fl.drewN _)))))
                go_wp2_with fail
                go_roundg gq
                case measure => omega
                case rel => exact ⟨k + 1, _, _, by omega, by go_num, ⟨by omega⟩, ⟨HS10.out.drewN _⟩⟩
              · go_wp2_with (first | ((with_reducible refine gate_dst (N := 10) rfl ?_); refine box_event ?hg (N := 10) ?hd (cs := #[.int .u8 0, .int .i64 0, .slice none 0 0]) (t := 31) ?hr ?_; (case hd => rfl); (case hg => rfl); (case hr => first | (go_simp; done) | (go_simp; rfl)); intro b hg_ w4 hbox_ hb_; have HA4 := Aside0.mk hbox_; have HS4 := Aside0.mk (HS.out.below hb_); have hbg := Aside0.mk (show g ≠ b ∧ h ≠ b ∧ w.heap.size ≤ b from by rw [hg_]; exact ⟨Nat.ne_of_lt HS.out.ltg, Nat.ne_of_lt HS.out.lth, HS.out.bel.size⟩); have ca0 := (blk_cell HA4.out 0).trans rfl; have fa0 := blk_frozen HA4.out 0; have ca1 := (blk_cell HA4.out 1).trans rfl; have fa1 := blk_frozen HA4.out 1; have ca2 := (blk_cell HA4.out 2).trans rfl; have fa2 := blk_frozen HA4.out 2;clear hg_ hbox_ hb_) | ((with_reducible refine gate_store (t := 31) (p := 10) rfl ?_); refine store3 ?hg (t := 31) (p := 10) (v := ?vo_12) ?ho ?hd (x0 := .int .u8 x0) (x1 := .int .i64 x1) (x2 := .slice A2 n2 c2) HA4.out ?hr ?_; (case hd => rfl); (case hg => rfl); (case ho => rfl); (case hr => first | (go_simp; done) | (go_simp; rfl)); intro w5 hbox_ hk_ hb_; have HA5 := Aside0.mk hbox_; have HS5 := Aside0.mk (HS4.out.side hk_ hb_ (Ne.symm hbg.out.1) (Ne.symm hbg.out.2.1) hbg.out.2.2); clear ca0 fa0 ca1 fa1 ca2 fa2; have ca0 := (blk_cell HA5.out 0).trans rfl; have fa0 := blk_frozen HA5.out 0; have ca1 := (blk_cell HA5.out 1).trans rfl; have fa1 := blk_frozen HA5.out 1; have ca2 := (blk_cell HA5.out 2).trans rfl; have fa2 := blk_frozen HA5.out 2;clear hbox_ hk_ hb_))
                clear ca0 ca1 ca2 fa0 fa1 fa2

                have q0 := HS5.out.fl.c0
                have q2 := HS5.out.fl.c2
                have dw0 := (blk_cell HS5.out.wt 0).trans rfl
                have ew0 := blk_frozen HS5.out.wt 0
                have dw1 := (blk_cell HS5.out.wt 1).trans rfl
                have ew1 := blk_frozen HS5.out.wt 1
                have dw2 := (blk_cell HS5.out.wt 2).trans rfl
                have ew2 := blk_frozen HS5.out.wt 2
                have dw3 := (blk_cell HS5.out.wt 3).trans rfl
                have ew3 := blk_frozen HS5.out.wt 3
                go_quiet ((first | (go_at_call 23; exact Calls.quiet_of_same (flying_q _ (HS5.out.fl.drewN _))) | (go_at_call 24; exact Calls.quiet_of_same (asked_q _ (HS5.out.fl.drewN _)))))
                go_wp2_with fail
                go_roundg gq
                case measure => omega
                case rel => exact ⟨k + 1, _, _, by omega, by go_num, ⟨by omega⟩, ⟨HS5.out.drewN _⟩⟩
      · go_wp2_with fail
        refine (awake_any _).mono ?_
        rintro e w9 ⟨rfl, hb9⟩
        have HB9 := Aside0.mk (below_step HS.out.bel hb9)
        clear hb9
        go_wp2_with fail
        go_ret
        exact ⟨rfl, HB9.out⟩
theorem runs_row {out rate : Int} {n c : Nat} {A : Option Addr} {acts : List S31} (w : World) (ho : out ≤ 9223372036854775807) (hr : rate ≤ 9223372036854775807) (HR : k31.C w A n acts) (hc : n ≤ c) :
    Calls Try.prog 3 #[.int .i64 out, .int .i64 rate, .slice A n c] w fun e w' => e = .returned (.bool true) ∧ Below w.heap.size w w' := runs_law w HR hc ho hr
end Go.Proofs.Ytgblihndkhiddaa.Ou
