/-
The law OutboxBound: no more bytes are in flight, and no more requests come between two ticks, than may.
-/
import Derived.Test.YtgblihndkhiddaaOd
namespace Go.Proofs.Ytgblihndkhiddaa.Ou
set_option linter.unusedVariables false
set_option linter.unusedSimpArgs false
open Go.RowKit Go.Proofs.YtgblihndkhiddaaW.PrintWords Go.Proofs.YtgblihndkhiddaaW.PrintLast Go.Proofs.YtgblihndkhiddaaW.PrintMore Go.Proofs.Ytgblihndkhiddaa.POutboxRuns

/-- The flow's block: f in flight of o, a asked of r. -/
structure Sf (w wr : World) (g : Nat) (o r f a : Int) : Prop where
  fl : Fl wr g f o a r
  hg : w.heap.size ≤ g
  bel : Below w.heap.size w wr
theorem Sf.ltg {w wr : World} {g : Nat} {o r f a : Int} (s : Sf w wr g o r f a) : g < wr.heap.size := blk_lt s.fl
theorem Sf.below {w wr w' : World} {g : Nat} {o r f a : Int} (s : Sf w wr g o r f a) (hb : Below wr.heap.size wr w') : Sf w w' g o r f a :=
  ⟨(hb.block g s.ltg).trans s.fl, s.hg, s.bel.trans (hb.mono s.bel.size)⟩
theorem Sf.drew {w wr : World} {g : Nat} {o r f a : Int} (s : Sf w wr g o r f a) : Sf w wr.drew g o r f a := ⟨s.fl, s.hg, below_drew s.bel⟩
theorem Sf.side {w wr w' : World} {g b : Nat} {o r f a : Int} (s : Sf w wr g o r f a) (hk : Kept wr w' (fun k => k = b)) (hb : Below b wr w') (h1 : b ≠ g) (h3 : w.heap.size ≤ b) : Sf w w' g o r f a :=
  ⟨(hk.2 g s.ltg (Ne.symm h1)).trans s.fl, s.hg, s.bel.trans (hb.mono h3)⟩
theorem Sf.flow {w w' : World} {g : Nat} {o r f2 a2 : Int} (hg : w.heap.size ≤ g) (hf : Fl w' g f2 o a2 r) (hb : Below w.heap.size w w') : Sf w w' g o r f2 a2 := ⟨hf, hg, hb⟩

attribute [local go_sem] max2_int max_two
set_option maxRecDepth 100000 in
set_option maxHeartbeats 6400000 in
theorem bound_law {out rate : Int} {n c : Nat} {A : Option Addr} {acts : List S31} (w : World) (HR : k31.C w A n acts) (hc : n ≤ c) (ho : out ≤ 9223372036854775807) (hr : rate ≤ 9223372036854775807) :
    Calls Try.prog 4 #[.int .i64 out, .int .i64 rate, .slice A n c] w fun e w' => e = .returned (.bool true) ∧ Below w.heap.size w w' := by
  have hu31 := Try.underlying31
  have H := Aside0.mk HR
  have Hn : Aside0 (acts.length = n) := ⟨HR.1⟩
  have hmo := mx0 out ho
  have hmr := mx0 rate hr
  clear HR
  obtain ⟨o, ho'⟩ : ∃ o, (if out < 0 then 0 else out) = o := ⟨_, rfl⟩
  obtain ⟨r, hr'⟩ : ∃ r, (if rate < 0 then 0 else rate) = r := ⟨_, rfl⟩
  have Ho : Aside0 (mx out 0 = o) := ⟨ho'⟩
  have Hr : Aside0 (mx rate 0 = r) := ⟨hr'⟩
  rw [Ho.out] at hmo
  rw [Hr.out] at hmr
  go_enter Try.func4, Try.ntmps4
  go_wp2_with fail
  refine (great_any _ H.out hc).mono ?_
  rintro e w1 ⟨gr, m1, rfl, rfl, hgr⟩
  cases gr with
  | true =>
    go_wp2_with fail
    go_ret
    exact ⟨rfl, pw_below_drewN (Below.refl _ _) m1⟩
  | false =>
    have Hgr := Aside0.mk (hgr rfl)
    clear hgr
    have hn60 := Hgr.out.1
    go_wp2_with fail
    refine (new_any out rate _).mono ?_
    rintro e w2 ⟨g, rfl, hF2, hg2, hb2⟩
    rw [Ho.out, Hr.out] at hF2
    have HS : Aside0 (Sf w w2 g o r 0 0) := ⟨hF2, hg2, (pw_below_drewN (Below.refl _ _) m1).trans hb2⟩
    have hg : w.heap.size ≤ g := hg2
    clear hF2 hb2 hg2
    go_wp2_with fail
    go_loopg [8, 9, 10] n (fun gk sv av iv wr => ∃ (k : Nat) (f a : Int), k + gk = n ∧ sv = .int .i64 f ∧ av = .int .i64 a ∧ iv = .int .i64 k ∧ Aside0 (0 ≤ f ∧ f ≤ o ∧ 0 ≤ a ∧ a ≤ r) ∧ Aside0 (Sf w wr g o r f a))
    case atStart => exact ⟨0, 0, 0, by omega, rfl, rfl, rfl, ⟨by omega⟩, HS⟩
    case round =>
      clear HS
      obtain ⟨k, f, a, hk, rfl, rfl, rfl, HI, HS⟩ := hrel
      by_cases hlt : k < n
      · obtain ⟨gq, rfl⟩ : ∃ gq, gk = gq + 1 := ⟨gk - 1, by omega⟩
        obtain ⟨wo, hwo⟩ : ∃ wo, wo = wr := ⟨_, rfl⟩
        subst hwo
        have p1 : 0 ≤ (k : Int) := by omega
        have p2 : (k : Int) < n := by omega
        obtain ⟨ad, A2, c2, rfl, hx0, hx1, hx2, hl2, hC2⟩ := at_T31 H.out (k : Int) p1 p2
        have h8 := Hgr.out.2 k hlt
        obtain ⟨⟨x0, x1, ls⟩, hact⟩ : ∃ s, rd_T31 acts (k : Int) = s := ⟨_, rfl⟩
        rw [hact] at hx0 hx1 hx2 hl2 hC2 h8
        simp only at hx0 hx1 hx2 hl2 hC2 h8
        obtain ⟨n2, hn2⟩ : ∃ n2, n2 = ls.length := ⟨_, rfl⟩
        rw [← hn2] at hx2 hl2 hC2 h8
        replace hx0 := pw_cell_below HS.out.bel hx0
        replace hx1 := pw_cell_below HS.out.bel hx1
        replace hx2 := pw_cell_below HS.out.bel hx2
        rw [Int.toNat_natCast] at hx0 hx1 hx2
        have HC2 := Aside0.mk hC2
        have Hn2 := Aside0.mk hn2
        have hr0 := HI.out
        clear hC2 hact hn2
        by_cases t0 : x0 = 0
        · subst t0
          obtain ⟨⟨ob, er, f'⟩, hP⟩ : ∃ P, sendP o f ls = P := ⟨_, rfl⟩
          have HP := Aside0.mk hP
          have HRg := Aside0.mk (sendP_range hP hr0.1 hr0.2.1)
          clear hP
          go_wp2_with (first | ((with_reducible refine gate_dst (N := 11) rfl ?_); refine box_event ?hg (N := 11) ?hd (cs := #[.int .u8 0, .int .i64 0, .slice none 0 0]) (t := 31) ?hr ?_; (case hd => rfl); (case hg => rfl); (case hr => first | (go_simp; done) | (go_simp; rfl)); intro b hg_ w4 hbox_ hb_; have HA4 := Aside0.mk hbox_; have HS4 := Aside0.mk (HS.out.below hb_); have hbg := Aside0.mk (show g ≠ b ∧ w.heap.size ≤ b from by rw [hg_]; exact ⟨Nat.ne_of_lt HS.out.ltg, HS.out.bel.size⟩); have ca0 := (blk_cell HA4.out 0).trans rfl; have fa0 := blk_frozen HA4.out 0; have ca1 := (blk_cell HA4.out 1).trans rfl; have fa1 := blk_frozen HA4.out 1; have ca2 := (blk_cell HA4.out 2).trans rfl; have fa2 := blk_frozen HA4.out 2;clear hg_ hbox_ hb_) | ((with_reducible refine gate_store (t := 31) (p := 11) rfl ?_); refine store3 ?hg (t := 31) (p := 11) (v := ?vo_1) ?ho ?hd (x0 := .int .u8 0) (x1 := .int .i64 x1) (x2 := .slice A2 n2 c2) HA4.out ?hr ?_; (case hd => rfl); (case hg => rfl); (case ho => rfl); (case hr => first | (go_simp; done) | (go_simp; rfl)); intro w5 hbox_ hk_ hb_; have HA5 := Aside0.mk hbox_; have HS5 := Aside0.mk (HS4.out.side hk_ hb_ (Ne.symm hbg.out.1) hbg.out.2); clear ca0 fa0 ca1 fa1 ca2 fa2; have ca0 := (blk_cell HA5.out 0).trans rfl; have fa0 := blk_frozen HA5.out 0; have ca1 := (blk_cell HA5.out 1).trans rfl; have fa1 := blk_frozen HA5.out 1; have ca2 := (blk_cell HA5.out 2).trans rfl; have fa2 := blk_frozen HA5.out 2;clear hbox_ hk_ hb_))
          refine (send_any (w0 := w) _ HS5.out.fl HS5.out.hg HS5.out.bel (Kd.C_below HC2.out HS5.out.bel) hl2 (by rw [← Hn2.out]; omega) hr0.1 hr0.2.1 hmo.2 HP.out).mono ?_
          rintro e w6 ⟨A6, c6, rfl, _, hF6, hB6, _⟩
          have HS6 := Aside0.mk (Sf.flow hg hF6 hB6)
          clear hF6 hB6 HS5 HS4 HA5 HA4 ca0 ca1 ca2 fa0 fa1 fa2
          by_cases her : er = 0
          · subst her
            have hf' := HRg.out.2.2.2 rfl
            have hfr := HRg.out
            obtain ⟨m6, hm6⟩ : ∃ m6, m6 = ob.length := ⟨_, rfl⟩
            rw [← hm6] at hf' ⊢
            subst hf'
            have hrange : 0 ≤ f + (m6 : Int) ∧ f + (m6 : Int) ≤ o := ⟨hfr.1, hfr.2.1⟩
            clear hfr HRg HP
            go_wp2_with fail
            refine (flying_any (f1 := 0) (f2 := 0) (f3 := 0) _ HS6.out.fl.c0).mono ?_
            rintro e w' ⟨rfl, rfl⟩
            go_wp2_with fail
            refine (asked_any (f0 := 0) (f1 := 0) (f3 := 0) _ HS6.out.fl.c2).mono ?_
            rintro e w' ⟨rfl, rfl⟩
            go_wp2_with fail
            go_roundg gq
            case measure => omega
            case rel => exact ⟨k + 1, f + (m6 : Int), a, by omega, by go_num, by go_num, by go_num, ⟨by omega⟩, HS6⟩
          · obtain ⟨e1, e2⟩ := HRg.out.2.2.1 her
            subst e1 e2
            clear HRg HP
            go_wp2_with fail
            refine (flying_any (f1 := 0) (f2 := 0) (f3 := 0) _ HS6.out.fl.c0).mono ?_
            rintro e w' ⟨rfl, rfl⟩
            go_wp2_with fail
            refine (asked_any (f0 := 0) (f1 := 0) (f3 := 0) _ HS6.out.fl.c2).mono ?_
            rintro e w' ⟨rfl, rfl⟩
            go_wp2_with fail
            go_roundg gq
            case measure => omega
            case rel => exact ⟨k + 1, _, a, by omega, by go_num, by go_num, by go_num, ⟨by omega⟩, HS6⟩
        · by_cases t1 : x0 = 1
          · subst t1
            obtain ⟨z, hz⟩ : ∃ z, z = (if x1 ≤ 0 then f else if x1 ≤ f then f - x1 else 0) := ⟨_, rfl⟩
            have hz2 : 0 ≤ z ∧ z ≤ f := by rw [hz]; (repeat' split) <;> omega
            have hz3 : x1 ≤ 0 → z = f := fun h => by rw [hz, if_pos h]
            have hz4 : f ≤ x1 → z = 0 := fun h => by rw [hz]; (repeat' split) <;> omega
            have Hz := Aside0.mk hz
            have Hz3 := Aside0.mk hz3
            have Hz4 := Aside0.mk hz4
            clear hz hz3 hz4
            go_wp2_with (first | ((with_reducible refine gate_dst (N := 11) rfl ?_); refine box_event ?hg (N := 11) ?hd (cs := #[.int .u8 0, .int .i64 0, .slice none 0 0]) (t := 31) ?hr ?_; (case hd => rfl); (case hg => rfl); (case hr => first | (go_simp; done) | (go_simp; rfl)); intro b hg_ w4 hbox_ hb_; have HA4 := Aside0.mk hbox_; have HS4 := Aside0.mk (HS.out.below hb_); have hbg := Aside0.mk (show g ≠ b ∧ w.heap.size ≤ b from by rw [hg_]; exact ⟨Nat.ne_of_lt HS.out.ltg, HS.out.bel.size⟩); have ca0 := (blk_cell HA4.out 0).trans rfl; have fa0 := blk_frozen HA4.out 0; have ca1 := (blk_cell HA4.out 1).trans rfl; have fa1 := blk_frozen HA4.out 1; have ca2 := (blk_cell HA4.out 2).trans rfl; have fa2 := blk_frozen HA4.out 2;clear hg_ hbox_ hb_) | ((with_reducible refine gate_store (t := 31) (p := 11) rfl ?_); refine store3 ?hg (t := 31) (p := 11) (v := ?vo_2) ?ho ?hd (x0 := .int .u8 1) (x1 := .int .i64 x1) (x2 := .slice A2 n2 c2) HA4.out ?hr ?_; (case hd => rfl); (case hg => rfl); (case ho => rfl); (case hr => first | (go_simp; done) | (go_simp; rfl)); intro w5 hbox_ hk_ hb_; have HA5 := Aside0.mk hbox_; have HS5 := Aside0.mk (HS4.out.side hk_ hb_ (Ne.symm hbg.out.1) hbg.out.2); clear ca0 fa0 ca1 fa1 ca2 fa2; have ca0 := (blk_cell HA5.out 0).trans rfl; have fa0 := blk_frozen HA5.out 0; have ca1 := (blk_cell HA5.out 1).trans rfl; have fa1 := blk_frozen HA5.out 1; have ca2 := (blk_cell HA5.out 2).trans rfl; have fa2 := blk_frozen HA5.out 2;clear hbox_ hk_ hb_))
            go_region_with ((go_at_call 17; refine (gone_fl (w0 := w) _ HS5.out.drew.fl hg HS5.out.drew.bel hr0.1 (by omega) Hz.out).mono ?_; rintro e w6 ⟨rfl, hF6, hB6, hK6⟩; have HS6 := Aside0.mk (Sf.flow hg hF6 hB6); have HA6 := Aside0.mk ((hK6.2 b (blk_lt HA5.out) (Ne.symm hbg.out.1)).trans HA5.out); clear hF6 hB6 hK6))
            clear HS5 HS4 HA5 HA4 ca0 ca1 ca2 fa0 fa1 fa2
            have ca1 := (blk_cell HA6.out 1).trans rfl
            by_cases g1 : x1 ≤ 0
            · have e1 := Hz3.out g1
              clear Hz Hz3
              subst e1
              by_cases g2 : z ≤ x1
              · have e2 := Hz4.out g2
                clear Hz4
                subst e2
                go_wp2_with fail
                refine (flying_any (f1 := 0) (f2 := 0) (f3 := 0) _ HS6.out.fl.c0).mono ?_
                rintro e w' ⟨rfl, rfl⟩
                go_wp2_with fail
                refine (asked_any (f0 := 0) (f1 := 0) (f3 := 0) _ HS6.out.fl.c2).mono ?_
                rintro e w' ⟨rfl, rfl⟩
                go_wp2_with fail
                go_roundg gq
                case measure => omega
                case rel => exact ⟨k + 1, 0, a, by omega, by go_num, by go_num, by go_num, ⟨by omega⟩, HS6⟩
              · clear Hz4
                go_wp2_with fail
                refine (flying_any (f1 := 0) (f2 := 0) (f3 := 0) _ HS6.out.fl.c0).mono ?_
                rintro e w' ⟨rfl, rfl⟩
                go_wp2_with fail
                refine (asked_any (f0 := 0) (f1 := 0) (f3 := 0) _ HS6.out.fl.c2).mono ?_
                rintro e w' ⟨rfl, rfl⟩
                go_wp2_with fail
                go_roundg gq
                case measure => omega
                case rel => exact ⟨k + 1, z, a, by omega, by go_num, by go_num, by go_num, ⟨by omega⟩, HS6⟩
            · by_cases g2 : f ≤ x1
              · have e2 := Hz4.out g2
                clear Hz Hz3 Hz4
                subst e2
                go_wp2_with fail
                refine (flying_any (f1 := 0) (f2 := 0) (f3 := 0) _ HS6.out.fl.c0).mono ?_
                rintro e w' ⟨rfl, rfl⟩
                go_wp2_with fail
                refine (asked_any (f0 := 0) (f1 := 0) (f3 := 0) _ HS6.out.fl.c2).mono ?_
                rintro e w' ⟨rfl, rfl⟩
                go_wp2_with fail
                go_roundg gq
                case measure => omega
                case rel => exact ⟨k + 1, 0, a, by omega, by go_num, by go_num, by go_num, ⟨by omega⟩, HS6⟩
              · clear Hz Hz3 Hz4
                go_wp2_with fail
                refine (flying_any (f1 := 0) (f2 := 0) (f3 := 0) _ HS6.out.fl.c0).mono ?_
                rintro e w' ⟨rfl, rfl⟩
                go_wp2_with fail
                refine (asked_any (f0 := 0) (f1 := 0) (f3 := 0) _ HS6.out.fl.c2).mono ?_
                rintro e w' ⟨rfl, rfl⟩
                go_wp2_with fail
                go_roundg gq
                case measure => omega
                case rel => exact ⟨k + 1, z, a, by omega, by go_num, by go_num, by go_num, ⟨by omega⟩, HS6⟩
          · by_cases t2 : x0 = 2
            · subst t2
              go_wp2_with (first | ((with_reducible refine gate_dst (N := 11) rfl ?_); refine box_event ?hg (N := 11) ?hd (cs := #[.int .u8 0, .int .i64 0, .slice none 0 0]) (t := 31) ?hr ?_; (case hd => rfl); (case hg => rfl); (case hr => first | (go_simp; done) | (go_simp; rfl)); intro b hg_ w4 hbox_ hb_; have HA4 := Aside0.mk hbox_; have HS4 := Aside0.mk (HS.out.below hb_); have hbg := Aside0.mk (show g ≠ b ∧ w.heap.size ≤ b from by rw [hg_]; exact ⟨Nat.ne_of_lt HS.out.ltg, HS.out.bel.size⟩); have ca0 := (blk_cell HA4.out 0).trans rfl; have fa0 := blk_frozen HA4.out 0; have ca1 := (blk_cell HA4.out 1).trans rfl; have fa1 := blk_frozen HA4.out 1; have ca2 := (blk_cell HA4.out 2).trans rfl; have fa2 := blk_frozen HA4.out 2;clear hg_ hbox_ hb_) | ((with_reducible refine gate_store (t := 31) (p := 11) rfl ?_); refine store3 ?hg (t := 31) (p := 11) (v := ?vo_3) ?ho ?hd (x0 := .int .u8 2) (x1 := .int .i64 x1) (x2 := .slice A2 n2 c2) HA4.out ?hr ?_; (case hd => rfl); (case hg => rfl); (case ho => rfl); (case hr => first | (go_simp; done) | (go_simp; rfl)); intro w5 hbox_ hk_ hb_; have HA5 := Aside0.mk hbox_; have HS5 := Aside0.mk (HS4.out.side hk_ hb_ (Ne.symm hbg.out.1) hbg.out.2); clear ca0 fa0 ca1 fa1 ca2 fa2; have ca0 := (blk_cell HA5.out 0).trans rfl; have fa0 := blk_frozen HA5.out 0; have ca1 := (blk_cell HA5.out 1).trans rfl; have fa1 := blk_frozen HA5.out 1; have ca2 := (blk_cell HA5.out 2).trans rfl; have fa2 := blk_frozen HA5.out 2;clear hbox_ hk_ hb_))
              refine (ask_fl (w0 := w) _ HS5.out.fl hg HS5.out.bel hr0.2.2.1 hr0.2.2.2 hmr.2).mono ?_
              rintro e w6 ⟨rfl, hF6, hB6, hK6⟩
              by_cases g1 : a < r
              · rw [if_pos g1] at hF6
                rw [decide_eq_true g1]
                have HS6 := Aside0.mk (Sf.flow hg hF6 hB6)
                clear hF6 hB6 hK6 HS5 HS4 HA5 HA4 ca0 ca1 ca2 fa0 fa1 fa2
                go_wp2_with fail
                refine (flying_any (f1 := 0) (f2 := 0) (f3 := 0) _ HS6.out.fl.c0).mono ?_
                rintro e w' ⟨rfl, rfl⟩
                go_wp2_with fail
                refine (asked_any (f0 := 0) (f1 := 0) (f3 := 0) _ HS6.out.fl.c2).mono ?_
                rintro e w' ⟨rfl, rfl⟩
                go_wp2_with fail
                go_roundg gq
                case measure => omega
                case rel => exact ⟨k + 1, f, a + 1, by omega, by go_num, by go_num, by go_num, ⟨by omega⟩, HS6⟩
              · rw [if_neg g1] at hF6
                rw [decide_eq_false g1]
                have HS6 := Aside0.mk (Sf.flow hg hF6 hB6)
                clear hF6 hB6 hK6 HS5 HS4 HA5 HA4 ca0 ca1 ca2 fa0 fa1 fa2
                go_wp2_with fail
                refine (flying_any (f1 := 0) (f2 := 0) (f3 := 0) _ HS6.out.fl.c0).mono ?_
                rintro e w' ⟨rfl, rfl⟩
                go_wp2_with fail
                refine (asked_any (f0 := 0) (f1 := 0) (f3 := 0) _ HS6.out.fl.c2).mono ?_
                rintro e w' ⟨rfl, rfl⟩
                go_wp2_with fail
                go_roundg gq
                case measure => omega
                case rel => exact ⟨k + 1, f, a, by omega, by go_num, by go_num, by go_num, ⟨by omega⟩, HS6⟩
            · by_cases t3 : x0 = 3
              · subst t3
                go_wp2_with (first | ((with_reducible refine gate_dst (N := 11) rfl ?_); refine box_event ?hg (N := 11) ?hd (cs := #[.int .u8 0, .int .i64 0, .slice none 0 0]) (t := 31) ?hr ?_; (case hd => rfl); (case hg => rfl); (case hr => first | (go_simp; done) | (go_simp; rfl)); intro b hg_ w4 hbox_ hb_; have HA4 := Aside0.mk hbox_; have HS4 := Aside0.mk (HS.out.below hb_); have hbg := Aside0.mk (show g ≠ b ∧ w.heap.size ≤ b from by rw [hg_]; exact ⟨Nat.ne_of_lt HS.out.ltg, HS.out.bel.size⟩); have ca0 := (blk_cell HA4.out 0).trans rfl; have fa0 := blk_frozen HA4.out 0; have ca1 := (blk_cell HA4.out 1).trans rfl; have fa1 := blk_frozen HA4.out 1; have ca2 := (blk_cell HA4.out 2).trans rfl; have fa2 := blk_frozen HA4.out 2;clear hg_ hbox_ hb_) | ((with_reducible refine gate_store (t := 31) (p := 11) rfl ?_); refine store3 ?hg (t := 31) (p := 11) (v := ?vo_4) ?ho ?hd (x0 := .int .u8 3) (x1 := .int .i64 x1) (x2 := .slice A2 n2 c2) HA4.out ?hr ?_; (case hd => rfl); (case hg => rfl); (case ho => rfl); (case hr => first | (go_simp; done) | (go_simp; rfl)); intro w5 hbox_ hk_ hb_; have HA5 := Aside0.mk hbox_; have HS5 := Aside0.mk (HS4.out.side hk_ hb_ (Ne.symm hbg.out.1) hbg.out.2); clear ca0 fa0 ca1 fa1 ca2 fa2; have ca0 := (blk_cell HA5.out 0).trans rfl; have fa0 := blk_frozen HA5.out 0; have ca1 := (blk_cell HA5.out 1).trans rfl; have fa1 := blk_frozen HA5.out 1; have ca2 := (blk_cell HA5.out 2).trans rfl; have fa2 := blk_frozen HA5.out 2;clear hbox_ hk_ hb_))
                refine (tick_fl (w0 := w) _ HS5.out.fl hg HS5.out.bel).mono ?_
                rintro e w6 ⟨rfl, hF6, hB6, hK6⟩
                have HS6 := Aside0.mk (Sf.flow hg hF6 hB6)
                clear hF6 hB6 hK6 HS5 HS4 HA5 HA4 ca0 ca1 ca2 fa0 fa1 fa2
                go_wp2_with fail
                refine (flying_any (f1 := 0) (f2 := 0) (f3 := 0) _ HS6.out.fl.c0).mono ?_
                rintro e w' ⟨rfl, rfl⟩
                go_wp2_with fail
                refine (asked_any (f0 := 0) (f1 := 0) (f3 := 0) _ HS6.out.fl.c2).mono ?_
                rintro e w' ⟨rfl, rfl⟩
                go_wp2_with fail
                go_roundg gq
                case measure => omega
                case rel => exact ⟨k + 1, f, 0, by omega, by go_num, by go_num, by go_num, ⟨by omega⟩, HS6⟩
              · go_wp2_with (first | ((with_reducible refine gate_dst (N := 11) rfl ?_); refine box_event ?hg (N := 11) ?hd (cs := #[.int .u8 0, .int .i64 0, .slice none 0 0]) (t := 31) ?hr ?_; (case hd => rfl); (case hg => rfl); (case hr => first | (go_simp; done) | (go_simp; rfl)); intro b hg_ w4 hbox_ hb_; have HA4 := Aside0.mk hbox_; have HS4 := Aside0.mk (HS.out.below hb_); have hbg := Aside0.mk (show g ≠ b ∧ w.heap.size ≤ b from by rw [hg_]; exact ⟨Nat.ne_of_lt HS.out.ltg, HS.out.bel.size⟩); have ca0 := (blk_cell HA4.out 0).trans rfl; have fa0 := blk_frozen HA4.out 0; have ca1 := (blk_cell HA4.out 1).trans rfl; have fa1 := blk_frozen HA4.out 1; have ca2 := (blk_cell HA4.out 2).trans rfl; have fa2 := blk_frozen HA4.out 2;clear hg_ hbox_ hb_) | ((with_reducible refine gate_store (t := 31) (p := 11) rfl ?_); refine store3 ?hg (t := 31) (p := 11) (v := ?vo_5) ?ho ?hd (x0 := .int .u8 x0) (x1 := .int .i64 x1) (x2 := .slice A2 n2 c2) HA4.out ?hr ?_; (case hd => rfl); (case hg => rfl); (case ho => rfl); (case hr => first | (go_simp; done) | (go_simp; rfl)); intro w5 hbox_ hk_ hb_; have HA5 := Aside0.mk hbox_; have HS5 := Aside0.mk (HS4.out.side hk_ hb_ (Ne.symm hbg.out.1) hbg.out.2); clear ca0 fa0 ca1 fa1 ca2 fa2; have ca0 := (blk_cell HA5.out 0).trans rfl; have fa0 := blk_frozen HA5.out 0; have ca1 := (blk_cell HA5.out 1).trans rfl; have fa1 := blk_frozen HA5.out 1; have ca2 := (blk_cell HA5.out 2).trans rfl; have fa2 := blk_frozen HA5.out 2;clear hbox_ hk_ hb_))
                clear ca0 ca1 ca2 fa0 fa1 fa2
                refine (flying_any (f1 := 0) (f2 := 0) (f3 := 0) _ HS5.out.fl.c0).mono ?_
                rintro e w' ⟨rfl, rfl⟩
                go_wp2_with fail
                refine (asked_any (f0 := 0) (f1 := 0) (f3 := 0) _ HS5.out.fl.c2).mono ?_
                rintro e w' ⟨rfl, rfl⟩
                go_wp2_with fail
                go_roundg gq
                case measure => omega
                case rel => exact ⟨k + 1, f, a, by omega, by go_num, by go_num, by go_num, ⟨by omega⟩, HS5⟩
      · go_wp2_with fail
        refine (awake_any _).mono ?_
        rintro e w9 ⟨rfl, hb9⟩
        have HB9 := Aside0.mk (below_step HS.out.bel hb9)
        clear hb9
        go_wp2_with fail
        go_ret
        exact ⟨rfl, HB9.out⟩
theorem bound_row {out rate : Int} {n c : Nat} {A : Option Addr} {acts : List S31} (w : World) (ho : out ≤ 9223372036854775807) (hr : rate ≤ 9223372036854775807) (HR : k31.C w A n acts) (hc : n ≤ c) :
    Calls Try.prog 4 #[.int .i64 out, .int .i64 rate, .slice A n c] w fun e w' => e = .returned (.bool true) ∧ Below w.heap.size w w' := bound_law w HR hc ho hr
end Go.Proofs.Ytgblihndkhiddaa.Ou
