/-
MacOwn, walked.
-/
import Derived.Test.YtpigkgnmegpddaaDoorMe
namespace Go.Proofs.YtpigkgnmegpddaaDoor.Sh
set_option linter.unusedVariables false
set_option linter.unusedSimpArgs false
open Go.RowKit Go.Proofs.YtpigkgnmegpddaaDoorW.PrintWords Go.Proofs.YtpigkgnmegpddaaDoorW.PrintLast Go.Proofs.YtpigkgnmegpddaaDoorW.PrintMore

theorem cut30 (W : World) (g m : Nat) : (Instr.sliceAt 30 (.pointer (some ⟨g, 0, none⟩)) none (some (.int .u8 ((m : Int) % 32))) none).run Tryd.prog W = .ok (.slice (some ⟨g, 0, none⟩) (m % 32) 32) W := by
  have hal : Tryd.prog.arrayLen 30 = 32 := by kernel_rfl
  have hel : Tryd.prog.elem 30 = 5 := by kernel_rfl
  obtain ⟨i5, hi5, hz5⟩ := info5
  rw [run_sliceAt_array_h W 30 ⟨g, 0, none⟩ (by rw [hal, hel]; exact Tryd.underlying30) .u8 ((m : Int) % 32) (by omega) (by rw [hal]; omega), hal, hel]
  have e : ((m : Int) % 32).toNat = m % 32 := by omega
  rw [e]
  rw [run_sizeOf W hi5]
  simp only [Result.andThen_ok]
  unfold slicedAt
  rw [if_neg (by decide), Nat.zero_mul]
  rfl
theorem take_ne {bs : List Int} {q : Nat} (hl : bs.length = 32) (hq : q < 32) : decide (bs.take q = bs) = false := decide_eq_false fun h => by
  have := congrArg List.length h
  rw [List.length_take, hl] at this
  omega
theorem set_ne {bs : List Int} {q : Nat} {x : Int} (hl : bs.length = 32) (hq : q < 32) (hx : x ≠ bs.getD q 0) : decide (bs.set q x = bs) = false := decide_eq_false fun h => by
  have this : (bs.set q x).getD q 0 = bs.getD q 0 := congrArg (fun l => l.getD q 0) h
  rw [List.getD_eq_getElem?_getD, List.getElem?_set_self (by omega)] at this
  exact hx this
theorem set_byt {bs : List Int} (h : Byt bs) {q : Nat} {x : Int} (hx : 0 ≤ x ∧ x ≤ 255) : Byt (bs.set q x) := fun y hy => by
  rcases List.mem_or_eq_of_mem_set hy with h1 | h1
  · exact h y h1
  · rw [h1]; exact hx
set_option maxRecDepth 100000 in
set_option maxHeartbeats 4000000 in
theorem own03_law {A A2 : Option Addr} {n c n2 c2 : Nat} {key : List Int} {ps : List (List Int)} {a : Int} (w : World) (hT : Tab w) (hC : (Kd.int .u8).C w A n key) (hc : n ≤ c) (hby : Byt key) (hC2 : (Kd.slice 5 (Kd.int .u8)).C w A2 n2 ps) (hc2 : n2 ≤ c2) (hby2 : ∀ p ∈ ps, Byt p) (ha : 0 ≤ a ∧ a ≤ 255) :
    Calls Tryd.prog 13 #[.slice A n c, .slice A2 n2 c2, .int .u8 a] w fun e w' => e = .returned (.bool true) ∧ Below w.heap.size w w' := by
  obtain ⟨m, rfl⟩ := Int.eq_ofNat_of_zero_le ha.1
  have hcut := fun W g => cut30 W g m
  have hu30 := Tryd.underlying30
  have hg30 := guard30
  have HT := Aside0.mk hT
  have H := Aside0.mk hC
  have HP := Aside0.mk (show (Kd.slice 27 (Kd.int .u8)).C w A2 n2 ps from hC2)
  have Hby := Aside0.mk hby
  have Hbp := Aside0.mk hby2
  have Hn := Aside0.mk hC.1
  have hnm := hC.2.1
  have hnm2 := hC2.2.1
  clear hT hC hby hC2 hby2
  by_cases h200 : 200 < n
  · go_enter Tryd.func13, Tryd.ntmps13
    go_wp2_with fail
    go_ret
    exact ⟨rfl, Below.refl _ _⟩
  have Hm : Aside0 (key.length ≤ 1000000) := ⟨by rw [Hn.out]; omega⟩
  obtain ⟨F, hF⟩ : ∃ F, F = fewB 12 ps := ⟨_, rfl⟩
  have HF := Aside0.mk hF
  clear hF
  cases F with
  | false =>
    go_enter Tryd.func13, Tryd.ntmps13
    go_wp2_with fail
    refine (few12_any _ HP.out).mono ?_
    rintro e w' ⟨rfl, rfl⟩
    rw [← HF.out]
    clear HF
    go_wp2_with fail
    go_ret
    exact ⟨rfl, Below.refl _ _⟩
  | true =>
    have Hmp : Aside0 ((ps.map List.length).sum ≤ 1000000) := ⟨by have := fewB_sum HF.out.symm; omega⟩
    have HR : Aside0 (Rp (fun _ => False) w A2 n2 ps) := ⟨Rp.came HP.out (Below.refl _ _) (fun _ hk => hk.elim)⟩
    go_enter Tryd.func13, Tryd.ntmps13
    go_wp2_with fail
    refine (few12_any _ HP.out).mono ?_
    rintro e w' ⟨rfl, rfl⟩
    rw [← HF.out]
    clear HF
    go_wp2_with fail
    refine (make_any _ HT.out H.out hc Hby.out (by have := Hm.out; omega)).mono ?_
    rintro e w1 ⟨g, rfl, hk, hg, hb1⟩
    have HK1 := Aside0.mk hk
    have HB1 := Aside0.mk hb1
    clear hk hg hb1
    go_wp2_with fail
    refine (ktag_any _ (HT.out.below HB1.out) HK1.out (kbl_length _) (kbl_byt Hby.out) (HR.out.move HB1.out) Hbp.out Hmp.out).mono ?_
    rintro e w2 ⟨rfl, hb2⟩
    obtain ⟨bs, hbs⟩ : ∃ bs, bs = tagk (kbl key) ps.flatten := ⟨_, rfl⟩
    have Hl : Aside0 (bs.length = 32 ∧ Byt bs) := ⟨by rw [hbs]; exact ⟨rfl, tagk_byt _ _⟩⟩
    have Hbk : Aside0 (tagk (kbl key) ps.flatten = bs) := ⟨hbs.symm⟩
    rw [← hbs]
    have HK2 := Aside0.mk (HK1.out.below hb2 HK1.out.lt)
    have HB2 := Aside0.mk (below_step HB1.out hb2)
    clear hbs hb2 HK1 HB1
    obtain ⟨q, hq⟩ : ∃ q, q = m % 32 := ⟨_, rfl⟩
    have hq32 : q < 32 := by omega
    have p1 : (0 : Int) ≤ (m : Int) % 32 := by omega
    have p2 : (m : Int) % 32 < 32 := by omega
    have Hq := Aside0.mk hq
    clear hq
    obtain ⟨x, hx0⟩ : ∃ x, x = bs.getD q 0 := ⟨_, rfl⟩
    have Hx := Aside0.mk hx0
    clear hx0
    go_wp2_with (first | ((with_reducible refine gate_dst (N := 8) rfl ?_); refine box_event ?hg (N := 8) ?hd (cs := v8 (List.replicate 32 0)) (t := 30) ?hr ?_; (case hd => rfl); (case hg => rfl); (case hr => first | (go_simp; done) | (go_simp; rfl)); intro g8 hg_ w3 hbox_ hb_; have H3 := Aside0.mk hbox_; have HK3 := Aside0.mk (HK2.out.below hb_ HK2.out.lt); have HB3 := Aside0.mk (below_step HB2.out hb_); have Hg8 := Aside0.mk (show w.heap.size ≤ g8 ∧ g < g8 from by rw [hg_]; exact ⟨HB2.out.size, HK2.out.lt⟩);clear hg_ hbox_ hb_) | ((with_reducible refine gate_store (t := 30) (p := 8) rfl ?_); refine store_row ?hg (ty := 30) (p := 8) (v := ?vr_1) ?ho ?hd (g := g8) (t := 30) (old := v8 (List.replicate 32 0)) (cells := v8 bs) ?hx ?hy H3.out (size30 Hl.out.1) (by rw [v8_size, v8_size, Hl.out.1, List.length_replicate]) (v8_one _) ?_; (case hd => rfl); (case hg => rfl); (case ho => rfl); (case hx => rfl); (case hy => rfl); intro w4 hbox_ hk_ hb_; have H4 := Aside0.mk (show B8 w4 g8 30 bs from hbox_); have HK4 := Aside0.mk (HK3.out.below (hb_) Hg8.out.2); have HB4 := Aside0.mk (HB3.out.trans (hb_.mono Hg8.out.1));clear hbox_ hk_ hb_) | ((with_reducible refine gate_dst (N := 25) rfl ?_); refine wpList_load_row rfl 30 (.tmp 8) rfl g8 rfl 30 (v8 bs) (0, 0) _ H4.out hu30 rfl (size30 Hl.out.1) ?_) | ((with_reducible refine gate_dst (N := 9) rfl ?_); refine box_event ?hg (N := 9) ?hd (cs := v8 (List.replicate 32 0)) (t := 30) ?hr ?_; (case hd => rfl); (case hg => rfl); (case hr => first | (go_simp; done) | (go_simp; rfl)); intro g9 hg_ w5 hbox_ hb_; have H5 := Aside0.mk hbox_; have H45 := Aside0.mk (show B8 w5 g8 30 bs from blk_below H4.out hb_); have HK5 := Aside0.mk (HK4.out.below hb_ HK4.out.lt); have HB5 := Aside0.mk (below_step HB4.out hb_); have Hg9 := Aside0.mk (show w.heap.size ≤ g9 ∧ g < g9 ∧ g8 < g9 from by rw [hg_]; exact ⟨HB4.out.size, HK4.out.lt, blk_lt H4.out⟩);clear hg_ hbox_ hb_) | ((with_reducible refine gate_store (t := 30) (p := 9) rfl ?_); refine store_row ?hg (ty := 30) (p := 9) (v := ?vr_2) ?ho ?hd (g := g9) (t := 30) (old := v8 (List.replicate 32 0)) (cells := v8 bs) ?hx ?hy H5.out (size30 Hl.out.1) (by rw [v8_size, v8_size, Hl.out.1, List.length_replicate]) (v8_one _) ?_; (case hd => rfl); (case hg => rfl); (case ho => rfl); (case hx => rfl); (case hy => rfl); intro w6 hbox_ hk_ hb_; have H6 := Aside0.mk (show B8 w6 g9 30 bs from hbox_); have H46 := Aside0.mk (show B8 w6 g8 30 bs from (hb_.block g8 Hg9.out.2.2).trans H45.out); have HK6 := Aside0.mk (HK5.out.below hb_ Hg9.out.2.1); have HB6 := Aside0.mk (HB5.out.trans (hb_.mono Hg9.out.1)); have hcx : w6.cell? ⟨g9, m % 32, none⟩ = some (.int .u8 x) := (B8.get (t := 30) H6.out (m % 32) (by rw [Hl.out.1]; omega)).trans (by rw [Hx.out, Hq.out]); have hfx := blk_frozen H6.out (m % 32);clear hbox_ hk_ hb_))
    obtain ⟨y, hy⟩ : ∃ y : Int, y = 1 + (m : Int) / 32 := ⟨_, rfl⟩
    have Hy : Aside0 ((0 ≤ y ∧ y ≤ 255) ∧ y ≠ 0) := ⟨by have := ha.2; omega⟩
    have hxb : 0 ≤ x ∧ x ≤ 255 := by rw [Hx.out]; exact Hl.out.2.getD q
    obtain ⟨z, hz⟩ : ∃ z, z = Go.bits .xor .u8 x y := ⟨_, rfl⟩
    have Hz : Aside0 ((0 ≤ z ∧ z ≤ 255) ∧ z ≠ bs.getD q 0) := ⟨by
      rw [hz, ← Hx.out]
      exact ⟨xo_byt hxb Hy.out.1, xo_ne hxb Hy.out.1 Hy.out.2⟩⟩
    rw [← hy, ← hz]
    have HB7 := Aside0.mk (HB6.out.setCell (p := ⟨g9, m % 32, none⟩) Hg9.out.1 (.int .u8 z))
    have H7 : Aside0 (B8 (w6.setCell ⟨g9, m % 32, none⟩ (.int .u8 z)) g9 30 (bs.set (m % 32) z)) := ⟨H6.out.set (m % 32) z⟩
    have H47 : Aside0 (B8 (w6.setCell ⟨g9, m % 32, none⟩ (.int .u8 z)) g8 30 bs) := ⟨blk_far (p := ⟨g9, m % 32, none⟩) H46.out (Nat.ne_of_lt Hg9.out.2.2) _⟩
    have HK7 : Aside0 (Kk (w6.setCell ⟨g9, m % 32, none⟩ (.int .u8 z)) g (kbl key)) := ⟨blk_far (p := ⟨g9, m % 32, none⟩) HK6.out (Nat.ne_of_lt Hg9.out.2.1) _⟩
    obtain ⟨w7, hw7⟩ : ∃ w7, w7 = w6.setCell ⟨g9, m % 32, none⟩ (.int .u8 z) := ⟨_, rfl⟩
    rw [← hw7] at HB7 H7 H47 HK7 ⊢
    clear hw7 hy hz hxb hcx hfx H6 H46 HK6 HB6 H5 H45 HK5 HB5 H3 HK3 HB3 H4 HK4 HB4
    refine (fits_any w7 (HT.out.below HB7.out) HK7.out (kbl_length _) (kbl_byt Hby.out) (row_read (S := fun _ => False) H47.out (fun h => h) Hl.out.1 (by decide)).now (Nat.le_refl _) Hl.out.2 (HR.out.move HB7.out) Hbp.out Hmp.out).mono ?_
    rintro e w8 ⟨rfl, hb8⟩
    rw [Hbk.out, decide_eq_true (rfl : bs = bs)]
    have H8 := Aside0.mk (show B8 w8 g9 30 (bs.set (m % 32) z) from blk_below H7.out hb8)
    have H48 := Aside0.mk (show B8 w8 g8 30 bs from blk_below H47.out hb8)
    have HK8 := Aside0.mk (HK7.out.below hb8 HK7.out.lt)
    have HB8 := Aside0.mk (below_step HB7.out hb8)
    clear hb8 H7 H47 HK7 HB7
    go_wp2_with fail
    refine (fits_any w8 (HT.out.below HB8.out) HK8.out (kbl_length _) (kbl_byt Hby.out) (row_read (S := fun _ => False) H8.out (fun h => h) (by rw [List.length_set, Hl.out.1]) (by decide)).now (Nat.le_refl _) (set_byt Hl.out.2 Hz.out.1) (HR.out.move HB8.out) Hbp.out Hmp.out).mono ?_
    rintro e w9 ⟨rfl, hb9⟩
    rw [Hbk.out, set_ne Hl.out.1 (by omega) (by rw [← Hq.out]; exact Hz.out.2)]
    have H49 := Aside0.mk (show B8 w9 g8 30 bs from blk_below H48.out hb9)
    have HK9 := Aside0.mk (HK8.out.below hb9 HK8.out.lt)
    have HB9 := Aside0.mk (below_step HB8.out hb9)
    clear hb9 H8 H48 HK8 HB8
    go_wp2_with fail
    refine (fits_any (n := m % 32) (c := 32) (tg := bs.take (m % 32)) w9 (HT.out.below HB9.out) HK9.out (kbl_length _) (kbl_byt Hby.out) (Rd.block (S := fun _ => False) H49.out (fun h => h) (by rw [List.length_take, Hl.out.1]; omega) (by omega) (fun j hj => by rw [Nat.zero_add, v8_get (by rw [Hl.out.1]; omega), List.getD_eq_getElem?_getD, List.getD_eq_getElem?_getD, List.getElem?_take, if_pos hj])).now (by omega) (Hl.out.2.take _) (HR.out.move HB9.out) Hbp.out Hmp.out).mono ?_
    rintro e w10 ⟨rfl, hb10⟩
    rw [Hbk.out, take_ne Hl.out.1 (by omega)]
    have HBa := Aside0.mk (below_step HB9.out hb10)
    clear hb10 HB9
    go_wp2_with fail
    refine (awake03_any _ (HT.out.below HBa.out)).mono ?_
    rintro e w11 ⟨rfl, hb11⟩
    have HBb := Aside0.mk (below_step HBa.out hb11)
    clear hb11 HBa
    go_wp2_with fail
    go_ret
    exact ⟨rfl, HBb.out⟩
end Go.Proofs.YtpigkgnmegpddaaDoor.Sh
