/-
(*mac.Key).Tag, mac.Tag, walked.
-/
import Derived.Test.YtpigkgnmegpddaaDoorMa
namespace Go.Proofs.YtpigkgnmegpddaaDoor.Sh
set_option linter.unusedVariables false
set_option linter.unusedSimpArgs false
open Go.RowKit Go.Proofs.YtpigkgnmegpddaaDoorW.PrintWords Go.Proofs.YtpigkgnmegpddaaDoorW.PrintLast Go.Proofs.YtpigkgnmegpddaaDoorW.PrintMore

theorem Kk.one {S : Nat → Prop} {W : World} {g : Nat} {kb : List Int} (h : Kk W g kb) (hl : kb.length = 64) (hg : ¬ S g) : Rd S W (some ⟨g, 0, none⟩) 64 (xr 54 kb) :=
  Rd.block h hg (by rw [xr_length, hl]) (by decide) fun j hj => by
    rw [Nat.zero_add, v8_get (by rw [List.length_append, xr_length, xr_length, hl]; omega), List.getD_eq_getElem?_getD, List.getElem?_append_left (by rw [xr_length, hl]; exact hj), ← List.getD_eq_getElem?_getD]
theorem Kk.two {S : Nat → Prop} {W : World} {g : Nat} {kb : List Int} (h : Kk W g kb) (hl : kb.length = 64) (hg : ¬ S g) : Rd S W (some ⟨g, 64, none⟩) 64 (xr 92 kb) :=
  Rd.block h hg (by rw [xr_length, hl]) (by decide) fun j hj => by
    rw [v8_get (by rw [List.length_append, xr_length, xr_length, hl]; omega), List.getD_eq_getElem?_getD, List.getElem?_append_right (by rw [xr_length, hl]; omega), xr_length, hl, Nat.add_sub_cancel_left, ← List.getD_eq_getElem?_getD]
theorem Kk.below {W W' : World} {b g : Nat} {kb : List Int} (h : Kk W g kb) (hb : Below b W W') (hg : g < b) : Kk W' g kb := (hb.block g hg).trans h
theorem Kk.lt {W : World} {g : Nat} {kb : List Int} (h : Kk W g kb) : g < W.heap.size := blk_lt h
theorem row_read {S : Nat → Prop} {W : World} {g t : Nat} {bs : List Int} (h : B8 W g t bs) (hg : ¬ S g) {n : Nat} (hn : bs.length = n) (hm : n ≤ 9223372036854775807) : Rd S W (some ⟨g, 0, none⟩) n bs :=
  Rd.block h hg hn hm fun j hj => by rw [Nat.zero_add, v8_get (by omega)]
theorem stored8 {w0 w : World} {B g : Nat} {t : TypeId} {l l2 : List Int} (h : B8 w g t l) (hl : l2.length = l.length) (hg : B ≤ g) (hb : Below B w0 w) : B8 (w.setCells g 0 (v8 l2).toList) g t l2 ∧ Below B w0 (w.setCells g 0 (v8 l2).toList) := by
  have e1 : (v8 l2).toList.length = (v8 l).size := by rw [Array.length_toList, v8_size, v8_size, hl]
  obtain ⟨cur, h1, h2, h3⟩ := setCells_row (v8 l2).toList 0 w _ h (by omega)
  obtain ⟨t1, t2, t3, t4⟩ := setCells_same g (v8 l2).toList 0 w
  have hcur : cur = v8 l2 := Array.toList_inj.1 (by
    rw [h3, List.take_zero, List.nil_append, List.drop_eq_nil_of_le (by rw [Array.length_toList, e1]; omega), List.append_nil])
  subst hcur
  exact ⟨h1, hb.trans ⟨t1, t2, t3, by rw [t4]; exact Nat.le_refl _, fun k hk => setCells_far _ _ k (by omega)⟩⟩
/-- sha.Sum of two parts. -/
theorem sum_two {W : World} {b n c n2 c2 : Nat} {A A2 : Option Addr} {xs ys : List Int} (hT : Tab W) (hC : Rd (fun _ => False) W A n xs) (hc : n ≤ c) (hC2 : Rd (fun _ => False) W A2 n2 ys) (hc2 : n2 ≤ c2) (hby : Byt xs) (hby2 : Byt ys) (hm : xs.length + ys.length ≤ 1000000000) (hb : b = W.heap.size) :
    Calls Tryd.prog 24 #[.slice (some ⟨b, 0, none⟩) 2 2] (W.alloc (.cells #[.slice A n c, .slice A2 n2 c2] 27)) fun e w' => e = .returned (.agg (v8 (sum (xs ++ ys)))) ∧ Below W.heap.size W w' := by
  subst hb
  have hba := below_alloc (Below.refl W.heap.size W) (.cells #[.slice A n c, .slice A2 n2 c2] 27)
  have h := sum_any (A := some ⟨W.heap.size, 0, none⟩) (n := 2) (c := 2) (ps := [xs, ys]) (W.alloc (.cells #[.slice A n c, .slice A2 n2 c2] 27)) (hT.below hba)
    (parts_two (heap_alloc_new _ _) (fun h => h) (Rd.came hC.now hba (fun _ hk => hk.elim)) hc (Rd.came hC2.now hba (fun _ hk => hk.elim)) hc2) (fun p hp => by
      simp only [List.mem_cons, List.not_mem_nil, or_false] at hp
      rcases hp with rfl | rfl
      · exact hby
      · exact hby2) (by simpa using hm)
  refine h.mono ?_
  rintro e w' ⟨rfl, hb⟩
  have e1 : [xs, ys].flatten = xs ++ ys := by simp
  rw [e1]
  exact ⟨rfl, below_step hba hb⟩
set_option maxRecDepth 100000 in
theorem ktag_nil {A : Option Addr} {n c : Nat} (w : World) : Calls Tryd.prog 35 #[.pointer none, .slice A n c] w fun e w' => e = .returned (.agg (v8 (List.replicate 32 0))) ∧ Below w.heap.size w w' := by
  have hu30 := Tryd.underlying30
  go_enter Tryd.func35, Tryd.ntmps35
  go_wp2_with (first | ((with_reducible refine gate_dst (N := 4) rfl ?_); refine box_event ?hg (N := 4) ?hd (cs := v8 (List.replicate 32 0)) (t := 30) ?hr ?_; (case hd => rfl); (case hg => rfl); (case hr => first | (go_simp; done) | (go_simp; rfl)); intro g2 hg_ w1 hbox_ hb_; have H2 := Aside0.mk hbox_; have HB := Aside0.mk hb_; have Hg2 := Aside0.mk (show w.heap.size ≤ g2 from Nat.le_of_eq hg_.symm);clear hg_ hbox_ hb_) | ((with_reducible refine gate_store (t := 30) (p := 4) rfl ?_); refine store_row ?hg (ty := 30) (p := 4) (v := ?vr_1) ?ho ?hd (g := g2) (t := 30) (old := v8 (List.replicate 32 0)) (cells := v8 (List.replicate 32 0)) ?hx ?hy H2.out (size30 rfl) rfl (v8_one _) ?_; (case hd => rfl); (case hg => rfl); (case ho => rfl); (case hx => rfl); (case hy => rfl); intro w12 hbox_ hk_ hb_; have HR := Aside0.mk hbox_; have HBf := Aside0.mk (HB.out.trans (hb_.mono Hg2.out));clear hbox_ hk_ hb_))
  refine bodyPost_ret (results_cell_row rfl _ _ g2 30 (v8 (List.replicate 32 0)) (0, 0) _ rfl HR.out Tryd.underlying30 rfl (size30 rfl)) rfl ?_
  exact ⟨rfl, HBf.out⟩
set_option maxRecDepth 100000 in
set_option maxHeartbeats 4000000 in
theorem ktag_any {g : Nat} {kb : List Int} {A : Option Addr} {n c : Nat} {ps : List (List Int)} (w : World) (hT : Tab w) (hk : Kk w g kb) (hkl : kb.length = 64) (hkb : Byt kb) (hR : Rp (fun _ => False) w A n ps) (hby : ∀ p ∈ ps, Byt p) (hm : (ps.map List.length).sum ≤ 1000000) :
    Calls Tryd.prog 35 #[.pointer (some ⟨g, 0, none⟩), .slice A n c] w fun e w' => e = .returned (.agg (v8 (tagk kb ps.flatten))) ∧ Below w.heap.size w w' := by
  have hu30 := Tryd.underlying30
  have HT := Aside0.mk hT
  have HK := Aside0.mk hk
  have Hkl := Aside0.mk hkl
  have Hkb := Aside0.mk hkb
  have HR := Aside0.mk hR
  have Hby := Aside0.mk hby
  have Hm := Aside0.mk hm
  clear hT hR hby hm hk hkl hkb
  go_enter Tryd.func35, Tryd.ntmps35
  go_wp2_with (first | ((with_reducible refine gate_dst (N := 4) rfl ?_); refine box_event ?hg (N := 4) ?hd (cs := v8 (List.replicate 32 0)) (t := 30) ?hr ?_; (case hd => rfl); (case hg => rfl); (case hr => first | (go_simp; done) | (go_simp; rfl)); intro g2 hg_ w1 hbox_ hb_; have H2 := Aside0.mk hbox_; have HB := Aside0.mk hb_; have Hg2 := Aside0.mk (show w.heap.size ≤ g2 from Nat.le_of_eq hg_.symm);clear hg_ hbox_ hb_))
  refine (new_any _ (HT.out.below HB.out)).mono ?_
  rintro e w2 ⟨rfl, h2, hb2⟩
  obtain ⟨ge, hge⟩ : ∃ g, g = w1.heap.size := ⟨_, rfl⟩
  rw [← hge] at h2 hb2 ⊢
  have HH := Aside0.mk h2
  have HB2 := Aside0.mk (HB.out.trans (hb2.mono (by rw [hge]; exact HB.out.size)))
  have H22 := Aside0.mk (show B8 w2 g2 30 (List.replicate 32 0) from (hb2.block g2 (by rw [hge]; exact blk_lt H2.out)).trans H2.out)
  have HG := Aside0.mk (show w.heap.size ≤ ge ∧ g2 < ge ∧ g < ge from by rw [hge]; exact ⟨HB.out.size, blk_lt H2.out, Nat.lt_of_lt_of_le HK.out.lt HB.out.size⟩)
  clear h2 hb2 hge HB H2
  go_wp2_with fail
  have hbA := below_alloc (Below.refl w2.heap.size w2) (.cells #[.slice (some ⟨g, 0, none⟩) 64 64] 27)
  have hgw : ge ≤ w2.heap.size := Nat.le_of_lt HH.out.lt
  refine (write_any (base := ge) (ps := [xr 54 kb]) _ (HH.out.below hbA) (HT.out.below (HB2.out.trans (hbA.mono (Nat.le_trans HG.out.1 hgw)))) (by have := HT.out.t.2.2; have := HG.out.1; omega)
    (parts_one (heap_alloc_new _ _) (fun hf => by have := HH.out.lt_all _ hf; omega) (Kk.one ((HK.out.below HB2.out HK.out.lt).below hbA (Nat.lt_of_lt_of_le HG.out.2.2 hgw)) Hkl.out (fun hf => by have := HH.out.base_all _ hf; have := HG.out.2.2; omega)) (Nat.le_refl _))
    (fun p hp => by rw [List.mem_singleton.1 hp]; exact xr_byt (by decide) Hkb.out) (by show (0 : Nat) < 64; omega) (by show 0 + _ ≤ _; simp [xr_length, Hkl.out])).mono ?_
  rintro e w3 ⟨v3, rfl, hW⟩
  have H23 := Aside0.mk (show B8 w3 g2 30 (List.replicate 32 0) from ((hbA.mono hgw).trans hW.bel).block g2 HG.out.2.1 |>.trans H22.out)
  have HB3 := Aside0.mk (HB2.out.trans (((hbA.mono hgw).trans hW.bel).mono HG.out.1))
  have HW := Aside0.mk hW.h
  clear hW hbA hgw HH H22 HB2
  go_wp2_with fail
  refine (write_any (base := ge) (ps := ps) _ HW.out (HT.out.below HB3.out) (by have := HT.out.t.2.2; have := HG.out.1; omega)
    (HR.out.later (Kept.of_below HB3.out (fun _ => False)) (fun _ h => h) (fun k hk => .inr (by have := HW.out.base_all k hk; have := HG.out.1; omega))) Hby.out (Hv.put_rest _ _) (by rw [show ([xr 54 kb].foldl Hv.put Hv.new).m = 0 + (xr 54 kb).length from rfl, xr_length, Hkl.out]; have := Hm.out; omega)).mono ?_
  rintro e w4 ⟨v4, rfl, hW⟩
  have HF : Aside0 ((ps.foldl Hv.put ([xr 54 kb].foldl Hv.put Hv.new)) = Hv.of (xr 54 kb ++ ps.flatten)) := ⟨by
    have h := Hv.puts [] (xr 54 kb :: ps)
    rw [← Hv.new_eq, List.nil_append, List.flatten_cons] at h
    exact h⟩
  have HW4 := Aside0.mk hW.h
  rw [HF.out] at HW4
  have H24 := Aside0.mk (show B8 w4 g2 30 (List.replicate 32 0) from (hW.bel.block g2 HG.out.2.1).trans H23.out)
  have HB4 := Aside0.mk (HB3.out.trans (hW.bel.mono HG.out.1))
  clear hW HW H23 HB3 HF
  go_wp2_with fail
  refine (hsum_any _ HW4.out (HT.out.below HB4.out) (Hv.of_rest _) (by rw [Hv.of_m, List.length_append, xr_length, Hkl.out, List.length_flatten]; have := Hm.out; omega)).mono ?_
  rintro e w5 ⟨rfl, hb5⟩
  rw [Hv.of_sum]
  have H25 := Aside0.mk (show B8 w5 g2 30 (List.replicate 32 0) from blk_below H24.out hb5)
  have HB5 := Aside0.mk (below_step HB4.out hb5)
  clear hb5 H24 HB4 HW4
  obtain ⟨bs, hbs⟩ : ∃ bs, bs = sum (xr 54 kb ++ ps.flatten) := ⟨_, rfl⟩
  have Hl32 : Aside0 (bs.length = 32 ∧ Byt bs) := ⟨by rw [hbs]; exact ⟨rfl, sum_byt _⟩⟩
  rw [← hbs]
  have Hbs := Aside0.mk hbs
  clear hbs
  go_wp2_with (first | ((with_reducible refine gate_dst (N := 6) rfl ?_); refine box_event ?hg (N := 6) ?hd (cs := v8 (List.replicate 32 0)) (t := 30) ?hr ?_; (case hd => rfl); (case hg => rfl); (case hr => first | (go_simp; done) | (go_simp; rfl)); intro g6 hg_ w6 hbox_ hb_; have H6 := Aside0.mk hbox_; have H26 := Aside0.mk (show B8 w6 g2 30 (List.replicate 32 0) from blk_below H25.out hb_); have Hg6 := Aside0.mk (show w.heap.size ≤ g6 ∧ g2 < g6 from by rw [hg_]; exact ⟨HB5.out.size, blk_lt H25.out⟩); have HB6 := Aside0.mk (below_step HB5.out hb_);clear hg_ hbox_ hb_) | ((with_reducible refine gate_store (t := 30) (p := 6) rfl ?_); refine store_row ?hg (ty := 30) (p := 6) (v := ?vr_2) ?ho ?hd (g := g6) (t := 30) (old := v8 (List.replicate 32 0)) (cells := v8 bs) ?hx ?hy H6.out (size30 Hl32.out.1) (by rw [v8_size, v8_size, Hl32.out.1, List.length_replicate]) (v8_one _) ?_; (case hd => rfl); (case hg => rfl); (case ho => rfl); (case hx => rfl); (case hy => rfl); intro w7 hbox_ hk_ hb_; have H7 := Aside0.mk (show B8 w7 g6 30 bs from hbox_); have H27 := Aside0.mk (show B8 w7 g2 30 (List.replicate 32 0) from (hb_.block g2 Hg6.out.2).trans H26.out); have HB7 := Aside0.mk (HB6.out.trans (hb_.mono Hg6.out.1));clear hbox_ hk_ hb_))
  clear H6 H26 HB6 H25 HB5
  have hS : (fun _ : World => True) w7.drew := trivial
  obtain ⟨bs2, hbs2⟩ : ∃ bs2, bs2 = sum (xr 92 kb ++ bs) := ⟨_, rfl⟩
  have Hl2 : Aside0 (bs2.length = 32) := ⟨by rw [hbs2]; rfl⟩
  have Hbs2 : Aside0 (bs2 = tagk kb ps.flatten) := ⟨by rw [hbs2, Hbs.out]; rfl⟩
  refine start_ (S := fun _ => True) (ds := [5, 6, 7]) #[false, false, false, false, false, false, false, false] (by kernel_rfl) rfl rfl hS ?_
  intro hS_
  refine pure_ (i := 0) (a' := ?a1_1) (v := .pointer (some ⟨g, 0, none⟩)) #[true, false, false, false, false, false, false, false] rfl rfl (by kernel_rfl) (fun _ _ _ h => h) (Or.inl ⟨rfl, ?hy1_1⟩) ?ha1_1 ?rest1_1
  case hy1_1 => intro w; first | (go_simp; done) | (go_simp; with_reducible rfl) | (go_simp; rfl)
  case ha1_1 => go_simp; rfl
  refine pure_ (i := 1) (a' := ?a1_2) (v := .pointer (some ⟨g, 0, none⟩)) #[true, true, false, false, false, false, false, false] rfl rfl (by kernel_rfl) (fun _ _ _ h => h) (Or.inl ⟨rfl, ?hy1_2⟩) ?ha1_2 ?rest1_2
  case hy1_2 => intro w; first | (go_simp; done) | (go_simp; with_reducible rfl) | (go_simp; rfl)
  case ha1_2 => go_simp; rfl
  refine pure_ (i := 2) (a' := ?a1_3) (v := .pointer (some ⟨g, 64, none⟩)) #[true, true, true, false, false, false, false, false] rfl rfl (by kernel_rfl) (fun _ _ _ h => h) (Or.inl ⟨rfl, ?hy1_3⟩) ?ha1_3 ?rest1_3
  case hy1_3 => intro w; first | (go_simp; done) | (go_simp; with_reducible rfl) | (go_simp; rfl)
  case ha1_3 => go_simp; rfl
  refine pure_ (i := 3) (a' := ?a1_4) (v := .slice (some ⟨g, 64, none⟩) 64 64) #[true, true, true, true, false, false, false, false] rfl rfl (by kernel_rfl) (fun _ _ _ h => h) (Or.inl ⟨rfl, ?hy1_4⟩) ?ha1_4 ?rest1_4
  case hy1_4 => intro w; first | (go_simp; done) | (go_simp; with_reducible rfl) | (go_simp; rfl)
  case ha1_4 => go_simp; rfl
  refine pure_ (i := 4) (a' := ?a1_5) (v := .slice (some ⟨g6, 0, none⟩) 32 32) #[true, true, true, true, true, false, false, false] rfl rfl (by kernel_rfl) (fun _ _ _ h => h) (Or.inl ⟨rfl, ?hy1_5⟩) ?ha1_5 ?rest1_5
  case hy1_5 => intro w; first | (go_simp; done) | (go_simp; with_reducible rfl) | (go_simp; rfl)
  case ha1_5 => go_simp; rfl
  refine last_ (i := 5) #[true, true, true, true, true, true, false, false] rfl rfl (by kernel_rfl) (by decide) ?_
  intro K_ hK_
  unfold Shut at hK_
  refine value_ (v := .slice (some ⟨w7.heap.size, 0, none⟩) 2 2) (w1 := w7.drew.alloc (.cells #[.slice (some ⟨g, 64, none⟩) 64 64, .slice (some ⟨g6, 0, none⟩) 32 32] 27)) rfl rfl (by (first | (go_simp; done) | (go_simp; rfl))) ?_; refine hK_ _ _ ?_; clear hK_
  refine last_ (i := 6) #[true, true, true, true, true, true, true, false] rfl rfl (by kernel_rfl) (by decide) ?_
  intro K_ hK_
  unfold Shut at hK_
  refine goes_ Tryd.func24 (by kernel_rfl) (by kernel_rfl) #[.slice (some ⟨w7.heap.size, 0, none⟩) 2 2] rfl rfl rfl (by go_simp) ?_; refine (sum_two (W := w7.drew) (xs := xr 92 kb) (ys := bs) (HT.out.below (below_drew HB7.out)) (Kk.two (HK.out.below (below_drew HB7.out) HK.out.lt) Hkl.out (fun h => h)) (Nat.le_refl _) (row_read H7.out (fun h => h) Hl32.out.1 (by decide)) (Nat.le_refl _) (xr_byt (by decide) Hkb.out) Hl32.out.2 (by rw [xr_length, Hkl.out, Hl32.out.1]; decide) rfl).mono ?_; rintro e w8 ⟨rfl, hb8⟩; rw [← hbs2]; have H28 := Aside0.mk (show B8 w8 g2 30 (List.replicate 32 0) from (hb8.block g2 (blk_lt H27.out)).trans H27.out); have HB8 := Aside0.mk (below_step (below_drew HB7.out) hb8); clear hb8; refine ⟨_, rfl, hK_ _ _ ?_⟩; clear hK_
  refine last_ (i := 7) #[true, true, true, true, true, true, true, true] rfl rfl (by kernel_rfl) (by decide) ?_
  intro K_ hK_
  unfold Shut at hK_
  refine skip_ rfl rfl (run_store_row 30 (.tmp 4) (.tmp 29) rfl g2 0 (v8 bs2) rfl rfl (there_block H28.out 0 _ (by rw [v8_size, v8_size, Hl2.out]; decide)) (size30 Hl2.out) (v8_one _)) ?_; refine hK_ _ _ ?_; clear hK_
  refine done_ (by kernel_rfl) ?_
  have HR9 := Aside0.mk (stored8 H28.out (l2 := bs2) (by rw [Hl2.out, List.length_replicate]) Hg2.out HB8.out)
  obtain ⟨w9, hw9⟩ : ∃ w9, w9 = w8.setCells g2 0 (v8 bs2).toList := ⟨_, rfl⟩
  rw [← hw9] at HR9 ⊢
  clear hw9
  go_wp2_with fail
  refine bodyPost_ret (results_cell_row rfl _ _ g2 30 (v8 bs2) (0, 0) _ rfl HR9.out.1 Tryd.underlying30 rfl (size30 Hl2.out)) rfl ?_
  exact ⟨by rw [Hbs2.out], HR9.out.2⟩
theorem Rp.move {w w1 : World} {A : Option Addr} {n : Nat} {ps : List (List Int)} (h : Rp (fun _ => False) w A n ps) (hb : Below w.heap.size w w1) : Rp (fun _ => False) w1 A n ps :=
  h.later (Kept.of_below hb (fun _ => False)) (fun _ h => h) (fun _ hk => hk.elim)
set_option maxRecDepth 100000 in
/-- mac.Tag. -/
theorem tag_any {A A2 : Option Addr} {n c n2 c2 : Nat} {key : List Int} {ps : List (List Int)} (w : World) (hT : Tab w) (hC : (Kd.int .u8).C w A n key) (hc : n ≤ c) (hby : Byt key) (hm : key.length ≤ 1000000) (hR : Rp (fun _ => False) w A2 n2 ps) (hbp : ∀ p ∈ ps, Byt p) (hmp : (ps.map List.length).sum ≤ 1000000) :
    Calls Tryd.prog 33 #[.slice A n c, .slice A2 n2 c2] w fun e w' => e = .returned (.agg (v8 (tag key ps.flatten))) ∧ Below w.heap.size w w' := by
  have hu30 := Tryd.underlying30
  have HT := Aside0.mk hT
  have HC := Aside0.mk hC
  have HR := Aside0.mk hR
  have Hby := Aside0.mk hby
  have Hbp := Aside0.mk hbp
  have Hmp := Aside0.mk hmp
  clear hT hC hR hby hbp hmp
  go_enter Tryd.func33, Tryd.ntmps33
  go_wp2_with (first | ((with_reducible refine gate_dst (N := 4) rfl ?_); refine box_event ?hg (N := 4) ?hd (cs := v8 (List.replicate 32 0)) (t := 30) ?hr ?_; (case hd => rfl); (case hg => rfl); (case hr => first | (go_simp; done) | (go_simp; rfl)); intro g2 hg_ w1 hbox_ hb_; have H2 := Aside0.mk hbox_; have HB := Aside0.mk hb_; have Hg2 := Aside0.mk (show w.heap.size ≤ g2 from Nat.le_of_eq hg_.symm);clear hg_ hbox_ hb_))
  refine (make_any _ (HT.out.below HB.out) (Kd.C_below HC.out HB.out) hc Hby.out (by omega)).mono ?_
  rintro e w2 ⟨g, rfl, hk, hg, hb2⟩
  have HK := Aside0.mk hk
  have H22 := Aside0.mk (show B8 w2 g2 30 (List.replicate 32 0) from blk_below H2.out hb2)
  have HB2 := Aside0.mk (below_step HB.out hb2)
  clear hk hb2 hg H2 HB
  go_wp2_with fail
  refine (ktag_any _ (HT.out.below HB2.out) HK.out (kbl_length _) (kbl_byt Hby.out) (HR.out.move HB2.out) Hbp.out Hmp.out).mono ?_
  rintro e w3 ⟨rfl, hb3⟩
  obtain ⟨bs, hbs⟩ : ∃ bs, bs = tagk (kbl key) ps.flatten := ⟨_, rfl⟩
  have Hl : Aside0 (bs.length = 32) := ⟨by rw [hbs]; rfl⟩
  have Hbs : Aside0 (bs = tag key ps.flatten) := ⟨hbs⟩
  rw [← hbs]
  have H23 := Aside0.mk (show B8 w3 g2 30 (List.replicate 32 0) from blk_below H22.out hb3)
  have HB3 := Aside0.mk (below_step HB2.out hb3)
  clear hb3 H22 HB2 HK hbs
  go_wp2_with (first | ((with_reducible refine gate_store (t := 30) (p := 4) rfl ?_); refine store_row ?hg (ty := 30) (p := 4) (v := ?vr_3) ?ho ?hd (g := g2) (t := 30) (old := v8 (List.replicate 32 0)) (cells := v8 bs) ?hx ?hy H23.out (size30 Hl.out) (by rw [v8_size, v8_size, Hl.out, List.length_replicate]) (v8_one _) ?_; (case hd => rfl); (case hg => rfl); (case ho => rfl); (case hx => rfl); (case hy => rfl); intro w12 hbox_ hk_ hb_; have HR9 := Aside0.mk hbox_; have HBf := Aside0.mk (HB3.out.trans (hb_.mono Hg2.out));clear hbox_ hk_ hb_))
  refine bodyPost_ret (results_cell_row rfl _ _ g2 30 (v8 bs) (0, 0) _ rfl HR9.out Tryd.underlying30 rfl (size30 Hl.out)) rfl ?_
  exact ⟨by rw [Hbs.out], HBf.out⟩
end Go.Proofs.YtpigkgnmegpddaaDoor.Sh
