/-
MacKeys, MacKept, MacOwn, walked.
-/
import Derived.Test.YtpigkgnmegpddaaDoorMd
import Derived.Test.YtpigkgnmegpddaaDoorLd
namespace Go.Proofs.YtpigkgnmegpddaaDoor.Sh
set_option linter.unusedVariables false
set_option linter.unusedSimpArgs false
open Go.RowKit Go.Proofs.YtpigkgnmegpddaaDoorW.PrintWords Go.Proofs.YtpigkgnmegpddaaDoorW.PrintLast Go.Proofs.YtpigkgnmegpddaaDoorW.PrintMore

theorem heq30 {bs : List Int} (h : bs.length = 32) (w : World) : (Op.equalIn 10000 30 (.agg (v8 bs)) (.agg (v8 bs))).run Tryd.prog w = .ok true w := by
  have := eq30 bs bs h h w
  rwa [decide_eq_true rfl] at this
theorem own_lower {W : World} {b b' : Nat} {v : Value} {xs : List Int} (h : Own W b v xs) (hb : b' ≤ b) : Own W b' v xs := Kd.R_lower h hb
set_option maxRecDepth 100000 in
set_option maxHeartbeats 4000000 in
theorem keys_law {A A2 : Option Addr} {n c n2 c2 : Nat} {key b : List Int} (w : World) (hT : Tab w) (hC : (Kd.int .u8).C w A n key) (hc : n ≤ c) (hby : Byt key) (hC2 : (Kd.int .u8).C w A2 n2 b) (hc2 : n2 ≤ c2) (hby2 : Byt b) :
    Calls Tryd.prog 10 #[.slice A n c, .slice A2 n2 c2] w fun e w' => e = .returned (.bool true) ∧ Below w.heap.size w w' := by
  have hu30 := Tryd.underlying30
  have hg30 := guard30
  have HT := Aside0.mk hT
  have H := Aside0.mk hC
  have H2 := Aside0.mk hC2
  have Hby := Aside0.mk hby
  have Hby2 := Aside0.mk hby2
  have Hn := Aside0.mk hC.1
  have Hn2 := Aside0.mk hC2.1
  have hnm := hC.2.1
  have hnm2 := hC2.2.1
  clear hT hC hby hC2 hby2
  by_cases h200 : 200 < n
  · go_enter Tryd.func10, Tryd.ntmps10
    go_wp2_with fail
    go_ret
    exact ⟨rfl, Below.refl _ _⟩
  by_cases h300 : 300 < n2
  · go_enter Tryd.func10, Tryd.ntmps10
    go_wp2_with fail
    go_ret
    exact ⟨rfl, Below.refl _ _⟩
  have Hm : Aside0 (key.length ≤ 1000000) := ⟨by rw [Hn.out]; omega⟩
  have Hm2 : Aside0 (b.length ≤ 1000000) := ⟨by rw [Hn2.out]; omega⟩
  obtain ⟨kc, hkc⟩ : ∃ kc, kc = kcut key := ⟨_, rfl⟩
  have Hkc := Aside0.mk hkc
  have Hkl : Aside0 (kc.length ≤ 64) := ⟨by rw [hkc]; exact kcut_le key⟩
  clear hkc
  by_cases h64 : 64 < n
  · have Hkc2 : Aside0 (kc = sum key) := ⟨by rw [Hkc.out, kcut, if_pos (by rw [Hn.out]; exact h64)]⟩
    go_enter Tryd.func10, Tryd.ntmps10
    go_wp2_with (first | ((with_reducible refine gate_dst (N := 15) rfl ?_); refine lit_none (w0 := w) (w.heap.size) ?hg (N := 15) ?hd ?hr (Below.refl _ _) (Nat.le_refl _) ?_; (case hd => rfl); (case hg => rfl); (case hr => first | (go_simp; done) | (go_simp; rfl)); intro v3 w3 ho_ hb_; have HO3 := Aside0.mk ho_; have HB3 := Aside0.mk hb_; clear ho_ hb_; ) | ((with_reducible refine gate_builtin (b := .append) (xs := #[.tmp 15, .tmp 16]) rfl ?_); at_builtin; refine append_row (w0 := w) rfl (.tmp 15) (.tmp 16) rfl (w.heap.size) (v3) ([]) (key) (A) (n) (c) rfl rfl (HO3.out) ((Kd.C_below H.out HB3.out)) (HB3.out) (HB3.out.size) (by simp; omega) ?_; intro v4 w4 ho_ hb_; have HO4 := Aside0.mk ho_; have HB4 := Aside0.mk hb_; clear ho_ hb_; obtain ⟨A4, c4, rfl⟩ := Kd.R_slice HO4.out))
    refine (sum_one (W := w4) (HT.out.below HB4.out) (Kd.C_below H.out HB4.out) hc Hby.out (by have := Hm.out; omega) rfl).mono ?_
    rintro e w5 ⟨rfl, hb5⟩
    rw [← Hkc2.out]
    have Hk32 : Aside0 (kc.length = 32) := ⟨by rw [Hkc2.out]; rfl⟩
    have HB5 := Aside0.mk (below_step HB4.out hb5)
    clear hb5 HO3 HB3 HO4 HB4
    go_wp2_with (first | ((with_reducible refine gate_dst (N := 6) rfl ?_); refine box_event ?hg (N := 6) ?hd (cs := v8 (List.replicate 32 0)) (t := 30) ?hr ?_; (case hd => rfl); (case hg => rfl); (case hr => first | (go_simp; done) | (go_simp; rfl)); intro g6 hg_ w6 hbox_ hb_; have H6 := Aside0.mk hbox_; have HB6 := Aside0.mk (below_step HB5.out hb_); have Hg6 := Aside0.mk (show w.heap.size ≤ g6 from by rw [hg_]; exact HB5.out.size);clear hg_ hbox_ hb_) | ((with_reducible refine gate_store (t := 30) (p := 6) rfl ?_); refine store_row ?hg (ty := 30) (p := 6) (v := ?vr_1) ?ho ?hd (g := g6) (t := 30) (old := v8 (List.replicate 32 0)) (cells := v8 kc) ?hx ?hy H6.out (size30 Hk32.out) (by rw [v8_size, v8_size, Hk32.out, List.length_replicate]) (v8_one _) ?_; (case hd => rfl); (case hg => rfl); (case ho => rfl); (case hx => rfl); (case hy => rfl); intro w7 hbox_ hk_ hb_; have H7 := Aside0.mk (show B8 w7 g6 30 kc from hbox_); have HB7 := Aside0.mk (HB6.out.trans (hb_.mono Hg6.out));clear hbox_ hk_ hb_) | ((with_reducible refine gate_dst (N := 24) rfl ?_); refine lit_none (w0 := w7) (w7.heap.size) ?hg (N := 24) ?hd ?hr (Below.refl w7.heap.size w7) (Nat.le_refl _) ?_; (case hd => rfl); (case hg => rfl); (case hr => first | (go_simp; done) | (go_simp; rfl)); intro v8a w8a ho_ hb_; have HO8 := Aside0.mk ho_; have HB8 := Aside0.mk hb_; clear ho_ hb_; ) | ((with_reducible refine gate_builtin (b := .append) (xs := #[.tmp 24, .tmp 25]) rfl ?_); at_builtin; refine append_row (w0 := w7) rfl (.tmp 24) (.tmp 25) rfl (w7.heap.size) (v8a) ([]) (kc) (some ⟨g6, 0, none⟩) (32) (32) rfl rfl (HO8.out) ((Kd.C_below (row_read (S := fun _ => False) H7.out (fun h => h) Hk32.out (by decide)).now HB8.out)) (HB8.out) (HB8.out.size) (by simp) ?_; intro v9 w9 ho_ hb_; have HO9 := Aside0.mk ho_; have HB9 := Aside0.mk hb_; clear ho_ hb_; rw [List.nil_append] at HO9; have HO := Aside0.mk (show Own w9 w.heap.size v9 kc from own_lower HO9.out HB7.out.size); have HB := Aside0.mk (below_step HB7.out HB9.out)) )
    go_loopg [5] (64 - kc.length) (fun gk x wr => ∃ i : Nat, i + gk = 64 - kc.length ∧ Aside0 (Own wr w.heap.size x (kc ++ List.replicate i 0)) ∧ Aside0 (Below w.heap.size w wr))
    case atStart => exact ⟨0, by omega, ⟨by rw [List.replicate_zero, List.append_nil]; exact HO.out⟩, HB⟩
    case round =>
      clear HO HB
      obtain ⟨i, hi, HO, HB⟩ := hrel
      obtain ⟨Ax, cx, rfl⟩ := Kd.R_slice HO.out
      have hll : (kc ++ List.replicate i 0).length = kc.length + i := by simp
      obtain ⟨L, hL⟩ : ∃ L, L = (kc ++ List.replicate i 0).length := ⟨_, rfl⟩
      rw [← hL] at HO ⊢
      have hL2 : L = kc.length + i := by rw [hL, hll]
      have hk64 := Hkl.out
      have HL := Aside0.mk hL
      clear hL hll
      by_cases hlt : i < 64 - kc.length
      · have ht : (L : Int) < 64 := by omega
        obtain ⟨gq, rfl⟩ : ∃ gq, gk = gq + 1 := ⟨gk - 1, by omega⟩
        go_wp2_with (first | ((with_reducible refine gate_builtin (b := .append) (xs := #[.tmp 30, .tmp 31]) rfl ?_); at_builtin; refine append_one (w0 := w) rfl (.tmp 30) (.tmp 31) rfl (w.heap.size) (.slice Ax L cx) (kc ++ List.replicate i 0) (0) rfl rfl (HO.out) (HB.out) (HB.out.size) (by have := HL.out; omega) ?_; intro v7 w7 ho_ hb_; have HO7 := Aside0.mk ho_; have HB7 := Aside0.mk hb_; clear ho_ hb_; ))
        go_roundg gq
        case measure => omega
        case rel =>
          refine ⟨i + 1, by omega, ⟨?_⟩, HB7⟩
          have := HO7.out
          rwa [List.append_assoc, ← List.replicate_succ'] at this
      · have hL64 : L = 64 := by omega
        have ht : (64 : Int) ≤ (L : Int) := by omega
        have hkb : kc ++ List.replicate i 0 = kbl key := by
          have hi2 : i = 64 - kc.length := by omega
          rw [hi2, kbl, ← Hkc.out]
        rw [hkb] at HO HL
        have hCk : (Kd.int .u8).C wr Ax L (kbl key) := by rw [HL.out]; exact (Kd.R_reads' HO.out).2.2
        have hcx : L ≤ cx := (Kd.R_reads' HO.out).2.1
        have HCk := Aside0.mk hCk
        obtain ⟨bs, hbs⟩ : ∃ bs, bs = tag key b := ⟨_, rfl⟩
        have Hbs := Aside0.mk hbs
        have heq := fun w => heq30 (bs := bs) (by rw [hbs]; rfl) w
        clear hbs hkb hCk hL2 hL64 hk64
        go_wp2_with fail
        refine (tag_one (W := wr) (HT.out.below HB.out) HCk.out hcx (kbl_byt Hby.out) (by rw [kbl_length]; decide) (Kd.C_below H2.out HB.out) hc2 Hby2.out Hm2.out rfl).mono ?_
        rintro e w8 ⟨rfl, hb8⟩
        rw [tag_kbl, ← Hbs.out]
        have HB8 := Aside0.mk (below_step HB.out hb8)
        clear hb8 HB HO
        go_wp2_with fail
        refine (tag_one (W := w8) (HT.out.below HB8.out) (Kd.C_below H.out HB8.out) hc Hby.out Hm.out (Kd.C_below H2.out HB8.out) hc2 Hby2.out Hm2.out rfl).mono ?_
        rintro e w9 ⟨rfl, hb9⟩
        rw [← Hbs.out]
        have HB9 := Aside0.mk (below_step HB8.out hb9)
        clear hb9 HB8
        go_wp2_with fail
        refine (awake03_any _ (HT.out.below HB9.out)).mono ?_
        rintro e w10 ⟨rfl, hb10⟩
        have HBa := Aside0.mk (below_step HB9.out hb10)
        clear hb10 HB9
        go_wp2_with fail
        go_ret
        exact ⟨rfl, HBa.out⟩
  · have Hkc2 : Aside0 (kc = key) := ⟨by rw [Hkc.out, kcut, if_neg (by rw [Hn.out]; exact h64)]⟩
    go_enter Tryd.func10, Tryd.ntmps10
    go_wp2_with (first | ((with_reducible refine gate_dst (N := 15) rfl ?_); refine lit_none (w0 := w) (w.heap.size) ?hg (N := 15) ?hd ?hr (Below.refl _ _) (Nat.le_refl _) ?_; (case hd => rfl); (case hg => rfl); (case hr => first | (go_simp; done) | (go_simp; rfl)); intro v3 w3 ho_ hb_; have HO3 := Aside0.mk ho_; have HB3 := Aside0.mk hb_; clear ho_ hb_; ) | ((with_reducible refine gate_builtin (b := .append) (xs := #[.tmp 15, .tmp 16]) rfl ?_); at_builtin; refine append_row (w0 := w) rfl (.tmp 15) (.tmp 16) rfl (w.heap.size) (v3) ([]) (key) (A) (n) (c) rfl rfl (HO3.out) ((Kd.C_below H.out HB3.out)) (HB3.out) (HB3.out.size) (by simp; omega) ?_; intro v4 w4 ho_ hb_; have HO := Aside0.mk ho_; have HB := Aside0.mk hb_; clear ho_ hb_; rw [List.nil_append, ← Hkc2.out] at HO))
    go_loopg [5] (64 - kc.length) (fun gk x wr => ∃ i : Nat, i + gk = 64 - kc.length ∧ Aside0 (Own wr w.heap.size x (kc ++ List.replicate i 0)) ∧ Aside0 (Below w.heap.size w wr))
    case atStart => exact ⟨0, by omega, ⟨by rw [List.replicate_zero, List.append_nil]; exact HO.out⟩, HB⟩
    case round =>
      clear HO HB
      obtain ⟨i, hi, HO, HB⟩ := hrel
      obtain ⟨Ax, cx, rfl⟩ := Kd.R_slice HO.out
      have hll : (kc ++ List.replicate i 0).length = kc.length + i := by simp
      obtain ⟨L, hL⟩ : ∃ L, L = (kc ++ List.replicate i 0).length := ⟨_, rfl⟩
      rw [← hL] at HO ⊢
      have hL2 : L = kc.length + i := by rw [hL, hll]
      have hk64 := Hkl.out
      have HL := Aside0.mk hL
      clear hL hll
      by_cases hlt : i < 64 - kc.length
      · have ht : (L : Int) < 64 := by omega
        obtain ⟨gq, rfl⟩ : ∃ gq, gk = gq + 1 := ⟨gk - 1, by omega⟩
        go_wp2_with (first | ((with_reducible refine gate_builtin (b := .append) (xs := #[.tmp 30, .tmp 31]) rfl ?_); at_builtin; refine append_one (w0 := w) rfl (.tmp 30) (.tmp 31) rfl (w.heap.size) (.slice Ax L cx) (kc ++ List.replicate i 0) (0) rfl rfl (HO.out) (HB.out) (HB.out.size) (by have := HL.out; omega) ?_; intro v7 w7 ho_ hb_; have HO7 := Aside0.mk ho_; have HB7 := Aside0.mk hb_; clear ho_ hb_; ))
        go_roundg gq
        case measure => omega
        case rel =>
          refine ⟨i + 1, by omega, ⟨?_⟩, HB7⟩
          have := HO7.out
          rwa [List.append_assoc, ← List.replicate_succ'] at this
      · have hL64 : L = 64 := by omega
        have ht : (64 : Int) ≤ (L : Int) := by omega
        have hkb : kc ++ List.replicate i 0 = kbl key := by
          have hi2 : i = 64 - kc.length := by omega
          rw [hi2, kbl, ← Hkc.out]
        rw [hkb] at HO HL
        have hCk : (Kd.int .u8).C wr Ax L (kbl key) := by rw [HL.out]; exact (Kd.R_reads' HO.out).2.2
        have hcx : L ≤ cx := (Kd.R_reads' HO.out).2.1
        have HCk := Aside0.mk hCk
        obtain ⟨bs, hbs⟩ : ∃ bs, bs = tag key b := ⟨_, rfl⟩
        have Hbs := Aside0.mk hbs
        have heq := fun w => heq30 (bs := bs) (by rw [hbs]; rfl) w
        clear hbs hkb hCk hL2 hL64 hk64
        go_wp2_with fail
        refine (tag_one (W := wr) (HT.out.below HB.out) HCk.out hcx (kbl_byt Hby.out) (by rw [kbl_length]; decide) (Kd.C_below H2.out HB.out) hc2 Hby2.out Hm2.out rfl).mono ?_
        rintro e w8 ⟨rfl, hb8⟩
        rw [tag_kbl, ← Hbs.out]
        have HB8 := Aside0.mk (below_step HB.out hb8)
        clear hb8 HB HO
        go_wp2_with fail
        refine (tag_one (W := w8) (HT.out.below HB8.out) (Kd.C_below H.out HB8.out) hc Hby.out Hm.out (Kd.C_below H2.out HB8.out) hc2 Hby2.out Hm2.out rfl).mono ?_
        rintro e w9 ⟨rfl, hb9⟩
        rw [← Hbs.out]
        have HB9 := Aside0.mk (below_step HB8.out hb9)
        clear hb9 HB8
        go_wp2_with fail
        refine (awake03_any _ (HT.out.below HB9.out)).mono ?_
        rintro e w10 ⟨rfl, hb10⟩
        have HBa := Aside0.mk (below_step HB9.out hb10)
        clear hb10 HB9
        go_wp2_with fail
        go_ret
        exact ⟨rfl, HBa.out⟩
end Go.Proofs.YtpigkgnmegpddaaDoor.Sh
