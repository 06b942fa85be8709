/-
MacKept, walked.
-/
import Derived.Test.YtpigkgnmegpddaaDoorMe
namespace Go.Proofs.YtpigkgnmegpddaaDoor.Sh
set_option linter.unusedVariables false
set_option linter.unusedSimpArgs false
open Go.RowKit Go.Proofs.YtpigkgnmegpddaaDoorW.PrintWords Go.Proofs.YtpigkgnmegpddaaDoorW.PrintLast Go.Proofs.YtpigkgnmegpddaaDoorW.PrintMore

set_option maxRecDepth 100000 in
set_option maxHeartbeats 4000000 in
theorem kept03_law {A A2 : Option Addr} {n c n2 c2 : Nat} {key : List Int} {ps : List (List Int)} (w : World) (hT : Tab w) (hC : (Kd.int .u8).C w A n key) (hc : n ≤ c) (hby : Byt key) (hC2 : (Kd.slice 5 (Kd.int .u8)).C w A2 n2 ps) (hc2 : n2 ≤ c2) (hby2 : ∀ p ∈ ps, Byt p) :
    Calls Tryd.prog 11 #[.slice A n c, .slice A2 n2 c2] w fun e w' => e = .returned (.bool true) ∧ Below w.heap.size w w' := by
  have hu30 := Tryd.underlying30
  have hg30 := guard30
  have HT := Aside0.mk hT
  have H := Aside0.mk hC
  have HP := Aside0.mk (show (Kd.slice 27 (Kd.int .u8)).C w A2 n2 ps from hC2)
  have Hby := Aside0.mk hby
  have Hbp := Aside0.mk hby2
  have Hn := Aside0.mk hC.1
  have hnm := hC.2.1
  have hnm2 := hC2.2.1
  clear hT hC hby hC2 hby2
  by_cases h200 : 200 < n
  · go_enter Tryd.func11, Tryd.ntmps11
    go_wp2_with fail
    go_ret
    exact ⟨rfl, Below.refl _ _⟩
  have Hm : Aside0 (key.length ≤ 1000000) := ⟨by rw [Hn.out]; omega⟩
  obtain ⟨F, hF⟩ : ∃ F, F = fewB 12 ps := ⟨_, rfl⟩
  have HF := Aside0.mk hF
  clear hF
  cases F with
  | false =>
    go_enter Tryd.func11, Tryd.ntmps11
    go_wp2_with fail
    refine (few12_any _ HP.out).mono ?_
    rintro e w' ⟨rfl, rfl⟩
    rw [← HF.out]
    clear HF
    go_wp2_with fail
    go_ret
    exact ⟨rfl, Below.refl _ _⟩
  | true =>
    have Hmp : Aside0 ((ps.map List.length).sum ≤ 1000000) := ⟨by have := fewB_sum HF.out.symm; omega⟩
    have HR : Aside0 (Rp (fun _ => False) w A2 n2 ps) := ⟨Rp.came HP.out (Below.refl _ _) (fun _ hk => hk.elim)⟩
    go_enter Tryd.func11, Tryd.ntmps11
    go_wp2_with fail
    refine (few12_any _ HP.out).mono ?_
    rintro e w' ⟨rfl, rfl⟩
    rw [← HF.out]
    clear HF
    go_wp2_with (first | ((with_reducible refine gate_dst (N := 16) rfl ?_); refine lit_none (w0 := w) (w.heap.size) ?hg (N := 16) ?hd ?hr (Below.refl _ _) (Nat.le_refl _) ?_; (case hd => rfl); (case hg => rfl); (case hr => first | (go_simp; done) | (go_simp; rfl)); intro v3 w3 ho_ hb_; have HO3 := Aside0.mk ho_; have HB3 := Aside0.mk hb_; clear ho_ hb_; ) | ((with_reducible refine gate_builtin (b := .append) (xs := #[.tmp 16, .tmp 17]) rfl ?_); at_builtin; refine append_row (w0 := w) rfl (.tmp 16) (.tmp 17) rfl (w.heap.size) (v3) ([]) (key) (A) (n) (c) rfl rfl (HO3.out) ((Kd.C_below H.out HB3.out)) (HB3.out) (HB3.out.size) (by simp; omega) ?_; intro v4 w4 ho_ hb_; have HO4 := Aside0.mk ho_; have HB4 := Aside0.mk hb_; clear ho_ hb_; rw [List.nil_append] at HO4; obtain ⟨A4, c4, rfl⟩ := Kd.R_slice HO4.out))
    obtain ⟨L, hL⟩ : ∃ L, L = key.length := ⟨_, rfl⟩
    rw [← hL] at HO4 ⊢
    have HL := Aside0.mk hL
    have hLs : L ≤ 200 := by rw [hL, Hn.out]; omega
    have HCo : Aside0 ((Kd.int .u8).C w4 A4 L key) := ⟨by rw [hL]; exact (Kd.R_reads' (by rw [hL] at HO4; exact HO4.out)).2.2⟩
    have hLc : L ≤ c4 := (Kd.R_reads' HO4.out).2.1
    clear hL HO3 HB3
    refine (make_any _ (HT.out.below HB4.out) HCo.out hLc Hby.out (by have := Hm.out; omega)).mono ?_
    rintro e w5 ⟨g, rfl, hk, hg, hb5⟩
    have HO5 := Aside0.mk (Kd.R_below HO4.out hb5)
    have HK5 := Aside0.mk hk
    have Hg := Aside0.mk (show ∀ k, (Value.slice A4 L c4).ownBlock = some k → k < g from fun k hk => Nat.lt_of_lt_of_le (Kd.R_lt HO4.out k hk) hg)
    have HB5 := Aside0.mk (below_step HB4.out hb5)
    have Hgw := Aside0.mk (show w.heap.size ≤ g from Nat.le_trans HB4.out.size hg)
    clear hk hg hb5 HO4 HB4 HCo
    go_wp2_with fail
    go_loopg [7] L (fun gk iv wr => ∃ (j : Nat) (ys : List Int), j + gk = L ∧ iv = .int .i64 j ∧ Aside0 (Own wr w.heap.size (.slice A4 L c4) ys) ∧ Aside0 (Kk wr g (kbl key)) ∧ Aside0 (Below w.heap.size w wr))
    case atStart => exact ⟨0, key, by omega, rfl, HO5, HK5, HB5⟩
    case round =>
      clear HO5 HK5 HB5
      obtain ⟨j, ys, hj, rfl, HO, HK, HB⟩ := hrel
      by_cases hjl : j < L
      · obtain ⟨gj, rfl⟩ : ∃ gj, gk = gj + 1 := ⟨gk - 1, by omega⟩
        obtain ⟨g6, rfl⟩ := own_form HO.out (by omega)
        obtain ⟨y, hy1, hy2, hy3⟩ := own_at HO.out j hjl
        have Hset := Aside0.mk hy3
        have hg6 := Kd.R_base HO.out g6 rfl
        have Hg6 := Aside0.mk (And.intro hg6 (Hg.out g6 rfl))
        clear hy3 hg6
        have p2 : (0 : Int) ≤ (j : Int) := by omega
        go_wp2_with fail
        go_roundg gj
        case measure => omega
        case rel => exact ⟨j + 1, _, by omega, by go_num, ⟨Hset.out _⟩, ⟨blk_far (p := ⟨g6, j, none⟩) HK.out (Nat.ne_of_gt Hg6.out.2) _⟩, ⟨HB.out.setCell (p := ⟨g6, j, none⟩) Hg6.out.1 _⟩⟩
      · have hjL : j = L := by omega
        subst hjL
        obtain ⟨bs, hbs⟩ : ∃ bs, bs = tag key ps.flatten := ⟨_, rfl⟩
        have Hbs := Aside0.mk hbs
        have Hbk : Aside0 (tagk (kbl key) ps.flatten = bs) := ⟨hbs.symm⟩
        have heq := fun w => heq30 (bs := bs) (by rw [hbs]; rfl) w
        clear hbs HO Hg
        go_wp2_with fail
        refine (ktag_any _ (HT.out.below HB.out) HK.out (kbl_length _) (kbl_byt Hby.out) (HR.out.move HB.out) Hbp.out Hmp.out).mono ?_
        rintro e w6 ⟨rfl, hb6⟩
        rw [Hbk.out]
        have HK6 := Aside0.mk (HK.out.below hb6 HK.out.lt)
        have HB6 := Aside0.mk (below_step HB.out hb6)
        clear hb6 HK HB
        go_wp2_with fail
        refine (tag_any _ (HT.out.below HB6.out) (Kd.C_below H.out HB6.out) hc Hby.out Hm.out (HR.out.move HB6.out) Hbp.out Hmp.out).mono ?_
        rintro e w7 ⟨rfl, hb7⟩
        rw [← Hbs.out]
        have HK7 := Aside0.mk (HK6.out.below hb7 HK6.out.lt)
        have HB7 := Aside0.mk (below_step HB6.out hb7)
        clear hb7 HK6 HB6
        go_wp2_with fail
        refine (ktag_any _ (HT.out.below HB7.out) HK7.out (kbl_length _) (kbl_byt Hby.out) (HR.out.move HB7.out) Hbp.out Hmp.out).mono ?_
        rintro e w8 ⟨rfl, hb8⟩
        rw [Hbk.out]
        have HK8 := Aside0.mk (HK7.out.below hb8 HK7.out.lt)
        have HB8 := Aside0.mk (below_step HB7.out hb8)
        clear hb8 HK7 HB7
        go_wp2_with fail
        refine (ktag_any _ (HT.out.below HB8.out) HK8.out (kbl_length _) (kbl_byt Hby.out) (HR.out.move HB8.out) Hbp.out Hmp.out).mono ?_
        rintro e w9 ⟨rfl, hb9⟩
        rw [Hbk.out]
        have HB9 := Aside0.mk (below_step HB8.out hb9)
        clear hb9 HK8 HB8
        go_wp2_with fail
        refine (awake03_any _ (HT.out.below HB9.out)).mono ?_
        rintro e w10 ⟨rfl, hb10⟩
        have HBa := Aside0.mk (below_step HB9.out hb10)
        clear hb10 HB9
        go_wp2_with fail
        go_ret
        exact ⟨rfl, HBa.out⟩
end Go.Proofs.YtpigkgnmegpddaaDoor.Sh
