/-
MacFits, walked.
-/
import Derived.Test.YtpigkgnmegpddaaDoorMh
namespace Go.Proofs.YtpigkgnmegpddaaDoor.Sh
set_option linter.unusedVariables false
set_option linter.unusedSimpArgs false
open Go.RowKit Go.Proofs.YtpigkgnmegpddaaDoorW.PrintWords Go.Proofs.YtpigkgnmegpddaaDoorW.PrintLast Go.Proofs.YtpigkgnmegpddaaDoorW.PrintMore

theorem u8_inj {x y : Int} (hx : 0 ≤ x ∧ x ≤ 255) (hy : 0 ≤ y ∧ y ≤ 255) (h : UInt8.ofNat x.toNat = UInt8.ofNat y.toNat) : x = y := by
  have h1 := congrArg UInt8.toNat h
  simp only [UInt8.toNat_ofNat', Nat.reducePow] at h1
  rw [Nat.mod_eq_of_lt (by omega), Nat.mod_eq_of_lt (by omega)] at h1
  omega
theorem str_beq {xs ys : List Int} (hx : Byt xs) (hy : Byt ys) : ((strOfNums xs).toList == (strOfNums ys).toList) = decide (xs = ys) := by
  have hl : ∀ l : List Int, (strOfNums l).toList = l.map fun x => UInt8.ofNat x.toNat := fun l => by
    rw [ByteArray.toList_eq]
    simp [strOfNums]
  rw [hl, hl]
  by_cases h : xs = ys
  · subst h
    simp
  · rw [decide_eq_false h, beq_eq_false_iff_ne]
    intro he
    apply h
    have hlen : xs.length = ys.length := by simpa using congrArg List.length he
    apply List.ext_getElem hlen
    intro i h1 h2
    have := congrArg (fun l => l[i]?) he
    simp only [List.getElem?_map, List.getElem?_eq_getElem h1, List.getElem?_eq_getElem h2, Option.map_some, Option.some.injEq] at this
    exact u8_inj (hx _ (List.getElem_mem _)) (hy _ (List.getElem_mem _)) this
set_option maxRecDepth 100000 in
set_option maxHeartbeats 4000000 in
theorem fits_law {A A2 A3 : Option Addr} {n c n2 c2 n3 c3 : Nat} {key tg : List Int} {ps : List (List Int)} (w : World) (hT : Tab w) (hC : (Kd.int .u8).C w A n key) (hc : n ≤ c) (hby : Byt key) (hC2 : (Kd.slice 5 (Kd.int .u8)).C w A2 n2 ps) (hc2 : n2 ≤ c2) (hby2 : ∀ p ∈ ps, Byt p) (hC3 : (Kd.int .u8).C w A3 n3 tg) (hc3 : n3 ≤ c3) (hby3 : Byt tg) :
    Calls Tryd.prog 12 #[.slice A n c, .slice A2 n2 c2, .slice A3 n3 c3] w fun e w' => e = .returned (.bool true) ∧ Below w.heap.size w w' := by
  have hu30 := Tryd.underlying30
  have hg30 := guard30
  have HT := Aside0.mk hT
  have H := Aside0.mk hC
  have HP := Aside0.mk (show (Kd.slice 27 (Kd.int .u8)).C w A2 n2 ps from hC2)
  have Hby := Aside0.mk hby
  have Hbp := Aside0.mk hby2
  have Hn := Aside0.mk hC.1
  have hnm := hC.2.1
  have hnm2 := hC2.2.1
  have hnm3 := hC3.2.1
  have Hn3 := Aside0.mk hC3.1
  have HC3 := Aside0.mk hC3
  have Hby3 := Aside0.mk hby3
  clear hC3 hby3
  clear hT hC hby hC2 hby2
  by_cases h200 : 200 < n
  · go_enter Tryd.func12, Tryd.ntmps12
    go_wp2_with fail
    go_ret
    exact ⟨rfl, Below.refl _ _⟩
  by_cases h100 : 100 < n3
  · go_enter Tryd.func12, Tryd.ntmps12
    go_wp2_with fail
    go_ret
    exact ⟨rfl, Below.refl _ _⟩
  have Hm : Aside0 (key.length ≤ 1000000) := ⟨by rw [Hn.out]; omega⟩
  obtain ⟨F, hF⟩ : ∃ F, F = fewB 12 ps := ⟨_, rfl⟩
  have HF := Aside0.mk hF
  clear hF
  cases F with
  | false =>
    go_enter Tryd.func12, Tryd.ntmps12
    go_wp2_with fail
    refine (few12_any _ HP.out).mono ?_
    rintro e w' ⟨rfl, rfl⟩
    rw [← HF.out]
    clear HF
    go_wp2_with fail
    go_ret
    exact ⟨rfl, Below.refl _ _⟩
  | true =>
    have Hmp : Aside0 ((ps.map List.length).sum ≤ 1000000) := ⟨by have := fewB_sum HF.out.symm; omega⟩
    have HR : Aside0 (Rp (fun _ => False) w A2 n2 ps) := ⟨Rp.came HP.out (Below.refl _ _) (fun _ hk => hk.elim)⟩
    go_enter Tryd.func12, Tryd.ntmps12
    go_wp2_with fail
    refine (few12_any _ HP.out).mono ?_
    rintro e w' ⟨rfl, rfl⟩
    rw [← HF.out]
    clear HF
    go_wp2_with fail
    refine (all_any _ HP.out Hmp.out).mono ?_
    rintro e w1 ⟨v1, rfl, ho, hb1⟩
    have HO1 := Aside0.mk ho
    have HB1 := Aside0.mk hb1
    clear ho hb1
    obtain ⟨Av, cv, rfl⟩ := Kd.R_slice HO1.out
    obtain ⟨M, hM⟩ : ∃ M, M = ps.flatten.length := ⟨_, rfl⟩
    rw [← hM]
    have HM := Aside0.mk hM
    clear hM
    go_wp2_with fail
    refine (reftag_any (msg := ps.flatten) (n2 := M) _ (Kd.C_below H.out HB1.out) hc Hby.out Hm.out (by rw [HM.out]; exact (Kd.R_reads' HO1.out).2.2) (fun x hx => by obtain ⟨p, hp, hxp⟩ := List.mem_flatten.1 hx; exact Hbp.out p hp x hxp) (by rw [HM.out, List.length_flatten]; exact Hmp.out)).mono ?_
    rintro e w2 ⟨rfl, hb2⟩
    obtain ⟨bs, hbs⟩ : ∃ bs, bs = tag key ps.flatten := ⟨_, rfl⟩
    have Hl : Aside0 (bs.length = 32) := ⟨by rw [hbs]; rfl⟩
    have Hlb : Aside0 (Byt bs) := ⟨by rw [hbs]; exact tag_byt _ _⟩
    have Hbs := Aside0.mk hbs
    have Hbk : Aside0 (tagk (kbl key) ps.flatten = bs) := ⟨hbs.symm⟩
    have heq := fun w => heq30 (bs := bs) (by rw [hbs]; rfl) w
    have heq0 := eq30_zero
    rw [← hbs]
    have HB2 := Aside0.mk (below_step HB1.out hb2)
    clear hbs hb2 HB1 HO1
    go_wp2_with (first | ((with_reducible refine gate_dst (N := 7) rfl ?_); refine box_event ?hg (N := 7) ?hd (cs := v8 (List.replicate 32 0)) (t := 30) ?hr ?_; (case hd => rfl); (case hg => rfl); (case hr => first | (go_simp; done) | (go_simp; rfl)); intro g5 hg_ w3 hbox_ hb_; have H3 := Aside0.mk hbox_; have HB3 := Aside0.mk (below_step HB2.out hb_); have Hg5 := Aside0.mk (show w.heap.size ≤ g5 from by rw [hg_]; exact HB2.out.size);clear hg_ hbox_ hb_) | ((with_reducible refine gate_store (t := 30) (p := 7) rfl ?_); refine store_row ?hg (ty := 30) (p := 7) (v := ?vr_1) ?ho ?hd (g := g5) (t := 30) (old := v8 (List.replicate 32 0)) (cells := v8 bs) ?hx ?hy H3.out (size30 Hl.out) (by rw [v8_size, v8_size, Hl.out, List.length_replicate]) (v8_one _) ?_; (case hd => rfl); (case hg => rfl); (case ho => rfl); (case hx => rfl); (case hy => rfl); intro w4 hbox_ hk_ hb_; have H4 := Aside0.mk (show B8 w4 g5 30 bs from hbox_); have HB4 := Aside0.mk (HB3.out.trans (hb_.mono Hg5.out));clear hbox_ hk_ hb_))
    clear H3 HB3 HB2
    have HT4 := Aside0.mk (HT.out.below HB4.out)
    have HC4 := Aside0.mk (Kd.C_below H.out HB4.out)
    have HR4 := Aside0.mk (HR.out.move HB4.out)
    have HC34 := Aside0.mk (Kd.C_below HC3.out HB4.out)
    obtain ⟨F, hF⟩ : ∃ F, F = decide (tg = bs) := ⟨_, rfl⟩
    obtain ⟨s1, hs1⟩ : ∃ s1, s1 = strOfNums tg := ⟨_, rfl⟩
    obtain ⟨s2, hs2⟩ : ∃ s2, s2 = strOfNums bs := ⟨_, rfl⟩
    have hstr : (s1.toList == s2.toList) = F := by rw [hs1, hs2, hF]; exact str_beq Hby3.out Hlb.out
    have HF := Aside0.mk hF
    have Hs1 := Aside0.mk hs1
    have Hs2 := Aside0.mk hs2
    clear hF hs1 hs2
    have hS : Sreg w4 g5 bs w4.drew := ⟨H4.out, below_drew (Below.refl _ _)⟩
    refine start_ (S := Sreg w4 g5 bs) (ds := []) #[false, false, false, false, false, false, false, false, false, false, false, false, false, false, false, false, false, false, false, false, false, false] (by kernel_rfl) rfl rfl hS ?_
    intro hS_
    refine pure_ (i := 0) (a' := ?a1_1) (v := .slice A n c) #[true, false, false, false, false, false, false, false, false, false, false, false, false, false, false, false, false, false, false, false, false, false] rfl rfl (by kernel_rfl) (fun _ _ _ h => h) (Or.inl ⟨rfl, ?hy1_1⟩) ?ha1_1 ?rest1_1
    case hy1_1 => intro w; first | (go_simp; done) | (go_simp; with_reducible rfl) | (go_simp; rfl)
    case ha1_1 => go_simp; rfl
    refine pure_ (i := 2) (a' := ?a1_2) (v := .slice A3 n3 c3) #[true, false, true, false, false, false, false, false, false, false, false, false, false, false, false, false, false, false, false, false, false, false] rfl rfl (by kernel_rfl) (fun _ _ _ h => h) (Or.inl ⟨rfl, ?hy1_2⟩) ?ha1_2 ?rest1_2
    case hy1_2 => intro w; first | (go_simp; done) | (go_simp; with_reducible rfl) | (go_simp; rfl)
    case ha1_2 => go_simp; rfl
    refine pure_ (i := 3) (a' := ?a1_3) (v := .slice A2 n2 c2) #[true, false, true, true, false, false, false, false, false, false, false, false, false, false, false, false, false, false, false, false, false, false] rfl rfl (by kernel_rfl) (fun _ _ _ h => h) (Or.inl ⟨rfl, ?hy1_3⟩) ?ha1_3 ?rest1_3
    case hy1_3 => intro w; first | (go_simp; done) | (go_simp; with_reducible rfl) | (go_simp; rfl)
    case ha1_3 => go_simp; rfl
    refine pure_ (i := 5) (a' := ?a1_4) (v := .slice A3 n3 c3) #[true, false, true, true, false, true, false, false, false, false, false, false, false, false, false, false, false, false, false, false, false, false] rfl rfl (by kernel_rfl) (fun _ _ _ h => h) (Or.inl ⟨rfl, ?hy1_4⟩) ?ha1_4 ?rest1_4
    case hy1_4 => intro w; first | (go_simp; done) | (go_simp; with_reducible rfl) | (go_simp; rfl)
    case ha1_4 => go_simp; rfl
    refine take_ (i := 6) (a' := ?a1_5) (v := .string s1) #[true, false, true, true, false, true, true, false, false, false, false, false, false, false, false, false, false, false, false, false, false, false] rfl rfl (by kernel_rfl) (fun _ _ _ h => h) (yields_cell rfl (fun w h => by have hcv := (Hs1.out ▸ Kd.C_string Tryd.underlying27 Tryd.underlying5 Tryd.underlying9 (Kd.C_below HC34.out h.out.2) : (convert 27 9 (.slice A3 n3 c3)).run Tryd.prog w = .ok (.string s1) w); (first | (go_simp; done) | (go_simp; with_reducible rfl) | (go_simp; rfl)))) hS_ ?ha1_5 ?rest1_5
    case ha1_5 => go_simp; rfl
    refine pure_ (i := 7) (a' := ?a1_6) (v := .slice (some ⟨g5, 0, none⟩) 32 32) #[true, false, true, true, false, true, true, true, false, false, false, false, false, false, false, false, false, false, false, false, false, false] rfl rfl (by kernel_rfl) (fun _ _ _ h => h) (Or.inl ⟨rfl, ?hy1_6⟩) ?ha1_6 ?rest1_6
    case hy1_6 => intro w; first | (go_simp; done) | (go_simp; with_reducible rfl) | (go_simp; rfl)
    case ha1_6 => go_simp; rfl
    refine take_ (i := 8) (a' := ?a1_7) (v := .string s2) #[true, false, true, true, false, true, true, true, true, false, false, false, false, false, false, false, false, false, false, false, false, false] rfl rfl (by kernel_rfl) (fun _ _ _ h => h) (yields_cell rfl (fun w h => by have hcv := (Hs2.out ▸ Kd.C_string Tryd.underlying27 Tryd.underlying5 Tryd.underlying9 (row_read (S := fun _ => False) h.out.1 (fun h => h) Hl.out (by decide)).now : (convert 27 9 (.slice (some ⟨g5, 0, none⟩) 32 32)).run Tryd.prog w = .ok (.string s2) w); (first | (go_simp; done) | (go_simp; with_reducible rfl) | (go_simp; rfl)))) hS_ ?ha1_7 ?rest1_7
    case ha1_7 => go_simp; rfl
    refine pure_ (i := 9) (a' := ?a1_8) (v := .bool F) #[true, false, true, true, false, true, true, true, true, true, false, false, false, false, false, false, false, false, false, false, false, false] rfl rfl (by kernel_rfl) (fun _ _ _ h => h) (Or.inl ⟨rfl, ?hy1_8⟩) ?ha1_8 ?rest1_8
    case hy1_8 => intro w; first | (go_simp; done) | (go_simp; with_reducible rfl) | (go_simp; rfl)
    case ha1_8 => go_simp; rfl
    refine one_ (i := 1) #[true, true, true, true, false, true, true, true, true, true, false, false, false, false, false, false, false, false, false, false, false, false] rfl rfl (by kernel_rfl) (by decide) ?_
    intro K_ hK_
    unfold Shut at hK_
    refine goes_ Tryd.func34 (by kernel_rfl) (by kernel_rfl) #[.slice A n c] rfl rfl rfl (by go_simp) ?_; refine (make_any _ (HT4.out.below hS_.out.2) (Kd.C_below HC4.out hS_.out.2) hc Hby.out (by have := Hm.out; omega)).mono ?_; rintro e w6 ⟨g, rfl, hk, hg, hb6⟩; have hS2 := hS_.next hb6; have HK := Aside0.mk hk; clear hk hg hb6; refine ⟨_, rfl, hK_ _ _ hS2 (fun hS_ => ?_)⟩; clear hK_ hS2
    refine norm_ (a' := ?a1_10n) ?ha1_10n ?rest1_10n
    case ha1_10n => go_simp; rfl
    refine one_ (i := 4) #[true, true, true, true, true, true, true, true, true, true, false, false, false, false, false, false, false, false, false, false, false, false] rfl rfl (by kernel_rfl) (by decide) ?_
    intro K_ hK_
    unfold Shut at hK_
    refine goes_ Tryd.func37 (by kernel_rfl) (by kernel_rfl) #[.pointer (some ⟨g, 0, none⟩), .slice A3 n3 c3, .slice A2 n2 c2] rfl rfl rfl (by go_simp) ?_; refine (fits_any _ (HT4.out.below hS_.out.2) HK.out (kbl_length _) (kbl_byt Hby.out) (Kd.C_below HC34.out hS_.out.2) hc3 Hby3.out (HR4.out.move hS_.out.2) Hbp.out Hmp.out).mono ?_; rintro e w7 ⟨rfl, hb6⟩; rw [Hbk.out, ← HF.out]; have hS2 := hS_.next hb6; clear hb6; refine ⟨_, rfl, hK_ _ _ hS2 (fun hS_ => ?_)⟩; clear hK_ hS2
    refine norm_ (a' := ?a1_12n) ?ha1_12n ?rest1_12n
    case ha1_12n => go_simp; rfl
    refine pure_ (i := 10) (a' := ?a1_13) (v := .bool true) #[true, true, true, true, true, true, true, true, true, true, true, false, false, false, false, false, false, false, false, false, false, false] rfl rfl (by kernel_rfl) (fun _ _ _ h => h) (Or.inl ⟨rfl, ?hy1_13⟩) ?ha1_13 ?rest1_13
    case hy1_13 => intro w; first | (go_simp; done) | (go_simp; with_reducible rfl) | (go_simp; rfl)
    case ha1_13 => go_simp; rfl
    refine pure_ (i := 11) (a' := ?a1_14) (v := .bool true) #[true, true, true, true, true, true, true, true, true, true, true, true, false, false, false, false, false, false, false, false, false, false] rfl rfl (by kernel_rfl) (fun _ _ _ h => h) (Or.inl ⟨rfl, ?hy1_14⟩) ?ha1_14 ?rest1_14
    case hy1_14 => intro w; first | (go_simp; done) | (go_simp; with_reducible rfl) | (go_simp; rfl)
    case ha1_14 => go_simp; rfl
    refine pure_ (i := 12) (a' := ?a1_15) (v := .pointer none) #[true, true, true, true, true, true, true, true, true, true, true, true, true, false, false, false, false, false, false, false, false, false] rfl rfl (by kernel_rfl) (fun _ _ _ h => h) (Or.inl ⟨rfl, ?hy1_15⟩) ?ha1_15 ?rest1_15
    case hy1_15 => intro w; first | (go_simp; done) | (go_simp; with_reducible rfl) | (go_simp; rfl)
    case ha1_15 => go_simp; rfl
    refine pure_ (i := 13) (a' := ?a1_16) (v := .slice A3 n3 c3) #[true, true, true, true, true, true, true, true, true, true, true, true, true, true, false, false, false, false, false, false, false, false] rfl rfl (by kernel_rfl) (fun _ _ _ h => h) (Or.inl ⟨rfl, ?hy1_16⟩) ?ha1_16 ?rest1_16
    case hy1_16 => intro w; first | (go_simp; done) | (go_simp; with_reducible rfl) | (go_simp; rfl)
    case ha1_16 => go_simp; rfl
    refine pure_ (i := 14) (a' := ?a1_17) (v := .slice A2 n2 c2) #[true, true, true, true, true, true, true, true, true, true, true, true, true, true, true, false, false, false, false, false, false, false] rfl rfl (by kernel_rfl) (fun _ _ _ h => h) (Or.inl ⟨rfl, ?hy1_17⟩) ?ha1_17 ?rest1_17
    case hy1_17 => intro w; first | (go_simp; done) | (go_simp; with_reducible rfl) | (go_simp; rfl)
    case ha1_17 => go_simp; rfl
    refine one_ (i := 15) #[true, true, true, true, true, true, true, true, true, true, true, true, true, true, true, true, false, false, false, false, false, false] rfl rfl (by kernel_rfl) (by decide) ?_
    intro K_ hK_
    unfold Shut at hK_
    refine goes_ Tryd.func37 (by kernel_rfl) (by kernel_rfl) #[.pointer none, .slice A3 n3 c3, .slice A2 n2 c2] rfl rfl rfl (by go_simp) ?_; refine (fits_nil _).mono ?_; rintro e w8 ⟨rfl, hb6⟩; have hS2 := hS_.next hb6; clear hb6; refine ⟨_, rfl, hK_ _ _ hS2 (fun hS_ => ?_)⟩; clear hK_ hS2
    refine norm_ (a' := ?a1_19n) ?ha1_19n ?rest1_19n
    case ha1_19n => go_simp; rfl
    refine pure_ (i := 16) (a' := ?a1_20) (v := .bool true) #[true, true, true, true, true, true, true, true, true, true, true, true, true, true, true, true, true, false, false, false, false, false] rfl rfl (by kernel_rfl) (fun _ _ _ h => h) (Or.inl ⟨rfl, ?hy1_20⟩) ?ha1_20 ?rest1_20
    case hy1_20 => intro w; first | (go_simp; done) | (go_simp; with_reducible rfl) | (go_simp; rfl)
    case ha1_20 => go_simp; rfl
    refine pure_ (i := 17) (a' := ?a1_21) (v := .bool true) #[true, true, true, true, true, true, true, true, true, true, true, true, true, true, true, true, true, true, false, false, false, false] rfl rfl (by kernel_rfl) (fun _ _ _ h => h) (Or.inl ⟨rfl, ?hy1_21⟩) ?ha1_21 ?rest1_21
    case hy1_21 => intro w; first | (go_simp; done) | (go_simp; with_reducible rfl) | (go_simp; rfl)
    case ha1_21 => go_simp; rfl
    refine pure_ (i := 18) (a' := ?a1_22) (v := .bool true) #[true, true, true, true, true, true, true, true, true, true, true, true, true, true, true, true, true, true, true, false, false, false] rfl rfl (by kernel_rfl) (fun _ _ _ h => h) (Or.inl ⟨rfl, ?hy1_22⟩) ?ha1_22 ?rest1_22
    case hy1_22 => intro w; first | (go_simp; done) | (go_simp; with_reducible rfl) | (go_simp; rfl)
    case ha1_22 => go_simp; rfl
    refine one_ (i := 19) #[true, true, true, true, true, true, true, true, true, true, true, true, true, true, true, true, true, true, true, true, false, false] rfl rfl (by kernel_rfl) (by decide) ?_
    intro K_ hK_
    unfold Shut at hK_
    refine goes_ Tryd.func36 (by kernel_rfl) (by kernel_rfl) #[] rfl rfl rfl (by go_simp) ?_; refine (awake03_any _ (HT4.out.below hS_.out.2)).mono ?_; rintro e w9 ⟨rfl, hb6⟩; have hS2 := hS_.next hb6; clear hb6; refine ⟨_, rfl, hK_ _ _ hS2 (fun hS_ => ?_)⟩; clear hK_ hS2
    refine norm_ (a' := ?a1_24n) ?ha1_24n ?rest1_24n
    case ha1_24n => go_simp; rfl
    refine pure_ (i := 20) (a' := ?a1_25) (v := .bool true) #[true, true, true, true, true, true, true, true, true, true, true, true, true, true, true, true, true, true, true, true, true, false] rfl rfl (by kernel_rfl) (fun _ _ _ h => h) (Or.inl ⟨rfl, ?hy1_25⟩) ?ha1_25 ?rest1_25
    case hy1_25 => intro w; first | (go_simp; done) | (go_simp; with_reducible rfl) | (go_simp; rfl)
    case ha1_25 => go_simp; rfl
    refine pure_ (i := 21) (a' := ?a1_26) (v := .bool true) #[true, true, true, true, true, true, true, true, true, true, true, true, true, true, true, true, true, true, true, true, true, true] rfl rfl (by kernel_rfl) (fun _ _ _ h => h) (Or.inl ⟨rfl, ?hy1_26⟩) ?ha1_26 ?rest1_26
    case hy1_26 => intro w; first | (go_simp; done) | (go_simp; with_reducible rfl) | (go_simp; rfl)
    case ha1_26 => go_simp; rfl
    refine done_ (by kernel_rfl) ?_
    have HBf := Aside0.mk (HB4.out.trans (hS_.out.2.mono HB4.out.size))
    go_wp2_with fail
    go_ret
    exact ⟨rfl, HBf.out⟩
end Go.Proofs.YtpigkgnmegpddaaDoor.Sh
