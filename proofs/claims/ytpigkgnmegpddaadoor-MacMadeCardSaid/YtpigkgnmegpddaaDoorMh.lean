/-
MacTags, walked.
-/
import Derived.Test.YtpigkgnmegpddaaDoorMe
namespace Go.Proofs.YtpigkgnmegpddaaDoor.Sh
set_option linter.unusedVariables false
set_option linter.unusedSimpArgs false
open Go.RowKit Go.Proofs.YtpigkgnmegpddaaDoorW.PrintWords Go.Proofs.YtpigkgnmegpddaaDoorW.PrintLast Go.Proofs.YtpigkgnmegpddaaDoorW.PrintMore

/-- What a region of calls keeps: one row of bytes, and all that is older. -/
def Sreg (w0 : World) (g : Nat) (bs : List Int) (W : World) : Prop := Aside0 (B8 W g 30 bs ∧ Below w0.heap.size w0 W)
theorem Sreg.next {w0 W W' : World} {g : Nat} {bs : List Int} (h : Sreg w0 g bs W) (hb : Below W.heap.size W W') : Sreg w0 g bs W' := ⟨blk_below h.out.1 hb, below_step h.out.2 hb⟩
theorem Sreg.load {w0 W : World} {g : Nat} {bs : List Int} (h : Sreg w0 g bs W) : W.rangeAt g 0 (v8 bs).toList := range_block h.out.1 _ ⟨[], by rw [List.append_nil]⟩
set_option maxRecDepth 100000 in
set_option maxHeartbeats 4000000 in
theorem tags_law {A A2 : Option Addr} {n c n2 c2 : Nat} {key : List Int} {ps : List (List Int)} (w : World) (hT : Tab w) (hC : (Kd.int .u8).C w A n key) (hc : n ≤ c) (hby : Byt key) (hC2 : (Kd.slice 5 (Kd.int .u8)).C w A2 n2 ps) (hc2 : n2 ≤ c2) (hby2 : ∀ p ∈ ps, Byt p) :
    Calls Tryd.prog 8 #[.slice A n c, .slice A2 n2 c2] w fun e w' => e = .returned (.bool true) ∧ Below w.heap.size w w' := by
  have hu30 := Tryd.underlying30
  have hg30 := guard30
  have HT := Aside0.mk hT
  have H := Aside0.mk hC
  have HP := Aside0.mk (show (Kd.slice 27 (Kd.int .u8)).C w A2 n2 ps from hC2)
  have Hby := Aside0.mk hby
  have Hbp := Aside0.mk hby2
  have Hn := Aside0.mk hC.1
  have hnm := hC.2.1
  have hnm2 := hC2.2.1
  clear hT hC hby hC2 hby2
  by_cases h200 : 200 < n
  · go_enter Tryd.func8, Tryd.ntmps8
    go_wp2_with fail
    go_ret
    exact ⟨rfl, Below.refl _ _⟩
  have Hm : Aside0 (key.length ≤ 1000000) := ⟨by rw [Hn.out]; omega⟩
  obtain ⟨F, hF⟩ : ∃ F, F = fewB 12 ps := ⟨_, rfl⟩
  have HF := Aside0.mk hF
  clear hF
  cases F with
  | false =>
    go_enter Tryd.func8, Tryd.ntmps8
    go_wp2_with fail
    refine (few12_any _ HP.out).mono ?_
    rintro e w' ⟨rfl, rfl⟩
    rw [← HF.out]
    clear HF
    go_wp2_with fail
    go_ret
    exact ⟨rfl, Below.refl _ _⟩
  | true =>
    have Hmp : Aside0 ((ps.map List.length).sum ≤ 1000000) := ⟨by have := fewB_sum HF.out.symm; omega⟩
    have HR : Aside0 (Rp (fun _ => False) w A2 n2 ps) := ⟨Rp.came HP.out (Below.refl _ _) (fun _ hk => hk.elim)⟩
    go_enter Tryd.func8, Tryd.ntmps8
    go_wp2_with fail
    refine (few12_any _ HP.out).mono ?_
    rintro e w' ⟨rfl, rfl⟩
    rw [← HF.out]
    clear HF
    go_wp2_with fail
    refine (all_any _ HP.out Hmp.out).mono ?_
    rintro e w1 ⟨v1, rfl, ho, hb1⟩
    have HO1 := Aside0.mk ho
    have HB1 := Aside0.mk hb1
    clear ho hb1
    obtain ⟨A3, c3, rfl⟩ := Kd.R_slice HO1.out
    obtain ⟨M, hM⟩ : ∃ M, M = ps.flatten.length := ⟨_, rfl⟩
    rw [← hM]
    have HM := Aside0.mk hM
    clear hM
    go_wp2_with fail
    refine (reftag_any (msg := ps.flatten) (n2 := M) _ (Kd.C_below H.out HB1.out) hc Hby.out Hm.out (by rw [HM.out]; exact (Kd.R_reads' HO1.out).2.2) (fun x hx => by obtain ⟨p, hp, hxp⟩ := List.mem_flatten.1 hx; exact Hbp.out p hp x hxp) (by rw [HM.out, List.length_flatten]; exact Hmp.out)).mono ?_
    rintro e w2 ⟨rfl, hb2⟩
    obtain ⟨bs, hbs⟩ : ∃ bs, bs = tag key ps.flatten := ⟨_, rfl⟩
    have Hl : Aside0 (bs.length = 32) := ⟨by rw [hbs]; rfl⟩
    have Hlb : Aside0 (Byt bs) := ⟨by rw [hbs]; exact tag_byt _ _⟩
    have Hbs := Aside0.mk hbs
    have Hbk : Aside0 (tagk (kbl key) ps.flatten = bs) := ⟨hbs.symm⟩
    have heq := fun w => heq30 (bs := bs) (by rw [hbs]; rfl) w
    have heq0 := eq30_zero
    rw [← hbs]
    have HB2 := Aside0.mk (below_step HB1.out hb2)
    clear hbs hb2 HB1 HO1
    go_wp2_with (first | ((with_reducible refine gate_dst (N := 5) rfl ?_); refine box_event ?hg (N := 5) ?hd (cs := v8 (List.replicate 32 0)) (t := 30) ?hr ?_; (case hd => rfl); (case hg => rfl); (case hr => first | (go_simp; done) | (go_simp; rfl)); intro g5 hg_ w3 hbox_ hb_; have H3 := Aside0.mk hbox_; have HB3 := Aside0.mk (below_step HB2.out hb_); have Hg5 := Aside0.mk (show w.heap.size ≤ g5 from by rw [hg_]; exact HB2.out.size);clear hg_ hbox_ hb_) | ((with_reducible refine gate_store (t := 30) (p := 5) rfl ?_); refine store_row ?hg (ty := 30) (p := 5) (v := ?vr_1) ?ho ?hd (g := g5) (t := 30) (old := v8 (List.replicate 32 0)) (cells := v8 bs) ?hx ?hy H3.out (size30 Hl.out) (by rw [v8_size, v8_size, Hl.out, List.length_replicate]) (v8_one _) ?_; (case hd => rfl); (case hg => rfl); (case ho => rfl); (case hx => rfl); (case hy => rfl); intro w4 hbox_ hk_ hb_; have H4 := Aside0.mk (show B8 w4 g5 30 bs from hbox_); have HB4 := Aside0.mk (HB3.out.trans (hb_.mono Hg5.out));clear hbox_ hk_ hb_))
    clear H3 HB3 HB2
    have HT4 := Aside0.mk (HT.out.below HB4.out)
    have HC4 := Aside0.mk (Kd.C_below H.out HB4.out)
    have HR4 := Aside0.mk (HR.out.move HB4.out)
    have hS : Sreg w4 g5 bs w4.drew := ⟨H4.out, below_drew (Below.refl _ _)⟩
    refine start_ (S := Sreg w4 g5 bs) (ds := []) #[false, false, false, false, false, false, false, false, false, false, false, false, false, false, false, false, false, false, false, false, false, false, false, false] (by kernel_rfl) rfl rfl hS ?_
    intro hS_
    refine pure_ (i := 0) (a' := ?a1_1) (v := .slice A n c) #[true, false, false, false, false, false, false, false, false, false, false, false, false, false, false, false, false, false, false, false, false, false, false, false] rfl rfl (by kernel_rfl) (fun _ _ _ h => h) (Or.inl ⟨rfl, ?hy1_1⟩) ?ha1_1 ?rest1_1
    case hy1_1 => intro w; first | (go_simp; done) | (go_simp; with_reducible rfl) | (go_simp; rfl)
    case ha1_1 => go_simp; rfl
    refine pure_ (i := 1) (a' := ?a1_2) (v := .slice A2 n2 c2) #[true, true, false, false, false, false, false, false, false, false, false, false, false, false, false, false, false, false, false, false, false, false, false, false] rfl rfl (by kernel_rfl) (fun _ _ _ h => h) (Or.inl ⟨rfl, ?hy1_2⟩) ?ha1_2 ?rest1_2
    case hy1_2 => intro w; first | (go_simp; done) | (go_simp; with_reducible rfl) | (go_simp; rfl)
    case ha1_2 => go_simp; rfl
    refine take_ (i := 3) (a' := ?a1_3) (v := .agg (v8 bs)) #[true, true, false, true, false, false, false, false, false, false, false, false, false, false, false, false, false, false, false, false, false, false, false, false] rfl rfl (by kernel_rfl) (fun _ _ _ h => h) (yields_row rfl 30 (.tmp 5) rfl g5 0 rfl (v8 bs) _ (fun w h => h.load) hu30 rfl (size30 Hl.out)) hS_ ?ha1_3 ?rest1_3
    case ha1_3 => go_simp; rfl
    refine one_ (i := 2) #[true, true, true, true, false, false, false, false, false, false, false, false, false, false, false, false, false, false, false, false, false, false, false, false] rfl rfl (by kernel_rfl) (by decide) ?_
    intro K_ hK_
    unfold Shut at hK_
    refine goes_ Tryd.func33 (by kernel_rfl) (by kernel_rfl) #[.slice A n c, .slice A2 n2 c2] rfl rfl rfl (by go_simp) ?_; refine (tag_any _ (HT4.out.below hS_.out.2) (Kd.C_below HC4.out hS_.out.2) hc Hby.out Hm.out (HR4.out.move hS_.out.2) Hbp.out Hmp.out).mono ?_; rintro e w5 ⟨rfl, hb6⟩; rw [← Hbs.out]; have hS2 := hS_.next hb6; clear hb6; refine ⟨_, rfl, hK_ _ _ hS2 (fun hS_ => ?_)⟩; clear hK_ hS2
    refine norm_ (a' := ?a1_5n) ?ha1_5n ?rest1_5n
    case ha1_5n => go_simp; rfl
    refine pure_ (i := 4) (a' := ?a1_6) (v := .bool true) #[true, true, true, true, true, false, false, false, false, false, false, false, false, false, false, false, false, false, false, false, false, false, false, false] rfl rfl (by kernel_rfl) (fun _ _ _ h => h) (Or.inl ⟨rfl, ?hy1_6⟩) ?ha1_6 ?rest1_6
    case hy1_6 => intro w; first | (go_simp; done) | (go_simp; with_reducible rfl) | (go_simp; rfl)
    case ha1_6 => go_simp; rfl
    refine pure_ (i := 5) (a' := ?a1_7) (v := .bool true) #[true, true, true, true, true, true, false, false, false, false, false, false, false, false, false, false, false, false, false, false, false, false, false, false] rfl rfl (by kernel_rfl) (fun _ _ _ h => h) (Or.inl ⟨rfl, ?hy1_7⟩) ?ha1_7 ?rest1_7
    case hy1_7 => intro w; first | (go_simp; done) | (go_simp; with_reducible rfl) | (go_simp; rfl)
    case ha1_7 => go_simp; rfl
    refine pure_ (i := 6) (a' := ?a1_8) (v := .slice A n c) #[true, true, true, true, true, true, true, false, false, false, false, false, false, false, false, false, false, false, false, false, false, false, false, false] rfl rfl (by kernel_rfl) (fun _ _ _ h => h) (Or.inl ⟨rfl, ?hy1_8⟩) ?ha1_8 ?rest1_8
    case hy1_8 => intro w; first | (go_simp; done) | (go_simp; with_reducible rfl) | (go_simp; rfl)
    case ha1_8 => go_simp; rfl
    refine pure_ (i := 8) (a' := ?a1_9) (v := .slice A2 n2 c2) #[true, true, true, true, true, true, true, false, true, false, false, false, false, false, false, false, false, false, false, false, false, false, false, false] rfl rfl (by kernel_rfl) (fun _ _ _ h => h) (Or.inl ⟨rfl, ?hy1_9⟩) ?ha1_9 ?rest1_9
    case hy1_9 => intro w; first | (go_simp; done) | (go_simp; with_reducible rfl) | (go_simp; rfl)
    case ha1_9 => go_simp; rfl
    refine take_ (i := 10) (a' := ?a1_10) (v := .agg (v8 bs)) #[true, true, true, true, true, true, true, false, true, false, true, false, false, false, false, false, false, false, false, false, false, false, false, false] rfl rfl (by kernel_rfl) (fun _ _ _ h => h) (yields_row rfl 30 (.tmp 5) rfl g5 0 rfl (v8 bs) _ (fun w h => h.load) hu30 rfl (size30 Hl.out)) hS_ ?ha1_10 ?rest1_10
    case ha1_10 => go_simp; rfl
    refine one_ (i := 7) #[true, true, true, true, true, true, true, true, true, false, true, false, false, false, false, false, false, false, false, false, false, false, false, false] rfl rfl (by kernel_rfl) (by decide) ?_
    intro K_ hK_
    unfold Shut at hK_
    refine goes_ Tryd.func34 (by kernel_rfl) (by kernel_rfl) #[.slice A n c] rfl rfl rfl (by go_simp) ?_; refine (make_any _ (HT4.out.below hS_.out.2) (Kd.C_below HC4.out hS_.out.2) hc Hby.out (by have := Hm.out; omega)).mono ?_; rintro e w6 ⟨g, rfl, hk, hg, hb6⟩; have hS2 := hS_.next hb6; have HK := Aside0.mk hk; clear hk hg hb6; refine ⟨_, rfl, hK_ _ _ hS2 (fun hS_ => ?_)⟩; clear hK_ hS2
    refine norm_ (a' := ?a1_12n) ?ha1_12n ?rest1_12n
    case ha1_12n => go_simp; rfl
    refine one_ (i := 9) #[true, true, true, true, true, true, true, true, true, true, true, false, false, false, false, false, false, false, false, false, false, false, false, false] rfl rfl (by kernel_rfl) (by decide) ?_
    intro K_ hK_
    unfold Shut at hK_
    refine goes_ Tryd.func35 (by kernel_rfl) (by kernel_rfl) #[.pointer (some ⟨g, 0, none⟩), .slice A2 n2 c2] rfl rfl rfl (by go_simp) ?_; refine (ktag_any _ (HT4.out.below hS_.out.2) HK.out (kbl_length _) (kbl_byt Hby.out) (HR4.out.move hS_.out.2) Hbp.out Hmp.out).mono ?_; rintro e w7 ⟨rfl, hb6⟩; rw [Hbk.out]; have hS2 := hS_.next hb6; clear hb6; refine ⟨_, rfl, hK_ _ _ hS2 (fun hS_ => ?_)⟩; clear hK_ hS2
    refine norm_ (a' := ?a1_14n) ?ha1_14n ?rest1_14n
    case ha1_14n => go_simp; rfl
    refine pure_ (i := 11) (a' := ?a1_15) (v := .bool true) #[true, true, true, true, true, true, true, true, true, true, true, true, false, false, false, false, false, false, false, false, false, false, false, false] rfl rfl (by kernel_rfl) (fun _ _ _ h => h) (Or.inl ⟨rfl, ?hy1_15⟩) ?ha1_15 ?rest1_15
    case hy1_15 => intro w; first | (go_simp; done) | (go_simp; with_reducible rfl) | (go_simp; rfl)
    case ha1_15 => go_simp; rfl
    refine pure_ (i := 12) (a' := ?a1_16) (v := .bool true) #[true, true, true, true, true, true, true, true, true, true, true, true, true, false, false, false, false, false, false, false, false, false, false, false] rfl rfl (by kernel_rfl) (fun _ _ _ h => h) (Or.inl ⟨rfl, ?hy1_16⟩) ?ha1_16 ?rest1_16
    case hy1_16 => intro w; first | (go_simp; done) | (go_simp; with_reducible rfl) | (go_simp; rfl)
    case ha1_16 => go_simp; rfl
    refine pure_ (i := 13) (a' := ?a1_17) (v := .bool true) #[true, true, true, true, true, true, true, true, true, true, true, true, true, true, false, false, false, false, false, false, false, false, false, false] rfl rfl (by kernel_rfl) (fun _ _ _ h => h) (Or.inl ⟨rfl, ?hy1_17⟩) ?ha1_17 ?rest1_17
    case hy1_17 => intro w; first | (go_simp; done) | (go_simp; with_reducible rfl) | (go_simp; rfl)
    case ha1_17 => go_simp; rfl
    refine pure_ (i := 14) (a' := ?a1_18) (v := .pointer none) #[true, true, true, true, true, true, true, true, true, true, true, true, true, true, true, false, false, false, false, false, false, false, false, false] rfl rfl (by kernel_rfl) (fun _ _ _ h => h) (Or.inl ⟨rfl, ?hy1_18⟩) ?ha1_18 ?rest1_18
    case hy1_18 => intro w; first | (go_simp; done) | (go_simp; with_reducible rfl) | (go_simp; rfl)
    case ha1_18 => go_simp; rfl
    refine pure_ (i := 15) (a' := ?a1_19) (v := .slice A2 n2 c2) #[true, true, true, true, true, true, true, true, true, true, true, true, true, true, true, true, false, false, false, false, false, false, false, false] rfl rfl (by kernel_rfl) (fun _ _ _ h => h) (Or.inl ⟨rfl, ?hy1_19⟩) ?ha1_19 ?rest1_19
    case hy1_19 => intro w; first | (go_simp; done) | (go_simp; with_reducible rfl) | (go_simp; rfl)
    case ha1_19 => go_simp; rfl
    refine pure_ (i := 17) (a' := ?a1_20) (v := .agg #[.int .u8 0, .int .u8 0, .int .u8 0, .int .u8 0, .int .u8 0, .int .u8 0, .int .u8 0, .int .u8 0, .int .u8 0, .int .u8 0, .int .u8 0, .int .u8 0, .int .u8 0, .int .u8 0, .int .u8 0, .int .u8 0, .int .u8 0, .int .u8 0, .int .u8 0, .int .u8 0, .int .u8 0, .int .u8 0, .int .u8 0, .int .u8 0, .int .u8 0, .int .u8 0, .int .u8 0, .int .u8 0, .int .u8 0, .int .u8 0, .int .u8 0, .int .u8 0]) #[true, true, true, true, true, true, true, true, true, true, true, true, true, true, true, true, false, true, false, false, false, false, false, false] rfl rfl (by kernel_rfl) (fun _ _ _ h => h) (Or.inl ⟨rfl, ?hy1_20⟩) ?ha1_20 ?rest1_20
    case hy1_20 => intro w; first | (go_simp; done) | (go_simp; with_reducible rfl) | (go_simp; rfl)
    case ha1_20 => go_simp; rfl
    refine one_ (i := 16) #[true, true, true, true, true, true, true, true, true, true, true, true, true, true, true, true, true, true, false, false, false, false, false, false] rfl rfl (by kernel_rfl) (by decide) ?_
    intro K_ hK_
    unfold Shut at hK_
    refine goes_ Tryd.func35 (by kernel_rfl) (by kernel_rfl) #[.pointer none, .slice A2 n2 c2] rfl rfl rfl (by go_simp) ?_; refine (ktag_nil _).mono ?_; rintro e w8 ⟨rfl, hb6⟩; have hS2 := hS_.next hb6; clear hb6; refine ⟨_, rfl, hK_ _ _ hS2 (fun hS_ => ?_)⟩; clear hK_ hS2
    refine norm_ (a' := ?a1_22n) ?ha1_22n ?rest1_22n
    case ha1_22n => go_simp; rfl
    refine pure_ (i := 18) (a' := ?a1_23) (v := .bool true) #[true, true, true, true, true, true, true, true, true, true, true, true, true, true, true, true, true, true, true, false, false, false, false, false] rfl rfl (by kernel_rfl) (fun _ _ _ h => h) (Or.inl ⟨rfl, ?hy1_23⟩) ?ha1_23 ?rest1_23
    case hy1_23 => intro w; first | (go_simp; done) | (go_simp; with_reducible rfl) | (go_simp; rfl)
    case ha1_23 => go_simp; rfl
    refine pure_ (i := 19) (a' := ?a1_24) (v := .bool true) #[true, true, true, true, true, true, true, true, true, true, true, true, true, true, true, true, true, true, true, true, false, false, false, false] rfl rfl (by kernel_rfl) (fun _ _ _ h => h) (Or.inl ⟨rfl, ?hy1_24⟩) ?ha1_24 ?rest1_24
    case hy1_24 => intro w; first | (go_simp; done) | (go_simp; with_reducible rfl) | (go_simp; rfl)
    case ha1_24 => go_simp; rfl
    refine pure_ (i := 20) (a' := ?a1_25) (v := .bool true) #[true, true, true, true, true, true, true, true, true, true, true, true, true, true, true, true, true, true, true, true, true, false, false, false] rfl rfl (by kernel_rfl) (fun _ _ _ h => h) (Or.inl ⟨rfl, ?hy1_25⟩) ?ha1_25 ?rest1_25
    case hy1_25 => intro w; first | (go_simp; done) | (go_simp; with_reducible rfl) | (go_simp; rfl)
    case ha1_25 => go_simp; rfl
    refine one_ (i := 21) #[true, true, true, true, true, true, true, true, true, true, true, true, true, true, true, true, true, true, true, true, true, true, false, false] rfl rfl (by kernel_rfl) (by decide) ?_
    intro K_ hK_
    unfold Shut at hK_
    refine goes_ Tryd.func36 (by kernel_rfl) (by kernel_rfl) #[] rfl rfl rfl (by go_simp) ?_; refine (awake03_any _ (HT4.out.below hS_.out.2)).mono ?_; rintro e w9 ⟨rfl, hb6⟩; have hS2 := hS_.next hb6; clear hb6; refine ⟨_, rfl, hK_ _ _ hS2 (fun hS_ => ?_)⟩; clear hK_ hS2
    refine norm_ (a' := ?a1_27n) ?ha1_27n ?rest1_27n
    case ha1_27n => go_simp; rfl
    refine pure_ (i := 22) (a' := ?a1_28) (v := .bool true) #[true, true, true, true, true, true, true, true, true, true, true, true, true, true, true, true, true, true, true, true, true, true, true, false] rfl rfl (by kernel_rfl) (fun _ _ _ h => h) (Or.inl ⟨rfl, ?hy1_28⟩) ?ha1_28 ?rest1_28
    case hy1_28 => intro w; first | (go_simp; done) | (go_simp; with_reducible rfl) | (go_simp; rfl)
    case ha1_28 => go_simp; rfl
    refine pure_ (i := 23) (a' := ?a1_29) (v := .bool true) #[true, true, true, true, true, true, true, true, true, true, true, true, true, true, true, true, true, true, true, true, true, true, true, true] rfl rfl (by kernel_rfl) (fun _ _ _ h => h) (Or.inl ⟨rfl, ?hy1_29⟩) ?ha1_29 ?rest1_29
    case hy1_29 => intro w; first | (go_simp; done) | (go_simp; with_reducible rfl) | (go_simp; rfl)
    case ha1_29 => go_simp; rfl
    refine done_ (by kernel_rfl) ?_
    have HBf := Aside0.mk (HB4.out.trans (hS_.out.2.mono HB4.out.size))
    go_wp2_with fail
    go_ret
    exact ⟨rfl, HBf.out⟩
end Go.Proofs.YtpigkgnmegpddaaDoor.Sh
