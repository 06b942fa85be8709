/-
ref06.OpenToken, walked where the form is right.
-/
import Derived.Test.YtpigkgnmegpddaaDoorPu
namespace Go.Proofs.YtpigkgnmegpddaaDoor.Sh
set_option linter.unusedVariables false
set_option linter.unusedSimpArgs false
open Go.RowKit Go.Proofs.YtpigkgnmegpddaaDoorW.PrintWords Go.Proofs.YtpigkgnmegpddaaDoorW.PrintLast Go.Proofs.YtpigkgnmegpddaaDoorW.PrintMore

theorem byte_num {b : List Int} (hb : Byt b) (i : Nat) (h : i < b.length) : b.getD i 0 = ((numb ((b.drop i).take 1) : Nat) : Int) := by
  have h2 := hb _ (List.getElem_mem h)
  rw [List.drop_eq_getElem_cons h, List.take_succ_cons, List.take_zero, List.getD_eq_getElem?_getD, List.getElem?_eq_getElem h]
  show b[i] = ((0 * 256 + (b[i]).toNat : Nat) : Int)
  omega
set_option maxRecDepth 100000 in
set_option maxHeartbeats 16000000 in
theorem ref49_main {A : Option Addr} {n0 c0 : Nat} {key : List Int} {s : ByteArray} (w : World) (hC : (Kd.int .u8).C w A n0 key) (hc : n0 ≤ c0) (hby : Byt key) (hm : key.length ≤ 1000000) (h1 : s.size = 60) (h0 : bt s 0 = 106) :
    Calls Tryd.prog 49 #[.slice A n0 c0, .string s] w fun e w' => e = .returned (if strOfNums ((Tn.of (bytesOf s)).front ++ tag key (Tn.of (bytesOf s)).front) = s then .tuple #[.agg #[.int .u32 (Tn.of (bytesOf s)).p, .int .u32 (Tn.of (bytesOf s)).m, .int .u16 (Tn.of (bytesOf s)).i, .int .u8 (Tn.of (bytesOf s)).s, .int .i64 (Tn.of (bytesOf s)).e, .int .u64 (Tn.of (bytesOf s)).n], .int .i64 0] else .tuple #[.agg #[.int .u32 0, .int .u32 0, .int .u16 0, .int .u8 0, .int .i64 0, .int .u64 0], .int .i64 8]) ∧ Below w.heap.size w w' := by
  have hu56 := Tryd.underlying56
  have HC := Aside0.mk hC
  have Hx := Aside0.mk (And.intro hc (And.intro hby hm))
  clear hC hc hby hm
  have h00 : ((s[0]'(by omega)).toNat : Int) = bt s 0 := bt_at s 0 (by show (0 : Int).toNat < s.size; simp; omega)
  obtain ⟨x1, hx1⟩ : ∃ x, x = numb (((bytesOf s).drop 1).take 4) := ⟨_, rfl⟩
  obtain ⟨x2, hx2⟩ : ∃ x, x = numb (((bytesOf s).drop 5).take 4) := ⟨_, rfl⟩
  obtain ⟨x3, hx3⟩ : ∃ x, x = numb (((bytesOf s).drop 9).take 2) := ⟨_, rfl⟩
  obtain ⟨x5, hx5⟩ : ∃ x, x = numb (((bytesOf s).drop 12).take 8) := ⟨_, rfl⟩
  obtain ⟨x6, hx6⟩ : ∃ x, x = numb (((bytesOf s).drop 20).take 8) := ⟨_, rfl⟩
  obtain ⟨x4, hx4⟩ : ∃ x, x = numb (((bytesOf s).drop 11).take 1) := ⟨_, rfl⟩
  have Hxs := Aside0.mk (And.intro hx1 (And.intro hx2 (And.intro hx3 (And.intro hx4 (And.intro hx5 hx6)))))
  obtain ⟨e, he⟩ : ∃ e, e = sg x5 := ⟨_, rfl⟩
  have Hok := Aside0.mk (Tn.of_ok (bytesOf_byt s) (by rw [bytesOf_length]; omega))
  have Hw : Aside0 (IntKind.u32.wrap (x1 : Int) = (x1 : Int) ∧ IntKind.u32.wrap (x2 : Int) = (x2 : Int) ∧ IntKind.u16.wrap (x3 : Int) = (x3 : Int) ∧ IntKind.i64.wrap (x5 : Int) = e ∧ wrap64 (x5 : Int) = e) := ⟨by
    have g1 : x1 < 4294967296 := by rw [hx1]; exact Hok.out.1
    have g2 : x2 < 4294967296 := by rw [hx2]; exact Hok.out.2.1
    have g3 : x3 < 65536 := by rw [hx3]; exact Hok.out.2.2.1
    have h4 : x5 < 18446744073709551616 := by
      rw [hx5]
      refine Nat.lt_of_lt_of_le (numb_lt (((bytesOf_byt s).drop 12).take 8)) ?_
      rw [List.length_take]
      exact Nat.le_trans (Nat.pow_le_pow_right (n := 256) (by decide) (Nat.min_le_left 8 _)) (by decide)
    have h5 := wrap_sg h4
    exact ⟨by simp only [IntKind.wrap, IntKind.signed, IntKind.bits, Bool.false_and, Bool.false_eq_true, if_false]; omega, by simp only [IntKind.wrap, IntKind.signed, IntKind.bits, Bool.false_and, Bool.false_eq_true, if_false]; omega, by simp only [IntKind.wrap, IntKind.signed, IntKind.bits, Bool.false_and, Bool.false_eq_true, if_false]; omega, by rw [h5, he], by rw [← i64_w, h5, he]⟩⟩
  have He := Aside0.mk he
  clear he
  have hTk : Tn.of (bytesOf s) = ⟨x1, x2, x3, x4, e, x6⟩ := by rw [He.out, Hxs.out.1, Hxs.out.2.1, Hxs.out.2.2.1, Hxs.out.2.2.2.1, Hxs.out.2.2.2.2.1, Hxs.out.2.2.2.2.2]; rfl
  have HTk := Aside0.mk hTk
  have Hok3 : Aside0 (Tn.ok ⟨x1, x2, x3, x4, e, x6⟩) := ⟨by rw [← hTk]; exact Hok.out⟩
  rw [hTk]
  clear hTk
  obtain ⟨F, hF⟩ : ∃ F, F = strOfNums ((Tn.mk x1 x2 x3 x4 e x6).front ++ tag key (Tn.mk x1 x2 x3 x4 e x6).front) := ⟨_, rfl⟩
  have HF := Aside0.mk hF.symm
  rw [← hF]
  clear hF
  obtain ⟨R, hR⟩ : ∃ R : Value, R = (if F = s then .tuple #[.agg #[.int .u32 ((Tn.mk x1 x2 x3 x4 e x6).p : Nat), .int .u32 ((Tn.mk x1 x2 x3 x4 e x6).m : Nat), .int .u16 ((Tn.mk x1 x2 x3 x4 e x6).i : Nat), .int .u8 ((Tn.mk x1 x2 x3 x4 e x6).s : Nat), .int .i64 (Tn.mk x1 x2 x3 x4 e x6).e, .int .u64 ((Tn.mk x1 x2 x3 x4 e x6).n : Nat)], .int .i64 0] else .tuple #[.agg #[.int .u32 0, .int .u32 0, .int .u16 0, .int .u8 0, .int .i64 0, .int .u64 0], .int .i64 8]) := ⟨_, rfl⟩
  have HR := Aside0.mk hR
  rw [← hR]
  clear hR
  have HX1 : Aside0 (numb (((bytesOf s).drop 1).take 4) = x1) := ⟨hx1.symm⟩
  have HX2 : Aside0 (numb (((bytesOf s).drop 5).take 4) = x2) := ⟨hx2.symm⟩
  have HX3 : Aside0 (numb (((bytesOf s).drop 9).take 2) = x3) := ⟨hx3.symm⟩
  have HX4 : Aside0 (numb (((bytesOf s).drop 11).take 1) = x4) := ⟨hx4.symm⟩
  have HX5 : Aside0 (numb (((bytesOf s).drop 12).take 8) = x5) := ⟨hx5.symm⟩
  have HX6 : Aside0 (numb (((bytesOf s).drop 20).take 8) = x6) := ⟨hx6.symm⟩
  clear hx1 hx2 hx3 hx4 hx5 hx6
  go_enter Tryd.func49, Tryd.ntmps49
  go_wp2_with (first | ((with_reducible refine gate_dst (N := 4) rfl ?_); refine box_event ?hg (N := 4) ?hd (cs := #[.int .u32 0, .int .u32 0, .int .u16 0, .int .u8 0, .int .i64 0, .int .u64 0]) (t := 56) ?hr ?_; (case hd => rfl); (case hg => rfl); (case hr => first | (go_simp; done) | (go_simp; rfl)); intro g4 hg_ w1 hbox_ hb_; have H1 := Aside0.mk hbox_; have HB1 := Aside0.mk hb_; have Hg4 := Aside0.mk (show w.heap.size ≤ g4 from Nat.le_of_eq hg_.symm);clear hg_ hbox_ hb_) | ((with_reducible refine gate_dst (N := 18) rfl ?_); refine conv_bytes ?hg (N := 18) ?hd (.tmp 17) ?ho s ?hx (by omega) ?_; (case hg => rfl); (case hd => rfl); (case ho => rfl); (case hx => rfl); intro A6 c6 w2 hc_ hC_ hb_; have HC6 := Aside0.mk hC_; have hc6 := hc_; have HBw := Aside0.mk (below_step HB1.out hb_); have H2 := Aside0.mk (blk_below H1.out hb_); clear hc_ hC_ hb_))
  rw [h1] at hc6 HC6
  obtain ⟨ad, cc0, hA6, _, _, _⟩ := Kd.C_get HC6.out 0 11 (by decide) (by decide)
  subst hA6
  have hcut := fun l k hk => cut_bytes HC6.out hc6 l k hk
  obtain ⟨B1, hB1, hC1⟩ := hcut 1 4 (by decide)
  obtain ⟨B2, hB2, hC2⟩ := hcut 5 4 (by decide)
  obtain ⟨B3, hB3, hC3⟩ := hcut 9 2 (by decide)
  obtain ⟨B5, hB5, hC5⟩ := hcut 12 8 (by decide)
  obtain ⟨B6, hB6, hC6⟩ := hcut 20 8 (by decide)
  have HB1' := Aside0.mk (And.intro hC1 (And.intro (((bytesOf_byt s).drop 1).take 4) HX1.out))
  have HB2' := Aside0.mk (And.intro hC2 (And.intro (((bytesOf_byt s).drop 5).take 4) HX2.out))
  have HB3' := Aside0.mk (And.intro hC3 (And.intro (((bytesOf_byt s).drop 9).take 2) HX3.out))
  have HB5' := Aside0.mk (And.intro hC5 (And.intro (((bytesOf_byt s).drop 12).take 8) HX5.out))
  have HB6' := Aside0.mk (And.intro hC6 (And.intro (((bytesOf_byt s).drop 20).take 8) HX6.out))
  have HCELL : ∀ W : World, Below w2.heap.size w2 W → W.cell? (ad.add 11) = some (.int .u8 (x4 : Nat)) := fun W hW => by
    have hx := Kd.C_get (Kd.C_below HC6.out hW) 0 11 (by decide) (by decide)
    obtain ⟨ad1, c1, e1, _, hK1, hc1⟩ := hx
    injection e1 with e1
    subst e1
    have h2 := byte_num (bytesOf_byt s) 11 (by rw [bytesOf_length]; omega)
    rw [HX4.out] at h2
    have hc2 : c1 = [Value.int .u8 ((bytesOf s).getD 11 0)] := hK1
    subst hc2
    rw [← h2]
    exact hc1 0 _ rfl
  clear hC1 hC2 hC3 hC5 hC6 hcut
  have hS : (fun W : World => Aside0 (Below w2.heap.size w2 W)) w2.drew := ⟨below_drew (Below.refl _ _)⟩
  refine start_ (S := fun W : World => Aside0 (Below w2.heap.size w2 W)) (ds := []) #[false, false, false, false, false, false, false, false, false, false, false, false, false, false, false, false, false, false, false, false, false, false, false, false, false] (by kernel_rfl) rfl rfl hS ?_
  intro hS_
  refine pure_ (i := 0) (a' := ?at1) (v := .slice (some ad) 60 c6) #[true, false, false, false, false, false, false, false, false, false, false, false, false, false, false, false, false, false, false, false, false, false, false, false, false] rfl rfl (by kernel_rfl) (fun _ _ _ h => h) (Or.inl ⟨rfl, ?hyt1⟩) ?hat1 ?restt1
  case hyt1 => intro w; first | (go_simp; done) | (go_simp; with_reducible rfl) | (go_simp; rfl)
  case hat1 => go_simp; rfl
  refine pure_ (i := 1) (a' := ?at2) (v := .slice B1 4 (c6 - 1)) #[true, true, false, false, false, false, false, false, false, false, false, false, false, false, false, false, false, false, false, false, false, false, false, false, false] rfl rfl (by kernel_rfl) (fun _ _ _ h => h) ?hyt2 ?hat2 ?restt2
  case hyt2 => exact yields_cut rfl (.tmp 19) (.const (.int .i64 1)) (.const (.int .i64 5)) rfl rfl rfl rfl hB1
  case hat2 => go_simp; rfl
  refine pure_ (i := 4) (a' := ?at3) (v := .slice (some ad) 60 c6) #[true, true, false, false, true, false, false, false, false, false, false, false, false, false, false, false, false, false, false, false, false, false, false, false, false] rfl rfl (by kernel_rfl) (fun _ _ _ h => h) (Or.inl ⟨rfl, ?hyt3⟩) ?hat3 ?restt3
  case hyt3 => intro w; first | (go_simp; done) | (go_simp; with_reducible rfl) | (go_simp; rfl)
  case hat3 => go_simp; rfl
  refine pure_ (i := 5) (a' := ?at4) (v := .slice B2 4 (c6 - 5)) #[true, true, false, false, true, true, false, false, false, false, false, false, false, false, false, false, false, false, false, false, false, false, false, false, false] rfl rfl (by kernel_rfl) (fun _ _ _ h => h) ?hyt4 ?hat4 ?restt4
  case hyt4 => exact yields_cut rfl (.tmp 23) (.const (.int .i64 5)) (.const (.int .i64 9)) rfl rfl rfl rfl hB2
  case hat4 => go_simp; rfl
  refine pure_ (i := 8) (a' := ?at5) (v := .slice (some ad) 60 c6) #[true, true, false, false, true, true, false, false, true, false, false, false, false, false, false, false, false, false, false, false, false, false, false, false, false] rfl rfl (by kernel_rfl) (fun _ _ _ h => h) (Or.inl ⟨rfl, ?hyt5⟩) ?hat5 ?restt5
  case hyt5 => intro w; first | (go_simp; done) | (go_simp; with_reducible rfl) | (go_simp; rfl)
  case hat5 => go_simp; rfl
  refine pure_ (i := 9) (a' := ?at6) (v := .slice B3 2 (c6 - 9)) #[true, true, false, false, true, true, false, false, true, true, false, false, false, false, false, false, false, false, false, false, false, false, false, false, false] rfl rfl (by kernel_rfl) (fun _ _ _ h => h) ?hyt6 ?hat6 ?restt6
  case hyt6 => exact yields_cut rfl (.tmp 27) (.const (.int .i64 9)) (.const (.int .i64 11)) rfl rfl rfl rfl hB3
  case hat6 => go_simp; rfl
  refine pure_ (i := 12) (a' := ?at7) (v := .slice (some ad) 60 c6) #[true, true, false, false, true, true, false, false, true, true, false, false, true, false, false, false, false, false, false, false, false, false, false, false, false] rfl rfl (by kernel_rfl) (fun _ _ _ h => h) (Or.inl ⟨rfl, ?hyt7⟩) ?hat7 ?restt7
  case hyt7 => intro w; first | (go_simp; done) | (go_simp; with_reducible rfl) | (go_simp; rfl)
  case hat7 => go_simp; rfl
  refine pure_ (i := 13) (a' := ?at8) (v := .pointer (some (ad.add 11))) #[true, true, false, false, true, true, false, false, true, true, false, false, true, true, false, false, false, false, false, false, false, false, false, false, false] rfl rfl (by kernel_rfl) (fun _ _ _ h => h) ?hyt8 ?hat8 ?restt8
  case hyt8 => exact Or.inl ⟨rfl, fun w => by first | (go_simp; done) | (go_simp; with_reducible rfl) | (go_simp; rfl)⟩
  case hat8 => go_simp; rfl
  refine take_ (i := 14) (a' := ?at9) (v := .int .u8 (x4 : Nat)) #[true, true, false, false, true, true, false, false, true, true, false, false, true, true, true, false, false, false, false, false, false, false, false, false, false] rfl rfl (by kernel_rfl) (fun _ _ _ h => h) (yields_cell rfl (fun w h => by have h8 : w.cell? ⟨ad.block, ad.off + 11, none⟩ = some (.int .u8 (x4 : Nat)) := HCELL w h.out; (first | (go_simp; done) | (go_simp; with_reducible rfl) | (go_simp; rfl)))) hS_ ?hat9 ?restt9
  case hat9 => go_simp; rfl
  refine pure_ (i := 15) (a' := ?at10) (v := .slice (some ad) 60 c6) #[true, true, false, false, true, true, false, false, true, true, false, false, true, true, true, true, false, false, false, false, false, false, false, false, false] rfl rfl (by kernel_rfl) (fun _ _ _ h => h) (Or.inl ⟨rfl, ?hyt10⟩) ?hat10 ?restt10
  case hyt10 => intro w; first | (go_simp; done) | (go_simp; with_reducible rfl) | (go_simp; rfl)
  case hat10 => go_simp; rfl
  refine pure_ (i := 16) (a' := ?at11) (v := .slice B5 8 (c6 - 12)) #[true, true, false, false, true, true, false, false, true, true, false, false, true, true, true, true, true, false, false, false, false, false, false, false, false] rfl rfl (by kernel_rfl) (fun _ _ _ h => h) ?hyt11 ?hat11 ?restt11
  case hyt11 => exact yields_cut rfl (.tmp 34) (.const (.int .i64 12)) (.const (.int .i64 20)) rfl rfl rfl rfl hB5
  case hat11 => go_simp; rfl
  refine pure_ (i := 19) (a' := ?at12) (v := .slice (some ad) 60 c6) #[true, true, false, false, true, true, false, false, true, true, false, false, true, true, true, true, true, false, false, true, false, false, false, false, false] rfl rfl (by kernel_rfl) (fun _ _ _ h => h) (Or.inl ⟨rfl, ?hyt12⟩) ?hat12 ?restt12
  case hyt12 => intro w; first | (go_simp; done) | (go_simp; with_reducible rfl) | (go_simp; rfl)
  case hat12 => go_simp; rfl
  refine pure_ (i := 20) (a' := ?at13) (v := .slice B6 8 (c6 - 20)) #[true, true, false, false, true, true, false, false, true, true, false, false, true, true, true, true, true, false, false, true, true, false, false, false, false] rfl rfl (by kernel_rfl) (fun _ _ _ h => h) ?hyt13 ?hat13 ?restt13
  case hyt13 => exact yields_cut rfl (.tmp 38) (.const (.int .i64 20)) (.const (.int .i64 28)) rfl rfl rfl rfl hB6
  case hat13 => go_simp; rfl
  refine join_ 1 #[true, true, true, true, true, true, true, true, true, true, true, true, true, true, true, true, true, true, true, true, true, true, true, true, false] (fun b : Nat => [(21, .int .u64 (x1 : Nat)), (25, .int .u64 (x2 : Nat)), (29, .int .u64 (x3 : Nat)), (36, .int .u64 (x5 : Nat)), (40, .int .u64 (x6 : Nat)), (22, .int .u32 (x1 : Nat)), (26, .int .u32 (x2 : Nat)), (30, .int .u16 (x3 : Nat)), (37, .int .i64 e), (41, .agg #[.int .u32 (x1 : Nat), .int .u32 (x2 : Nat), .int .u16 (x3 : Nat), .int .u8 (x4 : Nat), .int .i64 e, .int .u64 (x6 : Nat)]), (7, .pointer (some ⟨b, 0, none⟩))]) (fun b W => Aside0 (Below w2.heap.size w2 W) ∧ W.heap[b]? = some (.cells #[.int .u32 0, .int .u32 0, .int .u16 0, .int .u8 0, .int .i64 0, .int .u64 0] 56 (0, 0)) ∧ w2.heap.size ≤ b) ?cont ?tree
  case tree =>
    intro hcont_
    refine two_ (i := 2) (j := 23) #[true, true, true, false, true, true, false, false, true, true, false, false, true, true, true, true, true, false, false, true, true, false, false, false, false] #[true, true, false, false, true, true, false, false, true, true, false, false, true, true, true, true, true, false, false, true, true, false, false, true, false] rfl rfl rfl rfl (by kernel_rfl) (by decide) (by decide) ?xt14 ?yt14
    case xt14 =>
      intro K_ hK_
      unfold Shut at hK_
      refine goes_ Tryd.func60 (by kernel_rfl) (by kernel_rfl) #[.slice B1 4 (c6 - 1)] rfl rfl rfl (by go_simp) ?_
      refine (number_any w2.drew (Kd.C_below HB1'.out.1 hS_.out) (by have := hc6; omega) HB1'.out.2.1 (by decide)).mono ?_
      rintro e0 _ ⟨rfl, ⟨md, rfl⟩⟩
      rw [HB1'.out.2.2]
      obtain ⟨yt15, hx⟩ : ∃ z, z = World.drewN (w2.drew) md := ⟨_, rfl⟩
      have hb6 : Below (w2.drew).heap.size (w2.drew) yt15 := by rw [hx]; exact pw_below_drewN (Below.refl _ _) md
      have hS2 : Aside0 (Below w2.heap.size w2 yt15) := ⟨below_step hS_.out hb6⟩
      rw [← hx]
      clear hx hb6
      refine ⟨_, rfl, hK_ _ _ hS2 (fun hS_ => ?_)⟩
      clear hK_ hS2
      refine norm_ (a' := ?at16) ?hat16 ?restt16
      case hat16 => go_simp; rfl
      refine pure_ (i := 3) (a' := ?at17) (v := .int .u32 (x1 : Nat)) #[true, true, true, true, true, true, false, false, true, true, false, false, true, true, true, true, true, false, false, true, true, false, false, false, false] rfl rfl (by kernel_rfl) (fun _ _ _ h => h) (Or.inl ⟨rfl, ?hyt17⟩) ?hat17 ?restt17
      case hyt17 => intro w; have h1 := Hw.out.1; first | (go_simp; done) | (go_simp; rfl)
      case hat17 => go_simp; rfl
      refine two_ (i := 6) (j := 23) #[true, true, true, true, true, true, true, false, true, true, false, false, true, true, true, true, true, false, false, true, true, false, false, false, false] #[true, true, true, true, true, true, false, false, true, true, false, false, true, true, true, true, true, false, false, true, true, false, false, true, false] rfl rfl rfl rfl (by kernel_rfl) (by decide) (by decide) ?xt18 ?yt18
      case xt18 =>
        intro K_ hK_
        unfold Shut at hK_
        refine goes_ Tryd.func60 (by kernel_rfl) (by kernel_rfl) #[.slice B2 4 (c6 - 5)] rfl rfl rfl (by go_simp) ?_
        refine (number_any yt15 (Kd.C_below HB2'.out.1 hS_.out) (by have := hc6; omega) HB2'.out.2.1 (by decide)).mono ?_
        rintro e0 _ ⟨rfl, ⟨md, rfl⟩⟩
        rw [HB2'.out.2.2]
        obtain ⟨yt19, hx⟩ : ∃ z, z = World.drewN (yt15) md := ⟨_, rfl⟩
        have hb6 : Below (yt15).heap.size (yt15) yt19 := by rw [hx]; exact pw_below_drewN (Below.refl _ _) md
        have hS2 : Aside0 (Below w2.heap.size w2 yt19) := ⟨below_step hS_.out hb6⟩
        rw [← hx]
        clear hx hb6
        refine ⟨_, rfl, hK_ _ _ hS2 (fun hS_ => ?_)⟩
        clear hK_ hS2
        refine norm_ (a' := ?at20) ?hat20 ?restt20
        case hat20 => go_simp; rfl
        refine pure_ (i := 7) (a' := ?at21) (v := .int .u32 (x2 : Nat)) #[true, true, true, true, true, true, true, true, true, true, false, false, true, true, true, true, true, false, false, true, true, false, false, false, false] rfl rfl (by kernel_rfl) (fun _ _ _ h => h) (Or.inl ⟨rfl, ?hyt21⟩) ?hat21 ?restt21
        case hyt21 => intro w; have h1 := Hw.out.2.1; first | (go_simp; done) | (go_simp; rfl)
        case hat21 => go_simp; rfl
        refine two_ (i := 10) (j := 23) #[true, true, true, true, true, true, true, true, true, true, true, false, true, true, true, true, true, false, false, true, true, false, false, false, false] #[true, true, true, true, true, true, true, true, true, true, false, false, true, true, true, true, true, false, false, true, true, false, false, true, false] rfl rfl rfl rfl (by kernel_rfl) (by decide) (by decide) ?xt22 ?yt22
        case xt22 =>
          intro K_ hK_
          unfold Shut at hK_
          refine goes_ Tryd.func60 (by kernel_rfl) (by kernel_rfl) #[.slice B3 2 (c6 - 9)] rfl rfl rfl (by go_simp) ?_
          refine (number_any yt19 (Kd.C_below HB3'.out.1 hS_.out) (by have := hc6; omega) HB3'.out.2.1 (by decide)).mono ?_
          rintro e0 _ ⟨rfl, ⟨md, rfl⟩⟩
          rw [HB3'.out.2.2]
          obtain ⟨yt23, hx⟩ : ∃ z, z = World.drewN (yt19) md := ⟨_, rfl⟩
          have hb6 : Below (yt19).heap.size (yt19) yt23 := by rw [hx]; exact pw_below_drewN (Below.refl _ _) md
          have hS2 : Aside0 (Below w2.heap.size w2 yt23) := ⟨below_step hS_.out hb6⟩
          rw [← hx]
          clear hx hb6
          refine ⟨_, rfl, hK_ _ _ hS2 (fun hS_ => ?_)⟩
          clear hK_ hS2
          refine norm_ (a' := ?at24) ?hat24 ?restt24
          case hat24 => go_simp; rfl
          refine pure_ (i := 11) (a' := ?at25) (v := .int .u16 (x3 : Nat)) #[true, true, true, true, true, true, true, true, true, true, true, true, true, true, true, true, true, false, false, true, true, false, false, false, false] rfl rfl (by kernel_rfl) (fun _ _ _ h => h) (Or.inl ⟨rfl, ?hyt25⟩) ?hat25 ?restt25
          case hyt25 => intro w; have h1 := Hw.out.2.2.1; first | (go_simp; done) | (go_simp; rfl)
          case hat25 => go_simp; rfl
          refine two_ (i := 17) (j := 23) #[true, true, true, true, true, true, true, true, true, true, true, true, true, true, true, true, true, true, false, true, true, false, false, false, false] #[true, true, true, true, true, true, true, true, true, true, true, true, true, true, true, true, true, false, false, true, true, false, false, true, false] rfl rfl rfl rfl (by kernel_rfl) (by decide) (by decide) ?xt26 ?yt26
          case xt26 =>
            intro K_ hK_
            unfold Shut at hK_
            refine goes_ Tryd.func60 (by kernel_rfl) (by kernel_rfl) #[.slice B5 8 (c6 - 12)] rfl rfl rfl (by go_simp) ?_
            refine (number_any yt23 (Kd.C_below HB5'.out.1 hS_.out) (by have := hc6; omega) HB5'.out.2.1 (by decide)).mono ?_
            rintro e0 _ ⟨rfl, ⟨md, rfl⟩⟩
            rw [HB5'.out.2.2]
            obtain ⟨yt27, hx⟩ : ∃ z, z = World.drewN (yt23) md := ⟨_, rfl⟩
            have hb6 : Below (yt23).heap.size (yt23) yt27 := by rw [hx]; exact pw_below_drewN (Below.refl _ _) md
            have hS2 : Aside0 (Below w2.heap.size w2 yt27) := ⟨below_step hS_.out hb6⟩
            rw [← hx]
            clear hx hb6
            refine ⟨_, rfl, hK_ _ _ hS2 (fun hS_ => ?_)⟩
            clear hK_ hS2
            refine norm_ (a' := ?at28) ?hat28 ?restt28
            case hat28 => go_simp; rfl
            refine pure_ (i := 18) (a' := ?at29) (v := .int .i64 e) #[true, true, true, true, true, true, true, true, true, true, true, true, true, true, true, true, true, true, true, true, true, false, false, false, false] rfl rfl (by kernel_rfl) (fun _ _ _ h => h) (Or.inl ⟨rfl, ?hyt29⟩) ?hat29 ?restt29
            case hyt29 => intro w; have h1 := Hw.out.2.2.2.1; have h2 := Hw.out.2.2.2.2; first | (go_simp; done) | (go_simp; rfl)
            case hat29 => go_simp; rfl
            refine two_ (i := 21) (j := 23) #[true, true, true, true, true, true, true, true, true, true, true, true, true, true, true, true, true, true, true, true, true, true, false, false, false] #[true, true, true, true, true, true, true, true, true, true, true, true, true, true, true, true, true, true, true, true, true, false, false, true, false] rfl rfl rfl rfl (by kernel_rfl) (by decide) (by decide) ?xt30 ?yt30
            case xt30 =>
              intro K_ hK_
              unfold Shut at hK_
              refine goes_ Tryd.func60 (by kernel_rfl) (by kernel_rfl) #[.slice B6 8 (c6 - 20)] rfl rfl rfl (by go_simp) ?_
              refine (number_any yt27 (Kd.C_below HB6'.out.1 hS_.out) (by have := hc6; omega) HB6'.out.2.1 (by decide)).mono ?_
              rintro e0 _ ⟨rfl, ⟨md, rfl⟩⟩
              rw [HB6'.out.2.2]
              obtain ⟨yt31, hx⟩ : ∃ z, z = World.drewN (yt27) md := ⟨_, rfl⟩
              have hb6 : Below (yt27).heap.size (yt27) yt31 := by rw [hx]; exact pw_below_drewN (Below.refl _ _) md
              have hS2 : Aside0 (Below w2.heap.size w2 yt31) := ⟨below_step hS_.out hb6⟩
              rw [← hx]
              clear hx hb6
              refine ⟨_, rfl, hK_ _ _ hS2 (fun hS_ => ?_)⟩
              clear hK_ hS2
              refine norm_ (a' := ?at32) ?hat32 ?restt32
              case hat32 => go_simp; rfl
              refine pure_ (i := 22) (a' := ?at33) (v := .agg #[.int .u32 (x1 : Nat), .int .u32 (x2 : Nat), .int .u16 (x3 : Nat), .int .u8 (x4 : Nat), .int .i64 e, .int .u64 (x6 : Nat)]) #[true, true, true, true, true, true, true, true, true, true, true, true, true, true, true, true, true, true, true, true, true, true, true, false, false] rfl rfl (by kernel_rfl) (fun _ _ _ h => h) (Or.inl ⟨rfl, ?hyt33⟩) ?hat33 ?restt33
              case hyt33 => intro w; first | (go_simp; done) | (go_simp; rfl)
              case hat33 => go_simp; rfl
              refine one_ (i := 23) #[true, true, true, true, true, true, true, true, true, true, true, true, true, true, true, true, true, true, true, true, true, true, true, true, false] rfl rfl (by kernel_rfl) (by decide) ?_
              intro K_ hK_
              unfold Shut at hK_
              obtain ⟨bt34, hb⟩ : ∃ b, b = (yt31).heap.size := ⟨_, rfl⟩
              obtain ⟨yt34, hx⟩ : ∃ wx, wx = (yt31).alloc (.cells #[.int .u32 0, .int .u32 0, .int .u16 0, .int .u8 0, .int .i64 0, .int .u64 0] 56) := ⟨_, rfl⟩
              have hb6 : Below (yt31).heap.size (yt31) yt34 := by rw [hx]; exact below_alloc (Below.refl _ _) _
              have Zt34 := Aside0.mk (show yt34.heap[bt34]? = some (.cells #[.int .u32 0, .int .u32 0, .int .u16 0, .int .u8 0, .int .i64 0, .int .u64 0] 56 (0, 0)) ∧ w2.heap.size ≤ bt34 from ⟨by rw [hx, hb]; exact heap_alloc_new _ _, by rw [hb]; exact hS_.out.size⟩)
              have hS2 : Aside0 (Below w2.heap.size w2 yt34) := ⟨below_step hS_.out hb6⟩
              refine value_ (v := .pointer (some ⟨bt34, 0, none⟩)) (w1 := yt34) rfl rfl (by subst hx; subst hb; (first | (go_simp; done) | (go_simp; rfl))) ?_
              clear hx hb hb6
              refine hK_ _ _ hS2 (fun hS_ => ?_)
              clear hK_ hS2
              refine norm_ (a' := ?at35) ?hat35 ?restt35
              case hat35 => go_simp; rfl
              refine norm_ (a' := putAll _ [(21, .int .u64 (x1 : Nat)), (25, .int .u64 (x2 : Nat)), (29, .int .u64 (x3 : Nat)), (36, .int .u64 (x5 : Nat)), (40, .int .u64 (x6 : Nat)), (22, .int .u32 (x1 : Nat)), (26, .int .u32 (x2 : Nat)), (30, .int .u16 (x3 : Nat)), (37, .int .i64 e), (41, .agg #[.int .u32 (x1 : Nat), .int .u32 (x2 : Nat), .int .u16 (x3 : Nat), .int .u8 (x4 : Nat), .int .i64 e, .int .u64 (x6 : Nat)]), (7, .pointer (some ⟨bt34, 0, none⟩))]) ?hz (hcont_ bt34 yt34 ⟨hS_, Zt34.out.1, Zt34.out.2⟩)
              case hz => simp only [putAll]; first | (go_simp; done) | (go_simp; rfl)
            case yt30 =>
              intro K_ hK_
              unfold Shut at hK_
              obtain ⟨bt36, hb⟩ : ∃ b, b = (yt27).heap.size := ⟨_, rfl⟩
              obtain ⟨yt36, hx⟩ : ∃ wx, wx = (yt27).alloc (.cells #[.int .u32 0, .int .u32 0, .int .u16 0, .int .u8 0, .int .i64 0, .int .u64 0] 56) := ⟨_, rfl⟩
              have hb6 : Below (yt27).heap.size (yt27) yt36 := by rw [hx]; exact below_alloc (Below.refl _ _) _
              have Zt36 := Aside0.mk (show yt36.heap[bt36]? = some (.cells #[.int .u32 0, .int .u32 0, .int .u16 0, .int .u8 0, .int .i64 0, .int .u64 0] 56 (0, 0)) ∧ w2.heap.size ≤ bt36 from ⟨by rw [hx, hb]; exact heap_alloc_new _ _, by rw [hb]; exact hS_.out.size⟩)
              have hS2 : Aside0 (Below w2.heap.size w2 yt36) := ⟨below_step hS_.out hb6⟩
              refine value_ (v := .pointer (some ⟨bt36, 0, none⟩)) (w1 := yt36) rfl rfl (by subst hx; subst hb; (first | (go_simp; done) | (go_simp; rfl))) ?_
              clear hx hb hb6
              refine hK_ _ _ hS2 (fun hS_ => ?_)
              clear hK_ hS2
              refine norm_ (a' := ?at37) ?hat37 ?restt37
              case hat37 => go_simp; rfl
              refine one_ (i := 21) #[true, true, true, true, true, true, true, true, true, true, true, true, true, true, true, true, true, true, true, true, true, true, false, true, false] rfl rfl (by kernel_rfl) (by decide) ?_
              intro K_ hK_
              unfold Shut at hK_
              refine goes_ Tryd.func60 (by kernel_rfl) (by kernel_rfl) #[.slice B6 8 (c6 - 20)] rfl rfl rfl (by go_simp) ?_
              refine (number_any yt36 (Kd.C_below HB6'.out.1 hS_.out) (by have := hc6; omega) HB6'.out.2.1 (by decide)).mono ?_
              rintro e0 _ ⟨rfl, ⟨md, rfl⟩⟩
              rw [HB6'.out.2.2]
              obtain ⟨yt38, hx⟩ : ∃ z, z = World.drewN (yt36) md := ⟨_, rfl⟩
              have hb6 : Below (yt36).heap.size (yt36) yt38 := by rw [hx]; exact pw_below_drewN (Below.refl _ _) md
              have Zt38 := Aside0.mk (And.intro (blk_below Zt36.out.1 hb6) Zt36.out.2)
              have hS2 : Aside0 (Below w2.heap.size w2 yt38) := ⟨below_step hS_.out hb6⟩
              rw [← hx]
              clear hx hb6
              refine ⟨_, rfl, hK_ _ _ hS2 (fun hS_ => ?_)⟩
              clear hK_ hS2
              refine norm_ (a' := ?at39) ?hat39 ?restt39
              case hat39 => go_simp; rfl
              refine pure_ (i := 22) (a' := ?at40) (v := .agg #[.int .u32 (x1 : Nat), .int .u32 (x2 : Nat), .int .u16 (x3 : Nat), .int .u8 (x4 : Nat), .int .i64 e, .int .u64 (x6 : Nat)]) #[true, true, true, true, true, true, true, true, true, true, true, true, true, true, true, true, true, true, true, true, true, true, true, true, false] rfl rfl (by kernel_rfl) (fun _ _ _ h => h) (Or.inl ⟨rfl, ?hyt40⟩) ?hat40 ?restt40
              case hyt40 => intro w; first | (go_simp; done) | (go_simp; rfl)
              case hat40 => go_simp; rfl
              refine norm_ (a' := putAll _ [(21, .int .u64 (x1 : Nat)), (25, .int .u64 (x2 : Nat)), (29, .int .u64 (x3 : Nat)), (36, .int .u64 (x5 : Nat)), (40, .int .u64 (x6 : Nat)), (22, .int .u32 (x1 : Nat)), (26, .int .u32 (x2 : Nat)), (30, .int .u16 (x3 : Nat)), (37, .int .i64 e), (41, .agg #[.int .u32 (x1 : Nat), .int .u32 (x2 : Nat), .int .u16 (x3 : Nat), .int .u8 (x4 : Nat), .int .i64 e, .int .u64 (x6 : Nat)]), (7, .pointer (some ⟨bt36, 0, none⟩))]) ?hz (hcont_ bt36 yt38 ⟨hS_, Zt38.out.1, Zt38.out.2⟩)
              case hz => simp only [putAll]; first | (go_simp; done) | (go_simp; rfl)
          case yt26 =>
            intro K_ hK_
            unfold Shut at hK_
            obtain ⟨bt41, hb⟩ : ∃ b, b = (yt23).heap.size := ⟨_, rfl⟩
            obtain ⟨yt41, hx⟩ : ∃ wx, wx = (yt23).alloc (.cells #[.int .u32 0, .int .u32 0, .int .u16 0, .int .u8 0, .int .i64 0, .int .u64 0] 56) := ⟨_, rfl⟩
            have hb6 : Below (yt23).heap.size (yt23) yt41 := by rw [hx]; exact below_alloc (Below.refl _ _) _
            have Zt41 := Aside0.mk (show yt41.heap[bt41]? = some (.cells #[.int .u32 0, .int .u32 0, .int .u16 0, .int .u8 0, .int .i64 0, .int .u64 0] 56 (0, 0)) ∧ w2.heap.size ≤ bt41 from ⟨by rw [hx, hb]; exact heap_alloc_new _ _, by rw [hb]; exact hS_.out.size⟩)
            have hS2 : Aside0 (Below w2.heap.size w2 yt41) := ⟨below_step hS_.out hb6⟩
            refine value_ (v := .pointer (some ⟨bt41, 0, none⟩)) (w1 := yt41) rfl rfl (by subst hx; subst hb; (first | (go_simp; done) | (go_simp; rfl))) ?_
            clear hx hb hb6
            refine hK_ _ _ hS2 (fun hS_ => ?_)
            clear hK_ hS2
            refine norm_ (a' := ?at42) ?hat42 ?restt42
            case hat42 => go_simp; rfl
            refine one_ (i := 17) #[true, true, true, true, true, true, true, true, true, true, true, true, true, true, true, true, true, true, false, true, true, false, false, true, false] rfl rfl (by kernel_rfl) (by decide) ?_
            intro K_ hK_
            unfold Shut at hK_
            refine goes_ Tryd.func60 (by kernel_rfl) (by kernel_rfl) #[.slice B5 8 (c6 - 12)] rfl rfl rfl (by go_simp) ?_
            refine (number_any yt41 (Kd.C_below HB5'.out.1 hS_.out) (by have := hc6; omega) HB5'.out.2.1 (by decide)).mono ?_
            rintro e0 _ ⟨rfl, ⟨md, rfl⟩⟩
            rw [HB5'.out.2.2]
            obtain ⟨yt43, hx⟩ : ∃ z, z = World.drewN (yt41) md := ⟨_, rfl⟩
            have hb6 : Below (yt41).heap.size (yt41) yt43 := by rw [hx]; exact pw_below_drewN (Below.refl _ _) md
            have Zt43 := Aside0.mk (And.intro (blk_below Zt41.out.1 hb6) Zt41.out.2)
            have hS2 : Aside0 (Below w2.heap.size w2 yt43) := ⟨below_step hS_.out hb6⟩
            rw [← hx]
            clear hx hb6
            refine ⟨_, rfl, hK_ _ _ hS2 (fun hS_ => ?_)⟩
            clear hK_ hS2
            refine norm_ (a' := ?at44) ?hat44 ?restt44
            case hat44 => go_simp; rfl
            refine pure_ (i := 18) (a' := ?at45) (v := .int .i64 e) #[true, true, true, true, true, true, true, true, true, true, true, true, true, true, true, true, true, true, true, true, true, false, false, true, false] rfl rfl (by kernel_rfl) (fun _ _ _ h => h) (Or.inl ⟨rfl, ?hyt45⟩) ?hat45 ?restt45
            case hyt45 => intro w; have h1 := Hw.out.2.2.2.1; have h2 := Hw.out.2.2.2.2; first | (go_simp; done) | (go_simp; rfl)
            case hat45 => go_simp; rfl
            refine one_ (i := 21) #[true, true, true, true, true, true, true, true, true, true, true, true, true, true, true, true, true, true, true, true, true, true, false, true, false] rfl rfl (by kernel_rfl) (by decide) ?_
            intro K_ hK_
            unfold Shut at hK_
            refine goes_ Tryd.func60 (by kernel_rfl) (by kernel_rfl) #[.slice B6 8 (c6 - 20)] rfl rfl rfl (by go_simp) ?_
            refine (number_any yt43 (Kd.C_below HB6'.out.1 hS_.out) (by have := hc6; omega) HB6'.out.2.1 (by decide)).mono ?_
            rintro e0 _ ⟨rfl, ⟨md, rfl⟩⟩
            rw [HB6'.out.2.2]
            obtain ⟨yt46, hx⟩ : ∃ z, z = World.drewN (yt43) md := ⟨_, rfl⟩
            have hb6 : Below (yt43).heap.size (yt43) yt46 := by rw [hx]; exact pw_below_drewN (Below.refl _ _) md
            have Zt46 := Aside0.mk (And.intro (blk_below Zt43.out.1 hb6) Zt43.out.2)
            have hS2 : Aside0 (Below w2.heap.size w2 yt46) := ⟨below_step hS_.out hb6⟩
            rw [← hx]
            clear hx hb6
            refine ⟨_, rfl, hK_ _ _ hS2 (fun hS_ => ?_)⟩
            clear hK_ hS2
            refine norm_ (a' := ?at47) ?hat47 ?restt47
            case hat47 => go_simp; rfl
            refine pure_ (i := 22) (a' := ?at48) (v := .agg #[.int .u32 (x1 : Nat), .int .u32 (x2 : Nat), .int .u16 (x3 : Nat), .int .u8 (x4 : Nat), .int .i64 e, .int .u64 (x6 : Nat)]) #[true, true, true, true, true, true, true, true, true, true, true, true, true, true, true, true, true, true, true, true, true, true, true, true, false] rfl rfl (by kernel_rfl) (fun _ _ _ h => h) (Or.inl ⟨rfl, ?hyt48⟩) ?hat48 ?restt48
            case hyt48 => intro w; first | (go_simp; done) | (go_simp; rfl)
            case hat48 => go_simp; rfl
            refine norm_ (a' := putAll _ [(21, .int .u64 (x1 : Nat)), (25, .int .u64 (x2 : Nat)), (29, .int .u64 (x3 : Nat)), (36, .int .u64 (x5 : Nat)), (40, .int .u64 (x6 : Nat)), (22, .int .u32 (x1 : Nat)), (26, .int .u32 (x2 : Nat)), (30, .int .u16 (x3 : Nat)), (37, .int .i64 e), (41, .agg #[.int .u32 (x1 : Nat), .int .u32 (x2 : Nat), .int .u16 (x3 : Nat), .int .u8 (x4 : Nat), .int .i64 e, .int .u64 (x6 : Nat)]), (7, .pointer (some ⟨bt41, 0, none⟩))]) ?hz (hcont_ bt41 yt46 ⟨hS_, Zt46.out.1, Zt46.out.2⟩)
            case hz => simp only [putAll]; first | (go_simp; done) | (go_simp; rfl)
        case yt22 =>
          intro K_ hK_
          unfold Shut at hK_
          obtain ⟨bt49, hb⟩ : ∃ b, b = (yt19).heap.size := ⟨_, rfl⟩
          obtain ⟨yt49, hx⟩ : ∃ wx, wx = (yt19).alloc (.cells #[.int .u32 0, .int .u32 0, .int .u16 0, .int .u8 0, .int .i64 0, .int .u64 0] 56) := ⟨_, rfl⟩
          have hb6 : Below (yt19).heap.size (yt19) yt49 := by rw [hx]; exact below_alloc (Below.refl _ _) _
          have Zt49 := Aside0.mk (show yt49.heap[bt49]? = some (.cells #[.int .u32 0, .int .u32 0, .int .u16 0, .int .u8 0, .int .i64 0, .int .u64 0] 56 (0, 0)) ∧ w2.heap.size ≤ bt49 from ⟨by rw [hx, hb]; exact heap_alloc_new _ _, by rw [hb]; exact hS_.out.size⟩)
          have hS2 : Aside0 (Below w2.heap.size w2 yt49) := ⟨below_step hS_.out hb6⟩
          refine value_ (v := .pointer (some ⟨bt49, 0, none⟩)) (w1 := yt49) rfl rfl (by subst hx; subst hb; (first | (go_simp; done) | (go_simp; rfl))) ?_
          clear hx hb hb6
          refine hK_ _ _ hS2 (fun hS_ => ?_)
          clear hK_ hS2
          refine norm_ (a' := ?at50) ?hat50 ?restt50
          case hat50 => go_simp; rfl
          refine one_ (i := 10) #[true, true, true, true, true, true, true, true, true, true, true, false, true, true, true, true, true, false, false, true, true, false, false, true, false] rfl rfl (by kernel_rfl) (by decide) ?_
          intro K_ hK_
          unfold Shut at hK_
          refine goes_ Tryd.func60 (by kernel_rfl) (by kernel_rfl) #[.slice B3 2 (c6 - 9)] rfl rfl rfl (by go_simp) ?_
          refine (number_any yt49 (Kd.C_below HB3'.out.1 hS_.out) (by have := hc6; omega) HB3'.out.2.1 (by decide)).mono ?_
          rintro e0 _ ⟨rfl, ⟨md, rfl⟩⟩
          rw [HB3'.out.2.2]
          obtain ⟨yt51, hx⟩ : ∃ z, z = World.drewN (yt49) md := ⟨_, rfl⟩
          have hb6 : Below (yt49).heap.size (yt49) yt51 := by rw [hx]; exact pw_below_drewN (Below.refl _ _) md
          have Zt51 := Aside0.mk (And.intro (blk_below Zt49.out.1 hb6) Zt49.out.2)
          have hS2 : Aside0 (Below w2.heap.size w2 yt51) := ⟨below_step hS_.out hb6⟩
          rw [← hx]
          clear hx hb6
          refine ⟨_, rfl, hK_ _ _ hS2 (fun hS_ => ?_)⟩
          clear hK_ hS2
          refine norm_ (a' := ?at52) ?hat52 ?restt52
          case hat52 => go_simp; rfl
          refine pure_ (i := 11) (a' := ?at53) (v := .int .u16 (x3 : Nat)) #[true, true, true, true, true, true, true, true, true, true, true, true, true, true, true, true, true, false, false, true, true, false, false, true, false] rfl rfl (by kernel_rfl) (fun _ _ _ h => h) (Or.inl ⟨rfl, ?hyt53⟩) ?hat53 ?restt53
          case hyt53 => intro w; have h1 := Hw.out.2.2.1; first | (go_simp; done) | (go_simp; rfl)
          case hat53 => go_simp; rfl
          refine one_ (i := 17) #[true, true, true, true, true, true, true, true, true, true, true, true, true, true, true, true, true, true, false, true, true, false, false, true, false] rfl rfl (by kernel_rfl) (by decide) ?_
          intro K_ hK_
          unfold Shut at hK_
          refine goes_ Tryd.func60 (by kernel_rfl) (by kernel_rfl) #[.slice B5 8 (c6 - 12)] rfl rfl rfl (by go_simp) ?_
          refine (number_any yt51 (Kd.C_below HB5'.out.1 hS_.out) (by have := hc6; omega) HB5'.out.2.1 (by decide)).mono ?_
          rintro e0 _ ⟨rfl, ⟨md, rfl⟩⟩
          rw [HB5'.out.2.2]
          obtain ⟨yt54, hx⟩ : ∃ z, z = World.drewN (yt51) md := ⟨_, rfl⟩
          have hb6 : Below (yt51).heap.size (yt51) yt54 := by rw [hx]; exact pw_below_drewN (Below.refl _ _) md
          have Zt54 := Aside0.mk (And.intro (blk_below Zt51.out.1 hb6) Zt51.out.2)
          have hS2 : Aside0 (Below w2.heap.size w2 yt54) := ⟨below_step hS_.out hb6⟩
          rw [← hx]
          clear hx hb6
          refine ⟨_, rfl, hK_ _ _ hS2 (fun hS_ => ?_)⟩
          clear hK_ hS2
          refine norm_ (a' := ?at55) ?hat55 ?restt55
          case hat55 => go_simp; rfl
          refine pure_ (i := 18) (a' := ?at56) (v := .int .i64 e) #[true, true, true, true, true, true, true, true, true, true, true, true, true, true, true, true, true, true, true, true, true, false, false, true, false] rfl rfl (by kernel_rfl) (fun _ _ _ h => h) (Or.inl ⟨rfl, ?hyt56⟩) ?hat56 ?restt56
          case hyt56 => intro w; have h1 := Hw.out.2.2.2.1; have h2 := Hw.out.2.2.2.2; first | (go_simp; done) | (go_simp; rfl)
          case hat56 => go_simp; rfl
          refine one_ (i := 21) #[true, true, true, true, true, true, true, true, true, true, true, true, true, true, true, true, true, true, true, true, true, true, false, true, false] rfl rfl (by kernel_rfl) (by decide) ?_
          intro K_ hK_
          unfold Shut at hK_
          refine goes_ Tryd.func60 (by kernel_rfl) (by kernel_rfl) #[.slice B6 8 (c6 - 20)] rfl rfl rfl (by go_simp) ?_
          refine (number_any yt54 (Kd.C_below HB6'.out.1 hS_.out) (by have := hc6; omega) HB6'.out.2.1 (by decide)).mono ?_
          rintro e0 _ ⟨rfl, ⟨md, rfl⟩⟩
          rw [HB6'.out.2.2]
          obtain ⟨yt57, hx⟩ : ∃ z, z = World.drewN (yt54) md := ⟨_, rfl⟩
          have hb6 : Below (yt54).heap.size (yt54) yt57 := by rw [hx]; exact pw_below_drewN (Below.refl _ _) md
          have Zt57 := Aside0.mk (And.intro (blk_below Zt54.out.1 hb6) Zt54.out.2)
          have hS2 : Aside0 (Below w2.heap.size w2 yt57) := ⟨below_step hS_.out hb6⟩
          rw [← hx]
          clear hx hb6
          refine ⟨_, rfl, hK_ _ _ hS2 (fun hS_ => ?_)⟩
          clear hK_ hS2
          refine norm_ (a' := ?at58) ?hat58 ?restt58
          case hat58 => go_simp; rfl
          refine pure_ (i := 22) (a' := ?at59) (v := .agg #[.int .u32 (x1 : Nat), .int .u32 (x2 : Nat), .int .u16 (x3 : Nat), .int .u8 (x4 : Nat), .int .i64 e, .int .u64 (x6 : Nat)]) #[true, true, true, true, true, true, true, true, true, true, true, true, true, true, true, true, true, true, true, true, true, true, true, true, false] rfl rfl (by kernel_rfl) (fun _ _ _ h => h) (Or.inl ⟨rfl, ?hyt59⟩) ?hat59 ?restt59
          case hyt59 => intro w; first | (go_simp; done) | (go_simp; rfl)
          case hat59 => go_simp; rfl
          refine norm_ (a' := putAll _ [(21, .int .u64 (x1 : Nat)), (25, .int .u64 (x2 : Nat)), (29, .int .u64 (x3 : Nat)), (36, .int .u64 (x5 : Nat)), (40, .int .u64 (x6 : Nat)), (22, .int .u32 (x1 : Nat)), (26, .int .u32 (x2 : Nat)), (30, .int .u16 (x3 : Nat)), (37, .int .i64 e), (41, .agg #[.int .u32 (x1 : Nat), .int .u32 (x2 : Nat), .int .u16 (x3 : Nat), .int .u8 (x4 : Nat), .int .i64 e, .int .u64 (x6 : Nat)]), (7, .pointer (some ⟨bt49, 0, none⟩))]) ?hz (hcont_ bt49 yt57 ⟨hS_, Zt57.out.1, Zt57.out.2⟩)
          case hz => simp only [putAll]; first | (go_simp; done) | (go_simp; rfl)
      case yt18 =>
        intro K_ hK_
        unfold Shut at hK_
        obtain ⟨bt60, hb⟩ : ∃ b, b = (yt15).heap.size := ⟨_, rfl⟩
        obtain ⟨yt60, hx⟩ : ∃ wx, wx = (yt15).alloc (.cells #[.int .u32 0, .int .u32 0, .int .u16 0, .int .u8 0, .int .i64 0, .int .u64 0] 56) := ⟨_, rfl⟩
        have hb6 : Below (yt15).heap.size (yt15) yt60 := by rw [hx]; exact below_alloc (Below.refl _ _) _
        have Zt60 := Aside0.mk (show yt60.heap[bt60]? = some (.cells #[.int .u32 0, .int .u32 0, .int .u16 0, .int .u8 0, .int .i64 0, .int .u64 0] 56 (0, 0)) ∧ w2.heap.size ≤ bt60 from ⟨by rw [hx, hb]; exact heap_alloc_new _ _, by rw [hb]; exact hS_.out.size⟩)
        have hS2 : Aside0 (Below w2.heap.size w2 yt60) := ⟨below_step hS_.out hb6⟩
        refine value_ (v := .pointer (some ⟨bt60, 0, none⟩)) (w1 := yt60) rfl rfl (by subst hx; subst hb; (first | (go_simp; done) | (go_simp; rfl))) ?_
        clear hx hb hb6
        refine hK_ _ _ hS2 (fun hS_ => ?_)
        clear hK_ hS2
        refine norm_ (a' := ?at61) ?hat61 ?restt61
        case hat61 => go_simp; rfl
        refine one_ (i := 6) #[true, true, true, true, true, true, true, false, true, true, false, false, true, true, true, true, true, false, false, true, true, false, false, true, false] rfl rfl (by kernel_rfl) (by decide) ?_
        intro K_ hK_
        unfold Shut at hK_
        refine goes_ Tryd.func60 (by kernel_rfl) (by kernel_rfl) #[.slice B2 4 (c6 - 5)] rfl rfl rfl (by go_simp) ?_
        refine (number_any yt60 (Kd.C_below HB2'.out.1 hS_.out) (by have := hc6; omega) HB2'.out.2.1 (by decide)).mono ?_
        rintro e0 _ ⟨rfl, ⟨md, rfl⟩⟩
        rw [HB2'.out.2.2]
        obtain ⟨yt62, hx⟩ : ∃ z, z = World.drewN (yt60) md := ⟨_, rfl⟩
        have hb6 : Below (yt60).heap.size (yt60) yt62 := by rw [hx]; exact pw_below_drewN (Below.refl _ _) md
        have Zt62 := Aside0.mk (And.intro (blk_below Zt60.out.1 hb6) Zt60.out.2)
        have hS2 : Aside0 (Below w2.heap.size w2 yt62) := ⟨below_step hS_.out hb6⟩
        rw [← hx]
        clear hx hb6
        refine ⟨_, rfl, hK_ _ _ hS2 (fun hS_ => ?_)⟩
        clear hK_ hS2
        refine norm_ (a' := ?at63) ?hat63 ?restt63
        case hat63 => go_simp; rfl
        refine pure_ (i := 7) (a' := ?at64) (v := .int .u32 (x2 : Nat)) #[true, true, true, true, true, true, true, true, true, true, false, false, true, true, true, true, true, false, false, true, true, false, false, true, false] rfl rfl (by kernel_rfl) (fun _ _ _ h => h) (Or.inl ⟨rfl, ?hyt64⟩) ?hat64 ?restt64
        case hyt64 => intro w; have h1 := Hw.out.2.1; first | (go_simp; done) | (go_simp; rfl)
        case hat64 => go_simp; rfl
        refine one_ (i := 10) #[true, true, true, true, true, true, true, true, true, true, true, false, true, true, true, true, true, false, false, true, true, false, false, true, false] rfl rfl (by kernel_rfl) (by decide) ?_
        intro K_ hK_
        unfold Shut at hK_
        refine goes_ Tryd.func60 (by kernel_rfl) (by kernel_rfl) #[.slice B3 2 (c6 - 9)] rfl rfl rfl (by go_simp) ?_
        refine (number_any yt62 (Kd.C_below HB3'.out.1 hS_.out) (by have := hc6; omega) HB3'.out.2.1 (by decide)).mono ?_
        rintro e0 _ ⟨rfl, ⟨md, rfl⟩⟩
        rw [HB3'.out.2.2]
        obtain ⟨yt65, hx⟩ : ∃ z, z = World.drewN (yt62) md := ⟨_, rfl⟩
        have hb6 : Below (yt62).heap.size (yt62) yt65 := by rw [hx]; exact pw_below_drewN (Below.refl _ _) md
        have Zt65 := Aside0.mk (And.intro (blk_below Zt62.out.1 hb6) Zt62.out.2)
        have hS2 : Aside0 (Below w2.heap.size w2 yt65) := ⟨below_step hS_.out hb6⟩
        rw [← hx]
        clear hx hb6
        refine ⟨_, rfl, hK_ _ _ hS2 (fun hS_ => ?_)⟩
        clear hK_ hS2
        refine norm_ (a' := ?at66) ?hat66 ?restt66
        case hat66 => go_simp; rfl
        refine pure_ (i := 11) (a' := ?at67) (v := .int .u16 (x3 : Nat)) #[true, true, true, true, true, true, true, true, true, true, true, true, true, true, true, true, true, false, false, true, true, false, false, true, false] rfl rfl (by kernel_rfl) (fun _ _ _ h => h) (Or.inl ⟨rfl, ?hyt67⟩) ?hat67 ?restt67
        case hyt67 => intro w; have h1 := Hw.out.2.2.1; first | (go_simp; done) | (go_simp; rfl)
        case hat67 => go_simp; rfl
        refine one_ (i := 17) #[true, true, true, true, true, true, true, true, true, true, true, true, true, true, true, true, true, true, false, true, true, false, false, true, false] rfl rfl (by kernel_rfl) (by decide) ?_
        intro K_ hK_
        unfold Shut at hK_
        refine goes_ Tryd.func60 (by kernel_rfl) (by kernel_rfl) #[.slice B5 8 (c6 - 12)] rfl rfl rfl (by go_simp) ?_
        refine (number_any yt65 (Kd.C_below HB5'.out.1 hS_.out) (by have := hc6; omega) HB5'.out.2.1 (by decide)).mono ?_
        rintro e0 _ ⟨rfl, ⟨md, rfl⟩⟩
        rw [HB5'.out.2.2]
        obtain ⟨yt68, hx⟩ : ∃ z, z = World.drewN (yt65) md := ⟨_, rfl⟩
        have hb6 : Below (yt65).heap.size (yt65) yt68 := by rw [hx]; exact pw_below_drewN (Below.refl _ _) md
        have Zt68 := Aside0.mk (And.intro (blk_below Zt65.out.1 hb6) Zt65.out.2)
        have hS2 : Aside0 (Below w2.heap.size w2 yt68) := ⟨below_step hS_.out hb6⟩
        rw [← hx]
        clear hx hb6
        refine ⟨_, rfl, hK_ _ _ hS2 (fun hS_ => ?_)⟩
        clear hK_ hS2
        refine norm_ (a' := ?at69) ?hat69 ?restt69
        case hat69 => go_simp; rfl
        refine pure_ (i := 18) (a' := ?at70) (v := .int .i64 e) #[true, true, true, true, true, true, true, true, true, true, true, true, true, true, true, true, true, true, true, true, true, false, false, true, false] rfl rfl (by kernel_rfl) (fun _ _ _ h => h) (Or.inl ⟨rfl, ?hyt70⟩) ?hat70 ?restt70
        case hyt70 => intro w; have h1 := Hw.out.2.2.2.1; have h2 := Hw.out.2.2.2.2; first | (go_simp; done) | (go_simp; rfl)
        case hat70 => go_simp; rfl
        refine one_ (i := 21) #[true, true, true, true, true, true, true, true, true, true, true, true, true, true, true, true, true, true, true, true, true, true, false, true, false] rfl rfl (by kernel_rfl) (by decide) ?_
        intro K_ hK_
        unfold Shut at hK_
        refine goes_ Tryd.func60 (by kernel_rfl) (by kernel_rfl) #[.slice B6 8 (c6 - 20)] rfl rfl rfl (by go_simp) ?_
        refine (number_any yt68 (Kd.C_below HB6'.out.1 hS_.out) (by have := hc6; omega) HB6'.out.2.1 (by decide)).mono ?_
        rintro e0 _ ⟨rfl, ⟨md, rfl⟩⟩
        rw [HB6'.out.2.2]
        obtain ⟨yt71, hx⟩ : ∃ z, z = World.drewN (yt68) md := ⟨_, rfl⟩
        have hb6 : Below (yt68).heap.size (yt68) yt71 := by rw [hx]; exact pw_below_drewN (Below.refl _ _) md
        have Zt71 := Aside0.mk (And.intro (blk_below Zt68.out.1 hb6) Zt68.out.2)
        have hS2 : Aside0 (Below w2.heap.size w2 yt71) := ⟨below_step hS_.out hb6⟩
        rw [← hx]
        clear hx hb6
        refine ⟨_, rfl, hK_ _ _ hS2 (fun hS_ => ?_)⟩
        clear hK_ hS2
        refine norm_ (a' := ?at72) ?hat72 ?restt72
        case hat72 => go_simp; rfl
        refine pure_ (i := 22) (a' := ?at73) (v := .agg #[.int .u32 (x1 : Nat), .int .u32 (x2 : Nat), .int .u16 (x3 : Nat), .int .u8 (x4 : Nat), .int .i64 e, .int .u64 (x6 : Nat)]) #[true, true, true, true, true, true, true, true, true, true, true, true, true, true, true, true, true, true, true, true, true, true, true, true, false] rfl rfl (by kernel_rfl) (fun _ _ _ h => h) (Or.inl ⟨rfl, ?hyt73⟩) ?hat73 ?restt73
        case hyt73 => intro w; first | (go_simp; done) | (go_simp; rfl)
        case hat73 => go_simp; rfl
        refine norm_ (a' := putAll _ [(21, .int .u64 (x1 : Nat)), (25, .int .u64 (x2 : Nat)), (29, .int .u64 (x3 : Nat)), (36, .int .u64 (x5 : Nat)), (40, .int .u64 (x6 : Nat)), (22, .int .u32 (x1 : Nat)), (26, .int .u32 (x2 : Nat)), (30, .int .u16 (x3 : Nat)), (37, .int .i64 e), (41, .agg #[.int .u32 (x1 : Nat), .int .u32 (x2 : Nat), .int .u16 (x3 : Nat), .int .u8 (x4 : Nat), .int .i64 e, .int .u64 (x6 : Nat)]), (7, .pointer (some ⟨bt60, 0, none⟩))]) ?hz (hcont_ bt60 yt71 ⟨hS_, Zt71.out.1, Zt71.out.2⟩)
        case hz => simp only [putAll]; first | (go_simp; done) | (go_simp; rfl)
    case yt14 =>
      intro K_ hK_
      unfold Shut at hK_
      obtain ⟨bt74, hb⟩ : ∃ b, b = (w2.drew).heap.size := ⟨_, rfl⟩
      obtain ⟨yt74, hx⟩ : ∃ wx, wx = (w2.drew).alloc (.cells #[.int .u32 0, .int .u32 0, .int .u16 0, .int .u8 0, .int .i64 0, .int .u64 0] 56) := ⟨_, rfl⟩
      have hb6 : Below (w2.drew).heap.size (w2.drew) yt74 := by rw [hx]; exact below_alloc (Below.refl _ _) _
      have Zt74 := Aside0.mk (show yt74.heap[bt74]? = some (.cells #[.int .u32 0, .int .u32 0, .int .u16 0, .int .u8 0, .int .i64 0, .int .u64 0] 56 (0, 0)) ∧ w2.heap.size ≤ bt74 from ⟨by rw [hx, hb]; exact heap_alloc_new _ _, by rw [hb]; exact hS_.out.size⟩)
      have hS2 : Aside0 (Below w2.heap.size w2 yt74) := ⟨below_step hS_.out hb6⟩
      refine value_ (v := .pointer (some ⟨bt74, 0, none⟩)) (w1 := yt74) rfl rfl (by subst hx; subst hb; (first | (go_simp; done) | (go_simp; rfl))) ?_
      clear hx hb hb6
      refine hK_ _ _ hS2 (fun hS_ => ?_)
      clear hK_ hS2
      refine norm_ (a' := ?at75) ?hat75 ?restt75
      case hat75 => go_simp; rfl
      refine one_ (i := 2) #[true, true, true, false, true, true, false, false, true, true, false, false, true, true, true, true, true, false, false, true, true, false, false, true, false] rfl rfl (by kernel_rfl) (by decide) ?_
      intro K_ hK_
      unfold Shut at hK_
      refine goes_ Tryd.func60 (by kernel_rfl) (by kernel_rfl) #[.slice B1 4 (c6 - 1)] rfl rfl rfl (by go_simp) ?_
      refine (number_any yt74 (Kd.C_below HB1'.out.1 hS_.out) (by have := hc6; omega) HB1'.out.2.1 (by decide)).mono ?_
      rintro e0 _ ⟨rfl, ⟨md, rfl⟩⟩
      rw [HB1'.out.2.2]
      obtain ⟨yt76, hx⟩ : ∃ z, z = World.drewN (yt74) md := ⟨_, rfl⟩
      have hb6 : Below (yt74).heap.size (yt74) yt76 := by rw [hx]; exact pw_below_drewN (Below.refl _ _) md
      have Zt76 := Aside0.mk (And.intro (blk_below Zt74.out.1 hb6) Zt74.out.2)
      have hS2 : Aside0 (Below w2.heap.size w2 yt76) := ⟨below_step hS_.out hb6⟩
      rw [← hx]
      clear hx hb6
      refine ⟨_, rfl, hK_ _ _ hS2 (fun hS_ => ?_)⟩
      clear hK_ hS2
      refine norm_ (a' := ?at77) ?hat77 ?restt77
      case hat77 => go_simp; rfl
      refine pure_ (i := 3) (a' := ?at78) (v := .int .u32 (x1 : Nat)) #[true, true, true, true, true, true, false, false, true, true, false, false, true, true, true, true, true, false, false, true, true, false, false, true, false] rfl rfl (by kernel_rfl) (fun _ _ _ h => h) (Or.inl ⟨rfl, ?hyt78⟩) ?hat78 ?restt78
      case hyt78 => intro w; have h1 := Hw.out.1; first | (go_simp; done) | (go_simp; rfl)
      case hat78 => go_simp; rfl
      refine one_ (i := 6) #[true, true, true, true, true, true, true, false, true, true, false, false, true, true, true, true, true, false, false, true, true, false, false, true, false] rfl rfl (by kernel_rfl) (by decide) ?_
      intro K_ hK_
      unfold Shut at hK_
      refine goes_ Tryd.func60 (by kernel_rfl) (by kernel_rfl) #[.slice B2 4 (c6 - 5)] rfl rfl rfl (by go_simp) ?_
      refine (number_any yt76 (Kd.C_below HB2'.out.1 hS_.out) (by have := hc6; omega) HB2'.out.2.1 (by decide)).mono ?_
      rintro e0 _ ⟨rfl, ⟨md, rfl⟩⟩
      rw [HB2'.out.2.2]
      obtain ⟨yt79, hx⟩ : ∃ z, z = World.drewN (yt76) md := ⟨_, rfl⟩
      have hb6 : Below (yt76).heap.size (yt76) yt79 := by rw [hx]; exact pw_below_drewN (Below.refl _ _) md
      have Zt79 := Aside0.mk (And.intro (blk_below Zt76.out.1 hb6) Zt76.out.2)
      have hS2 : Aside0 (Below w2.heap.size w2 yt79) := ⟨below_step hS_.out hb6⟩
      rw [← hx]
      clear hx hb6
      refine ⟨_, rfl, hK_ _ _ hS2 (fun hS_ => ?_)⟩
      clear hK_ hS2
      refine norm_ (a' := ?at80) ?hat80 ?restt80
      case hat80 => go_simp; rfl
      refine pure_ (i := 7) (a' := ?at81) (v := .int .u32 (x2 : Nat)) #[true, true, true, true, true, true, true, true, true, true, false, false, true, true, true, true, true, false, false, true, true, false, false, true, false] rfl rfl (by kernel_rfl) (fun _ _ _ h => h) (Or.inl ⟨rfl, ?hyt81⟩) ?hat81 ?restt81
      case hyt81 => intro w; have h1 := Hw.out.2.1; first | (go_simp; done) | (go_simp; rfl)
      case hat81 => go_simp; rfl
      refine one_ (i := 10) #[true, true, true, true, true, true, true, true, true, true, true, false, true, true, true, true, true, false, false, true, true, false, false, true, false] rfl rfl (by kernel_rfl) (by decide) ?_
      intro K_ hK_
      unfold Shut at hK_
      refine goes_ Tryd.func60 (by kernel_rfl) (by kernel_rfl) #[.slice B3 2 (c6 - 9)] rfl rfl rfl (by go_simp) ?_
      refine (number_any yt79 (Kd.C_below HB3'.out.1 hS_.out) (by have := hc6; omega) HB3'.out.2.1 (by decide)).mono ?_
      rintro e0 _ ⟨rfl, ⟨md, rfl⟩⟩
      rw [HB3'.out.2.2]
      obtain ⟨yt82, hx⟩ : ∃ z, z = World.drewN (yt79) md := ⟨_, rfl⟩
      have hb6 : Below (yt79).heap.size (yt79) yt82 := by rw [hx]; exact pw_below_drewN (Below.refl _ _) md
      have Zt82 := Aside0.mk (And.intro (blk_below Zt79.out.1 hb6) Zt79.out.2)
      have hS2 : Aside0 (Below w2.heap.size w2 yt82) := ⟨below_step hS_.out hb6⟩
      rw [← hx]
      clear hx hb6
      refine ⟨_, rfl, hK_ _ _ hS2 (fun hS_ => ?_)⟩
      clear hK_ hS2
      refine norm_ (a' := ?at83) ?hat83 ?restt83
      case hat83 => go_simp; rfl
      refine pure_ (i := 11) (a' := ?at84) (v := .int .u16 (x3 : Nat)) #[true, true, true, true, true, true, true, true, true, true, true, true, true, true, true, true, true, false, false, true, true, false, false, true, false] rfl rfl (by kernel_rfl) (fun _ _ _ h => h) (Or.inl ⟨rfl, ?hyt84⟩) ?hat84 ?restt84
      case hyt84 => intro w; have h1 := Hw.out.2.2.1; first | (go_simp; done) | (go_simp; rfl)
      case hat84 => go_simp; rfl
      refine one_ (i := 17) #[true, true, true, true, true, true, true, true, true, true, true, true, true, true, true, true, true, true, false, true, true, false, false, true, false] rfl rfl (by kernel_rfl) (by decide) ?_
      intro K_ hK_
      unfold Shut at hK_
      refine goes_ Tryd.func60 (by kernel_rfl) (by kernel_rfl) #[.slice B5 8 (c6 - 12)] rfl rfl rfl (by go_simp) ?_
      refine (number_any yt82 (Kd.C_below HB5'.out.1 hS_.out) (by have := hc6; omega) HB5'.out.2.1 (by decide)).mono ?_
      rintro e0 _ ⟨rfl, ⟨md, rfl⟩⟩
      rw [HB5'.out.2.2]
      obtain ⟨yt85, hx⟩ : ∃ z, z = World.drewN (yt82) md := ⟨_, rfl⟩
      have hb6 : Below (yt82).heap.size (yt82) yt85 := by rw [hx]; exact pw_below_drewN (Below.refl _ _) md
      have Zt85 := Aside0.mk (And.intro (blk_below Zt82.out.1 hb6) Zt82.out.2)
      have hS2 : Aside0 (Below w2.heap.size w2 yt85) := ⟨below_step hS_.out hb6⟩
      rw [← hx]
      clear hx hb6
      refine ⟨_, rfl, hK_ _ _ hS2 (fun hS_ => ?_)⟩
      clear hK_ hS2
      refine norm_ (a' := ?at86) ?hat86 ?restt86
      case hat86 => go_simp; rfl
      refine pure_ (i := 18) (a' := ?at87) (v := .int .i64 e) #[true, true, true, true, true, true, true, true, true, true, true, true, true, true, true, true, true, true, true, true, true, false, false, true, false] rfl rfl (by kernel_rfl) (fun _ _ _ h => h) (Or.inl ⟨rfl, ?hyt87⟩) ?hat87 ?restt87
      case hyt87 => intro w; have h1 := Hw.out.2.2.2.1; have h2 := Hw.out.2.2.2.2; first | (go_simp; done) | (go_simp; rfl)
      case hat87 => go_simp; rfl
      refine one_ (i := 21) #[true, true, true, true, true, true, true, true, true, true, true, true, true, true, true, true, true, true, true, true, true, true, false, true, false] rfl rfl (by kernel_rfl) (by decide) ?_
      intro K_ hK_
      unfold Shut at hK_
      refine goes_ Tryd.func60 (by kernel_rfl) (by kernel_rfl) #[.slice B6 8 (c6 - 20)] rfl rfl rfl (by go_simp) ?_
      refine (number_any yt85 (Kd.C_below HB6'.out.1 hS_.out) (by have := hc6; omega) HB6'.out.2.1 (by decide)).mono ?_
      rintro e0 _ ⟨rfl, ⟨md, rfl⟩⟩
      rw [HB6'.out.2.2]
      obtain ⟨yt88, hx⟩ : ∃ z, z = World.drewN (yt85) md := ⟨_, rfl⟩
      have hb6 : Below (yt85).heap.size (yt85) yt88 := by rw [hx]; exact pw_below_drewN (Below.refl _ _) md
      have Zt88 := Aside0.mk (And.intro (blk_below Zt85.out.1 hb6) Zt85.out.2)
      have hS2 : Aside0 (Below w2.heap.size w2 yt88) := ⟨below_step hS_.out hb6⟩
      rw [← hx]
      clear hx hb6
      refine ⟨_, rfl, hK_ _ _ hS2 (fun hS_ => ?_)⟩
      clear hK_ hS2
      refine norm_ (a' := ?at89) ?hat89 ?restt89
      case hat89 => go_simp; rfl
      refine pure_ (i := 22) (a' := ?at90) (v := .agg #[.int .u32 (x1 : Nat), .int .u32 (x2 : Nat), .int .u16 (x3 : Nat), .int .u8 (x4 : Nat), .int .i64 e, .int .u64 (x6 : Nat)]) #[true, true, true, true, true, true, true, true, true, true, true, true, true, true, true, true, true, true, true, true, true, true, true, true, false] rfl rfl (by kernel_rfl) (fun _ _ _ h => h) (Or.inl ⟨rfl, ?hyt90⟩) ?hat90 ?restt90
      case hyt90 => intro w; first | (go_simp; done) | (go_simp; rfl)
      case hat90 => go_simp; rfl
      refine norm_ (a' := putAll _ [(21, .int .u64 (x1 : Nat)), (25, .int .u64 (x2 : Nat)), (29, .int .u64 (x3 : Nat)), (36, .int .u64 (x5 : Nat)), (40, .int .u64 (x6 : Nat)), (22, .int .u32 (x1 : Nat)), (26, .int .u32 (x2 : Nat)), (30, .int .u16 (x3 : Nat)), (37, .int .i64 e), (41, .agg #[.int .u32 (x1 : Nat), .int .u32 (x2 : Nat), .int .u16 (x3 : Nat), .int .u8 (x4 : Nat), .int .i64 e, .int .u64 (x6 : Nat)]), (7, .pointer (some ⟨bt74, 0, none⟩))]) ?hz (hcont_ bt74 yt88 ⟨hS_, Zt88.out.1, Zt88.out.2⟩)
      case hz => simp only [putAll]; first | (go_simp; done) | (go_simp; rfl)
  case cont =>
    rintro g7 w3 ⟨hS3, h7, l7⟩
    have H7 := Aside0.mk h7
    have Hl7 := Aside0.mk l7
    clear h7 l7 hS_
    have hS_ := hS3
    refine norm_ (a' := ?ac) ?hac ?restc
    case hac => simp only [putAll]; go_simp; rfl
    refine one_ (i := 24) #[true, true, true, true, true, true, true, true, true, true, true, true, true, true, true, true, true, true, true, true, true, true, true, true, true] rfl rfl (by kernel_rfl) (by decide) ?_
    intro K_ hK_
    unfold Shut at hK_
    refine skip_ rfl rfl (run_store_row 56 (.tmp 7) (.tmp 41) rfl g7 0 #[.int .u32 (x1 : Nat), .int .u32 (x2 : Nat), .int .u16 (x3 : Nat), .int .u8 (x4 : Nat), .int .i64 e, .int .u64 (x6 : Nat)] rfl rfl (there_block H7.out 0 _ (by show 0 + 6 ≤ 6; omega)) sizeR56 (by simp [Value.oneCell'])) ?_
    have hS4 : Aside0 (Below w2.heap.size w2 (w3.setCells g7 0 (#[.int .u32 (x1 : Nat), .int .u32 (x2 : Nat), .int .u16 (x3 : Nat), .int .u8 (x4 : Nat), .int .i64 e, .int .u64 (x6 : Nat)] : Array Value).toList)) := ⟨setCells_below _ hS_.out Hl7.out⟩
    refine hK_ _ _ hS4 (fun hS_ => ?_)
    clear hK_ hS4
    refine norm_ (a' := ?at91) ?hat91 ?restt91
    case hat91 => go_simp; rfl
    refine done_ (by kernel_rfl) ?_
    have R7 : Aside0 ((w3.setCells g7 0 (#[.int .u32 (x1 : Nat), .int .u32 (x2 : Nat), .int .u16 (x3 : Nat), .int .u8 (x4 : Nat), .int .i64 e, .int .u64 (x6 : Nat)] : Array Value).toList).heap[g7]? = some (.cells #[.int .u32 (x1 : Nat), .int .u32 (x2 : Nat), .int .u16 (x3 : Nat), .int .u8 (x4 : Nat), .int .i64 e, .int .u64 (x6 : Nat)] 56 (0, 0))) := ⟨row_set H7.out rfl⟩
    obtain ⟨w4, hw4⟩ : ∃ w4, w4 = w3.setCells g7 0 (#[.int .u32 (x1 : Nat), .int .u32 (x2 : Nat), .int .u16 (x3 : Nat), .int .u8 (x4 : Nat), .int .i64 e, .int .u64 (x6 : Nat)] : Array Value).toList := ⟨_, rfl⟩
    have HB4 := Aside0.mk (below_step HBw.out hS_.out)
    have HC4 := Aside0.mk (Kd.C_below HC.out HB4.out)
    have H4 := Aside0.mk (blk_below H2.out hS_.out)
    rw [← hw4] at R7 HB4 HC4 H4
    try rw [← hw4]
    clear hw4 hS_ hS3 hS H7
    go_wp2_with (first | ((with_reducible refine gate_dst (N := 43) rfl ?_); refine wpList_load_row rfl 56 (.tmp 7) rfl g7 rfl 56 (#[.int .u32 (x1 : Nat), .int .u32 (x2 : Nat), .int .u16 (x3 : Nat), .int .u8 (x4 : Nat), .int .i64 e, .int .u64 (x6 : Nat)]) (0, 0) _ R7.out hu56 rfl sizeR56 ?_))
    refine (refseal43 (t := ⟨x1, x2, x3, x4, e, x6⟩) _ HC4.out Hx.out.1 Hx.out.2.1 Hx.out.2.2 Hok3.out).mono ?_
    rintro e5 w5 ⟨rfl, hb5⟩
    rw [HF.out]
    have R75 := Aside0.mk (blk_below R7.out hb5)
    have H5 := Aside0.mk (blk_below H4.out hb5)
    have HB5 := Aside0.mk (below_step HB4.out hb5)
    clear hb5 R7 H4 HB4
    by_cases hFs : F = s
    · have hne : (F.toList == s.toList) = true := by rw [hFs]; exact beq_self_eq_true _
      have Hif := Aside0.mk hFs
      clear hFs
      go_wp2_with (first | ((with_reducible refine gate_dst (N := 48) rfl ?_); refine wpList_load_row rfl 56 (.tmp 7) rfl g7 rfl 56 (#[.int .u32 (x1 : Nat), .int .u32 (x2 : Nat), .int .u16 (x3 : Nat), .int .u8 (x4 : Nat), .int .i64 e, .int .u64 (x6 : Nat)]) (0, 0) _ R75.out hu56 rfl sizeR56 ?_) | ((with_reducible refine gate_store (t := 56) (p := 4) rfl ?_); refine store_row ?hg (ty := 56) (p := 4) (v := ?vr_1) ?ho ?hd (g := g4) (t := 56) (old := #[.int .u32 0, .int .u32 0, .int .u16 0, .int .u8 0, .int .i64 0, .int .u64 0]) (cells := #[.int .u32 (x1 : Nat), .int .u32 (x2 : Nat), .int .u16 (x3 : Nat), .int .u8 (x4 : Nat), .int .i64 e, .int .u64 (x6 : Nat)]) ?hx ?hy H5.out sizeR56 rfl (by simp [Value.oneCell']) ?_; (case hd => rfl); (case hg => rfl); (case ho => rfl); (case hx => rfl); (case hy => rfl); intro w6 hbox_ hk_ hb_; have H6 := Aside0.mk hbox_; have HB6 := Aside0.mk (HB5.out.trans (hb_.mono Hg4.out));clear hbox_ hk_ hb_))
      refine bodyPost_ret (results_ct rfl _ _ g4 56 #[.int .u32 (x1 : Nat), .int .u32 (x2 : Nat), .int .u16 (x3 : Nat), .int .u8 (x4 : Nat), .int .i64 e, .int .u64 (x6 : Nat)] (0, 0) _ rfl H6.out hu56 rfl sizeR56) rfl ?_
      exact ⟨by rw [HR.out, if_pos Hif.out]; rfl, HB6.out⟩
    · have hne : (F.toList == s.toList) = false := by rw [beq_eq_false_iff_ne]; exact fun h => hFs (toList_inj h)
      have Hif := Aside0.mk hFs
      clear hFs
      go_wp2_with (first | ((with_reducible refine gate_store (t := 56) (p := 4) rfl ?_); refine store_row ?hg (ty := 56) (p := 4) (v := ?vr_2) ?ho ?hd (g := g4) (t := 56) (old := #[.int .u32 0, .int .u32 0, .int .u16 0, .int .u8 0, .int .i64 0, .int .u64 0]) (cells := #[.int .u32 0, .int .u32 0, .int .u16 0, .int .u8 0, .int .i64 0, .int .u64 0]) ?hx ?hy H5.out sizeR56 rfl (by simp [Value.oneCell']) ?_; (case hd => rfl); (case hg => rfl); (case ho => rfl); (case hx => rfl); (case hy => rfl); intro w6 hbox_ hk_ hb_; have H6 := Aside0.mk hbox_; have HB6 := Aside0.mk (HB5.out.trans (hb_.mono Hg4.out));clear hbox_ hk_ hb_))
      refine bodyPost_ret (results_ct rfl _ _ g4 56 #[.int .u32 0, .int .u32 0, .int .u16 0, .int .u8 0, .int .i64 0, .int .u64 0] (0, 0) _ rfl H6.out hu56 rfl sizeR56) rfl ?_
      exact ⟨by rw [HR.out, if_neg Hif.out]; rfl, HB6.out⟩
theorem ref49_any {A : Option Addr} {n0 c0 : Nat} {key : List Int} {s : ByteArray} (w : World) (hC : (Kd.int .u8).C w A n0 key) (hc : n0 ≤ c0) (hby : Byt key) (hm : key.length ≤ 1000000) (hsz : s.size ≤ 1000) :
    Calls Tryd.prog 49 #[.slice A n0 c0, .string s] w fun e w' => e = .returned (.tuple #[.agg #[.int .u32 (refN key s).1.p, .int .u32 (refN key s).1.m, .int .u16 (refN key s).1.i, .int .u8 (refN key s).1.s, .int .i64 (refN key s).1.e, .int .u64 (refN key s).1.n], .int .i64 (refN key s).2]) ∧ Below w.heap.size w w' := by
  by_cases h : s.size = 60 ∧ bt s 0 = 106
  · refine (ref49_main w hC hc hby hm h.1 h.2).mono ?_
    rintro e w' ⟨rfl, hb⟩
    refine ⟨?_, hb⟩
    unfold refN
    rw [if_pos h]
    by_cases hf : strOfNums ((Tn.of (bytesOf s)).front ++ tag key (Tn.of (bytesOf s)).front) = s
    · rw [if_pos hf, if_pos hf]
    · rw [if_neg hf, if_neg hf]; rfl
  · have e : refN key s = (Tn.zero, 7) := by unfold refN; rw [if_neg h]
    rw [e]
    exact ref49_form w hsz (by
      by_cases h1 : s.size = 60
      · exact .inr fun h2 => h ⟨h1, h2⟩
      · exact .inl h1)
end Go.Proofs.YtpigkgnmegpddaaDoor.Sh
