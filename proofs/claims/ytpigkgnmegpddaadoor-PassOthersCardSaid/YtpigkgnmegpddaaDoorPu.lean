/-
ref06.OpenTicket, walked where the form is right.
-/
import Derived.Test.YtpigkgnmegpddaaDoorPm
namespace Go.Proofs.YtpigkgnmegpddaaDoor.Sh
set_option linter.unusedVariables false
set_option linter.unusedSimpArgs false
open Go.RowKit Go.Proofs.YtpigkgnmegpddaaDoorW.PrintWords Go.Proofs.YtpigkgnmegpddaaDoorW.PrintLast Go.Proofs.YtpigkgnmegpddaaDoorW.PrintMore

theorem toList_inj {a b : ByteArray} (h : a.toList = b.toList) : a = b := by
  rw [ByteArray.toList_eq, ByteArray.toList_eq] at h
  cases a
  cases b
  congr
  exact Array.toList_inj.1 h
set_option maxRecDepth 100000 in
set_option maxHeartbeats 8000000 in
theorem ref47_main {A : Option Addr} {n0 c0 : Nat} {key : List Int} {s : ByteArray} (w : World) (hC : (Kd.int .u8).C w A n0 key) (hc : n0 ≤ c0) (hby : Byt key) (hm : key.length ≤ 1000000) (h1 : s.size = 53) (h0 : bt s 0 = 116) :
    Calls Tryd.prog 47 #[.slice A n0 c0, .string s] w fun e w' => e = .returned (if strOfNums ((Tk.of (bytesOf s)).front ++ tag key (Tk.of (bytesOf s)).front) = s then .tuple #[.agg #[.int .u32 (Tk.of (bytesOf s)).p, .int .i64 (Tk.of (bytesOf s)).e, .int .u64 (Tk.of (bytesOf s)).n], .int .i64 0] else .tuple #[.agg #[.int .u32 0, .int .i64 0, .int .u64 0], .int .i64 8]) ∧ Below w.heap.size w w' := by
  have hu53 := Tryd.underlying53
  have HC := Aside0.mk hC
  have Hx := Aside0.mk (And.intro hc (And.intro hby hm))
  clear hC hc hby hm
  have h00 : ((s[0]'(by omega)).toNat : Int) = bt s 0 := bt_at s 0 (by show (0 : Int).toNat < s.size; simp; omega)
  obtain ⟨x1, hx1⟩ : ∃ x, x = numb (((bytesOf s).drop 1).take 4) := ⟨_, rfl⟩
  obtain ⟨x2, hx2⟩ : ∃ x, x = numb (((bytesOf s).drop 5).take 8) := ⟨_, rfl⟩
  obtain ⟨x3, hx3⟩ : ∃ x, x = numb (((bytesOf s).drop 13).take 8) := ⟨_, rfl⟩
  obtain ⟨e, he⟩ : ∃ e, e = sg x2 := ⟨_, rfl⟩
  have Hok := Aside0.mk (Tk.of_ok (bytesOf_byt s) (by rw [bytesOf_length]; omega))
  have Hw : Aside0 (IntKind.u32.wrap (x1 : Int) = (x1 : Int) ∧ (x1 : Int) % 4294967296 = (x1 : Int) ∧ IntKind.i64.wrap (x2 : Int) = e ∧ wrap64 (x2 : Int) = e) := ⟨by
    have h3 : x1 < 4294967296 := by rw [hx1]; exact Hok.out.1
    have h4 : x2 < 18446744073709551616 := by
      rw [hx2]
      refine Nat.lt_of_lt_of_le (numb_lt (((bytesOf_byt s).drop 5).take 8)) ?_
      rw [List.length_take]
      exact Nat.le_trans (Nat.pow_le_pow_right (n := 256) (by decide) (Nat.min_le_left 8 _)) (by decide)
    have h5 := wrap_sg h4
    exact ⟨by simp only [IntKind.wrap, IntKind.signed, IntKind.bits, Bool.false_and, Bool.false_eq_true, if_false]; omega, by omega, by rw [h5, he], by rw [← i64_w, h5, he]⟩⟩
  have He := Aside0.mk he
  clear he
  have Hxs := Aside0.mk (And.intro hx1 (And.intro hx2 hx3))
  have hTk : Tk.of (bytesOf s) = ⟨x1, e, x3⟩ := by rw [He.out, Hxs.out.1, Hxs.out.2.1, Hxs.out.2.2]; rfl
  have HTk := Aside0.mk hTk
  have Hok3 : Aside0 (Tk.ok ⟨x1, e, x3⟩) := ⟨by rw [← hTk]; exact Hok.out⟩
  rw [hTk]
  clear hTk
  obtain ⟨F, hF⟩ : ∃ F, F = strOfNums ((Tk.mk x1 e x3).front ++ tag key (Tk.mk x1 e x3).front) := ⟨_, rfl⟩
  have HF := Aside0.mk hF.symm
  rw [← hF]
  clear hF
  obtain ⟨R, hR⟩ : ∃ R : Value, R = (if F = s then .tuple #[.agg #[.int .u32 ((Tk.mk x1 e x3).p : Nat), .int .i64 (Tk.mk x1 e x3).e, .int .u64 ((Tk.mk x1 e x3).n : Nat)], .int .i64 0] else .tuple #[.agg #[.int .u32 0, .int .i64 0, .int .u64 0], .int .i64 8]) := ⟨_, rfl⟩
  have HR := Aside0.mk hR
  rw [← hR]
  clear hR
  have HX1 : Aside0 (numb (((bytesOf s).drop 1).take 4) = x1) := ⟨hx1.symm⟩
  have HX2 : Aside0 (numb (((bytesOf s).drop 5).take 8) = x2) := ⟨hx2.symm⟩
  have HX3 : Aside0 (numb (((bytesOf s).drop 13).take 8) = x3) := ⟨hx3.symm⟩
  clear hx1 hx2 hx3
  go_enter Tryd.func47, Tryd.ntmps47
  go_wp2_with (first | ((with_reducible refine gate_dst (N := 4) rfl ?_); refine box_event ?hg (N := 4) ?hd (cs := #[.int .u32 0, .int .i64 0, .int .u64 0]) (t := 53) ?hr ?_; (case hd => rfl); (case hg => rfl); (case hr => first | (go_simp; done) | (go_simp; rfl)); intro g4 hg_ w1 hbox_ hb_; have H1 := Aside0.mk hbox_; have HB1 := Aside0.mk hb_; have Hg4 := Aside0.mk (show w.heap.size ≤ g4 from Nat.le_of_eq hg_.symm);clear hg_ hbox_ hb_) | ((with_reducible refine gate_dst (N := 18) rfl ?_); refine conv_bytes ?hg (N := 18) ?hd (.tmp 17) ?ho s ?hx (by omega) ?_; (case hg => rfl); (case hd => rfl); (case ho => rfl); (case hx => rfl); intro A6 c6 w2 hc_ hC_ hb_; have HC6 := Aside0.mk hC_; have hc6 := hc_; have HBw := Aside0.mk (below_step HB1.out hb_); have H2 := Aside0.mk (blk_below H1.out hb_); clear hc_ hC_ hb_))
  rw [h1] at hc6 HC6
  have hcut := fun l k hk => cut_bytes HC6.out hc6 l k hk
  obtain ⟨B1, hB1, hC1⟩ := hcut 1 4 (by decide)
  obtain ⟨B2, hB2, hC2⟩ := hcut 5 8 (by decide)
  obtain ⟨B3, hB3, hC3⟩ := hcut 13 8 (by decide)
  have HB1' := Aside0.mk (And.intro hC1 (And.intro (((bytesOf_byt s).drop 1).take 4) HX1.out))
  have HB2' := Aside0.mk (And.intro hC2 (And.intro (((bytesOf_byt s).drop 5).take 8) HX2.out))
  have HB3' := Aside0.mk (And.intro hC3 (And.intro (((bytesOf_byt s).drop 13).take 8) HX3.out))
  clear hC1 hC2 hC3 hcut
  have hS : (fun W : World => Aside0 (Below w2.heap.size w2 W)) w2.drew := ⟨below_drew (Below.refl _ _)⟩
  refine start_ (S := fun W : World => Aside0 (Below w2.heap.size w2 W)) (ds := []) #[false, false, false, false, false, false, false, false, false, false, false, false, false, false] (by kernel_rfl) rfl rfl hS ?_
  intro hS_
  refine pure_ (i := 0) (a' := ?at1) (v := .slice A6 53 c6) #[true, false, false, false, false, false, false, false, false, false, false, false, false, false] rfl rfl (by kernel_rfl) (fun _ _ _ h => h) (Or.inl ⟨rfl, ?hyt1⟩) ?hat1 ?restt1
  case hyt1 => intro w; first | (go_simp; done) | (go_simp; with_reducible rfl) | (go_simp; rfl)
  case hat1 => go_simp; rfl
  refine pure_ (i := 1) (a' := ?at2) (v := .slice B1 4 (c6 - 1)) #[true, true, false, false, false, false, false, false, false, false, false, false, false, false] rfl rfl (by kernel_rfl) (fun _ _ _ h => h) ?hyt2 ?hat2 ?restt2
  case hyt2 => exact yields_cut rfl (.tmp 19) (.const (.int .i64 1)) (.const (.int .i64 5)) rfl rfl rfl rfl hB1
  case hat2 => go_simp; rfl
  refine pure_ (i := 4) (a' := ?at3) (v := .slice A6 53 c6) #[true, true, false, false, true, false, false, false, false, false, false, false, false, false] rfl rfl (by kernel_rfl) (fun _ _ _ h => h) (Or.inl ⟨rfl, ?hyt3⟩) ?hat3 ?restt3
  case hyt3 => intro w; first | (go_simp; done) | (go_simp; with_reducible rfl) | (go_simp; rfl)
  case hat3 => go_simp; rfl
  refine pure_ (i := 5) (a' := ?at4) (v := .slice B2 8 (c6 - 5)) #[true, true, false, false, true, true, false, false, false, false, false, false, false, false] rfl rfl (by kernel_rfl) (fun _ _ _ h => h) ?hyt4 ?hat4 ?restt4
  case hyt4 => exact yields_cut rfl (.tmp 23) (.const (.int .i64 5)) (.const (.int .i64 13)) rfl rfl rfl rfl hB2
  case hat4 => go_simp; rfl
  refine pure_ (i := 8) (a' := ?at5) (v := .slice A6 53 c6) #[true, true, false, false, true, true, false, false, true, false, false, false, false, false] rfl rfl (by kernel_rfl) (fun _ _ _ h => h) (Or.inl ⟨rfl, ?hyt5⟩) ?hat5 ?restt5
  case hyt5 => intro w; first | (go_simp; done) | (go_simp; with_reducible rfl) | (go_simp; rfl)
  case hat5 => go_simp; rfl
  refine pure_ (i := 9) (a' := ?at6) (v := .slice B3 8 (c6 - 13)) #[true, true, false, false, true, true, false, false, true, true, false, false, false, false] rfl rfl (by kernel_rfl) (fun _ _ _ h => h) ?hyt6 ?hat6 ?restt6
  case hyt6 => exact yields_cut rfl (.tmp 27) (.const (.int .i64 13)) (.const (.int .i64 21)) rfl rfl rfl rfl hB3
  case hat6 => go_simp; rfl
  refine join_ 1 #[true, true, true, true, true, true, true, true, true, true, true, true, true, false] (fun b : Nat => [(21, .int .u64 (x1 : Nat)), (25, .int .u64 (x2 : Nat)), (29, .int .u64 (x3 : Nat)), (22, .int .u32 (x1 : Nat)), (26, .int .i64 e), (30, .agg #[.int .u32 (x1 : Nat), .int .i64 e, .int .u64 (x3 : Nat)]), (7, .pointer (some ⟨b, 0, none⟩))]) (fun b W => Aside0 (Below w2.heap.size w2 W) ∧ W.heap[b]? = some (.cells #[.int .u32 0, .int .i64 0, .int .u64 0] 53 (0, 0)) ∧ w2.heap.size ≤ b) ?cont ?tree
  case tree =>
    intro hcont_
    refine two_ (i := 2) (j := 12) #[true, true, true, false, true, true, false, false, true, true, false, false, false, false] #[true, true, false, false, true, true, false, false, true, true, false, false, true, false] rfl rfl rfl rfl (by kernel_rfl) (by decide) (by decide) ?xt7 ?yt7
    case xt7 =>
      intro K_ hK_
      unfold Shut at hK_
      refine goes_ Tryd.func60 (by kernel_rfl) (by kernel_rfl) #[.slice B1 4 (c6 - 1)] rfl rfl rfl (by go_simp) ?_
      refine (number_any w2.drew (Kd.C_below HB1'.out.1 hS_.out) (by have := hc6; omega) HB1'.out.2.1 (by decide)).mono ?_
      rintro e0 _ ⟨rfl, ⟨md, rfl⟩⟩
      rw [HB1'.out.2.2]
      obtain ⟨yt8, hx⟩ : ∃ z, z = World.drewN (w2.drew) md := ⟨_, rfl⟩
      have hb6 : Below (w2.drew).heap.size (w2.drew) yt8 := by rw [hx]; exact pw_below_drewN (Below.refl _ _) md
      have hS2 : Aside0 (Below w2.heap.size w2 yt8) := ⟨below_step hS_.out hb6⟩
      rw [← hx]
      clear hx hb6
      refine ⟨_, rfl, hK_ _ _ hS2 (fun hS_ => ?_)⟩
      clear hK_ hS2
      refine norm_ (a' := ?at9) ?hat9 ?restt9
      case hat9 => go_simp; rfl
      refine pure_ (i := 3) (a' := ?at10) (v := .int .u32 (x1 : Nat)) #[true, true, true, true, true, true, false, false, true, true, false, false, false, false] rfl rfl (by kernel_rfl) (fun _ _ _ h => h) (Or.inl ⟨rfl, ?hyt10⟩) ?hat10 ?restt10
      case hyt10 => intro w; have h1 := Hw.out.1; have h2 := Hw.out.2.1; first | (go_simp; done) | (go_simp; rfl)
      case hat10 => go_simp; rfl
      refine two_ (i := 6) (j := 12) #[true, true, true, true, true, true, true, false, true, true, false, false, false, false] #[true, true, true, true, true, true, false, false, true, true, false, false, true, false] rfl rfl rfl rfl (by kernel_rfl) (by decide) (by decide) ?xt11 ?yt11
      case xt11 =>
        intro K_ hK_
        unfold Shut at hK_
        refine goes_ Tryd.func60 (by kernel_rfl) (by kernel_rfl) #[.slice B2 8 (c6 - 5)] rfl rfl rfl (by go_simp) ?_
        refine (number_any yt8 (Kd.C_below HB2'.out.1 hS_.out) (by have := hc6; omega) HB2'.out.2.1 (by decide)).mono ?_
        rintro e0 _ ⟨rfl, ⟨md, rfl⟩⟩
        rw [HB2'.out.2.2]
        obtain ⟨yt12, hx⟩ : ∃ z, z = World.drewN (yt8) md := ⟨_, rfl⟩
        have hb6 : Below (yt8).heap.size (yt8) yt12 := by rw [hx]; exact pw_below_drewN (Below.refl _ _) md
        have hS2 : Aside0 (Below w2.heap.size w2 yt12) := ⟨below_step hS_.out hb6⟩
        rw [← hx]
        clear hx hb6
        refine ⟨_, rfl, hK_ _ _ hS2 (fun hS_ => ?_)⟩
        clear hK_ hS2
        refine norm_ (a' := ?at13) ?hat13 ?restt13
        case hat13 => go_simp; rfl
        refine pure_ (i := 7) (a' := ?at14) (v := .int .i64 e) #[true, true, true, true, true, true, true, true, true, true, false, false, false, false] rfl rfl (by kernel_rfl) (fun _ _ _ h => h) (Or.inl ⟨rfl, ?hyt14⟩) ?hat14 ?restt14
        case hyt14 => intro w; have h1 := Hw.out.2.2.1; have h2 := Hw.out.2.2.2; first | (go_simp; done) | (go_simp; rfl)
        case hat14 => go_simp; rfl
        refine two_ (i := 10) (j := 12) #[true, true, true, true, true, true, true, true, true, true, true, false, false, false] #[true, true, true, true, true, true, true, true, true, true, false, false, true, false] rfl rfl rfl rfl (by kernel_rfl) (by decide) (by decide) ?xt15 ?yt15
        case xt15 =>
          intro K_ hK_
          unfold Shut at hK_
          refine goes_ Tryd.func60 (by kernel_rfl) (by kernel_rfl) #[.slice B3 8 (c6 - 13)] rfl rfl rfl (by go_simp) ?_
          refine (number_any yt12 (Kd.C_below HB3'.out.1 hS_.out) (by have := hc6; omega) HB3'.out.2.1 (by decide)).mono ?_
          rintro e0 _ ⟨rfl, ⟨md, rfl⟩⟩
          rw [HB3'.out.2.2]
          obtain ⟨yt16, hx⟩ : ∃ z, z = World.drewN (yt12) md := ⟨_, rfl⟩
          have hb6 : Below (yt12).heap.size (yt12) yt16 := by rw [hx]; exact pw_below_drewN (Below.refl _ _) md
          have hS2 : Aside0 (Below w2.heap.size w2 yt16) := ⟨below_step hS_.out hb6⟩
          rw [← hx]
          clear hx hb6
          refine ⟨_, rfl, hK_ _ _ hS2 (fun hS_ => ?_)⟩
          clear hK_ hS2
          refine norm_ (a' := ?at17) ?hat17 ?restt17
          case hat17 => go_simp; rfl
          refine pure_ (i := 11) (a' := ?at18) (v := .agg #[.int .u32 (x1 : Nat), .int .i64 e, .int .u64 (x3 : Nat)]) #[true, true, true, true, true, true, true, true, true, true, true, true, false, false] rfl rfl (by kernel_rfl) (fun _ _ _ h => h) (Or.inl ⟨rfl, ?hyt18⟩) ?hat18 ?restt18
          case hyt18 => intro w; first | (go_simp; done) | (go_simp; rfl)
          case hat18 => go_simp; rfl
          refine one_ (i := 12) #[true, true, true, true, true, true, true, true, true, true, true, true, true, false] rfl rfl (by kernel_rfl) (by decide) ?_
          intro K_ hK_
          unfold Shut at hK_
          obtain ⟨bt19, hb⟩ : ∃ b, b = (yt16).heap.size := ⟨_, rfl⟩
          obtain ⟨yt19, hx⟩ : ∃ wx, wx = (yt16).alloc (.cells #[.int .u32 0, .int .i64 0, .int .u64 0] 53) := ⟨_, rfl⟩
          have hb6 : Below (yt16).heap.size (yt16) yt19 := by rw [hx]; exact below_alloc (Below.refl _ _) _
          have Zt19 := Aside0.mk (show yt19.heap[bt19]? = some (.cells #[.int .u32 0, .int .i64 0, .int .u64 0] 53 (0, 0)) ∧ w2.heap.size ≤ bt19 from ⟨by rw [hx, hb]; exact heap_alloc_new _ _, by rw [hb]; exact hS_.out.size⟩)
          have hS2 : Aside0 (Below w2.heap.size w2 yt19) := ⟨below_step hS_.out hb6⟩
          refine value_ (v := .pointer (some ⟨bt19, 0, none⟩)) (w1 := yt19) rfl rfl (by subst hx; subst hb; (first | (go_simp; done) | (go_simp; rfl))) ?_
          clear hx hb hb6
          refine hK_ _ _ hS2 (fun hS_ => ?_)
          clear hK_ hS2
          refine norm_ (a' := ?at20) ?hat20 ?restt20
          case hat20 => go_simp; rfl
          refine norm_ (a' := putAll _ [(21, .int .u64 (x1 : Nat)), (25, .int .u64 (x2 : Nat)), (29, .int .u64 (x3 : Nat)), (22, .int .u32 (x1 : Nat)), (26, .int .i64 e), (30, .agg #[.int .u32 (x1 : Nat), .int .i64 e, .int .u64 (x3 : Nat)]), (7, .pointer (some ⟨bt19, 0, none⟩))]) ?hz (hcont_ bt19 yt19 ⟨hS_, Zt19.out.1, Zt19.out.2⟩)
          case hz => simp only [putAll]; first | (go_simp; done) | (go_simp; rfl)
        case yt15 =>
          intro K_ hK_
          unfold Shut at hK_
          obtain ⟨bt21, hb⟩ : ∃ b, b = (yt12).heap.size := ⟨_, rfl⟩
          obtain ⟨yt21, hx⟩ : ∃ wx, wx = (yt12).alloc (.cells #[.int .u32 0, .int .i64 0, .int .u64 0] 53) := ⟨_, rfl⟩
          have hb6 : Below (yt12).heap.size (yt12) yt21 := by rw [hx]; exact below_alloc (Below.refl _ _) _
          have Zt21 := Aside0.mk (show yt21.heap[bt21]? = some (.cells #[.int .u32 0, .int .i64 0, .int .u64 0] 53 (0, 0)) ∧ w2.heap.size ≤ bt21 from ⟨by rw [hx, hb]; exact heap_alloc_new _ _, by rw [hb]; exact hS_.out.size⟩)
          have hS2 : Aside0 (Below w2.heap.size w2 yt21) := ⟨below_step hS_.out hb6⟩
          refine value_ (v := .pointer (some ⟨bt21, 0, none⟩)) (w1 := yt21) rfl rfl (by subst hx; subst hb; (first | (go_simp; done) | (go_simp; rfl))) ?_
          clear hx hb hb6
          refine hK_ _ _ hS2 (fun hS_ => ?_)
          clear hK_ hS2
          refine norm_ (a' := ?at22) ?hat22 ?restt22
          case hat22 => go_simp; rfl
          refine one_ (i := 10) #[true, true, true, true, true, true, true, true, true, true, true, false, true, false] rfl rfl (by kernel_rfl) (by decide) ?_
          intro K_ hK_
          unfold Shut at hK_
          refine goes_ Tryd.func60 (by kernel_rfl) (by kernel_rfl) #[.slice B3 8 (c6 - 13)] rfl rfl rfl (by go_simp) ?_
          refine (number_any yt21 (Kd.C_below HB3'.out.1 hS_.out) (by have := hc6; omega) HB3'.out.2.1 (by decide)).mono ?_
          rintro e0 _ ⟨rfl, ⟨md, rfl⟩⟩
          rw [HB3'.out.2.2]
          obtain ⟨yt23, hx⟩ : ∃ z, z = World.drewN (yt21) md := ⟨_, rfl⟩
          have hb6 : Below (yt21).heap.size (yt21) yt23 := by rw [hx]; exact pw_below_drewN (Below.refl _ _) md
          have Zt23 := Aside0.mk (And.intro (blk_below Zt21.out.1 hb6) Zt21.out.2)
          have hS2 : Aside0 (Below w2.heap.size w2 yt23) := ⟨below_step hS_.out hb6⟩
          rw [← hx]
          clear hx hb6
          refine ⟨_, rfl, hK_ _ _ hS2 (fun hS_ => ?_)⟩
          clear hK_ hS2
          refine norm_ (a' := ?at24) ?hat24 ?restt24
          case hat24 => go_simp; rfl
          refine pure_ (i := 11) (a' := ?at25) (v := .agg #[.int .u32 (x1 : Nat), .int .i64 e, .int .u64 (x3 : Nat)]) #[true, true, true, true, true, true, true, true, true, true, true, true, true, false] rfl rfl (by kernel_rfl) (fun _ _ _ h => h) (Or.inl ⟨rfl, ?hyt25⟩) ?hat25 ?restt25
          case hyt25 => intro w; first | (go_simp; done) | (go_simp; rfl)
          case hat25 => go_simp; rfl
          refine norm_ (a' := putAll _ [(21, .int .u64 (x1 : Nat)), (25, .int .u64 (x2 : Nat)), (29, .int .u64 (x3 : Nat)), (22, .int .u32 (x1 : Nat)), (26, .int .i64 e), (30, .agg #[.int .u32 (x1 : Nat), .int .i64 e, .int .u64 (x3 : Nat)]), (7, .pointer (some ⟨bt21, 0, none⟩))]) ?hz (hcont_ bt21 yt23 ⟨hS_, Zt23.out.1, Zt23.out.2⟩)
          case hz => simp only [putAll]; first | (go_simp; done) | (go_simp; rfl)
      case yt11 =>
        intro K_ hK_
        unfold Shut at hK_
        obtain ⟨bt26, hb⟩ : ∃ b, b = (yt8).heap.size := ⟨_, rfl⟩
        obtain ⟨yt26, hx⟩ : ∃ wx, wx = (yt8).alloc (.cells #[.int .u32 0, .int .i64 0, .int .u64 0] 53) := ⟨_, rfl⟩
        have hb6 : Below (yt8).heap.size (yt8) yt26 := by rw [hx]; exact below_alloc (Below.refl _ _) _
        have Zt26 := Aside0.mk (show yt26.heap[bt26]? = some (.cells #[.int .u32 0, .int .i64 0, .int .u64 0] 53 (0, 0)) ∧ w2.heap.size ≤ bt26 from ⟨by rw [hx, hb]; exact heap_alloc_new _ _, by rw [hb]; exact hS_.out.size⟩)
        have hS2 : Aside0 (Below w2.heap.size w2 yt26) := ⟨below_step hS_.out hb6⟩
        refine value_ (v := .pointer (some ⟨bt26, 0, none⟩)) (w1 := yt26) rfl rfl (by subst hx; subst hb; (first | (go_simp; done) | (go_simp; rfl))) ?_
        clear hx hb hb6
        refine hK_ _ _ hS2 (fun hS_ => ?_)
        clear hK_ hS2
        refine norm_ (a' := ?at27) ?hat27 ?restt27
        case hat27 => go_simp; rfl
        refine one_ (i := 6) #[true, true, true, true, true, true, true, false, true, true, false, false, true, false] rfl rfl (by kernel_rfl) (by decide) ?_
        intro K_ hK_
        unfold Shut at hK_
        refine goes_ Tryd.func60 (by kernel_rfl) (by kernel_rfl) #[.slice B2 8 (c6 - 5)] rfl rfl rfl (by go_simp) ?_
        refine (number_any yt26 (Kd.C_below HB2'.out.1 hS_.out) (by have := hc6; omega) HB2'.out.2.1 (by decide)).mono ?_
        rintro e0 _ ⟨rfl, ⟨md, rfl⟩⟩
        rw [HB2'.out.2.2]
        obtain ⟨yt28, hx⟩ : ∃ z, z = World.drewN (yt26) md := ⟨_, rfl⟩
        have hb6 : Below (yt26).heap.size (yt26) yt28 := by rw [hx]; exact pw_below_drewN (Below.refl _ _) md
        have Zt28 := Aside0.mk (And.intro (blk_below Zt26.out.1 hb6) Zt26.out.2)
        have hS2 : Aside0 (Below w2.heap.size w2 yt28) := ⟨below_step hS_.out hb6⟩
        rw [← hx]
        clear hx hb6
        refine ⟨_, rfl, hK_ _ _ hS2 (fun hS_ => ?_)⟩
        clear hK_ hS2
        refine norm_ (a' := ?at29) ?hat29 ?restt29
        case hat29 => go_simp; rfl
        refine pure_ (i := 7) (a' := ?at30) (v := .int .i64 e) #[true, true, true, true, true, true, true, true, true, true, false, false, true, false] rfl rfl (by kernel_rfl) (fun _ _ _ h => h) (Or.inl ⟨rfl, ?hyt30⟩) ?hat30 ?restt30
        case hyt30 => intro w; have h1 := Hw.out.2.2.1; have h2 := Hw.out.2.2.2; first | (go_simp; done) | (go_simp; rfl)
        case hat30 => go_simp; rfl
        refine one_ (i := 10) #[true, true, true, true, true, true, true, true, true, true, true, false, true, false] rfl rfl (by kernel_rfl) (by decide) ?_
        intro K_ hK_
        unfold Shut at hK_
        refine goes_ Tryd.func60 (by kernel_rfl) (by kernel_rfl) #[.slice B3 8 (c6 - 13)] rfl rfl rfl (by go_simp) ?_
        refine (number_any yt28 (Kd.C_below HB3'.out.1 hS_.out) (by have := hc6; omega) HB3'.out.2.1 (by decide)).mono ?_
        rintro e0 _ ⟨rfl, ⟨md, rfl⟩⟩
        rw [HB3'.out.2.2]
        obtain ⟨yt31, hx⟩ : ∃ z, z = World.drewN (yt28) md := ⟨_, rfl⟩
        have hb6 : Below (yt28).heap.size (yt28) yt31 := by rw [hx]; exact pw_below_drewN (Below.refl _ _) md
        have Zt31 := Aside0.mk (And.intro (blk_below Zt28.out.1 hb6) Zt28.out.2)
        have hS2 : Aside0 (Below w2.heap.size w2 yt31) := ⟨below_step hS_.out hb6⟩
        rw [← hx]
        clear hx hb6
        refine ⟨_, rfl, hK_ _ _ hS2 (fun hS_ => ?_)⟩
        clear hK_ hS2
        refine norm_ (a' := ?at32) ?hat32 ?restt32
        case hat32 => go_simp; rfl
        refine pure_ (i := 11) (a' := ?at33) (v := .agg #[.int .u32 (x1 : Nat), .int .i64 e, .int .u64 (x3 : Nat)]) #[true, true, true, true, true, true, true, true, true, true, true, true, true, false] rfl rfl (by kernel_rfl) (fun _ _ _ h => h) (Or.inl ⟨rfl, ?hyt33⟩) ?hat33 ?restt33
        case hyt33 => intro w; first | (go_simp; done) | (go_simp; rfl)
        case hat33 => go_simp; rfl
        refine norm_ (a' := putAll _ [(21, .int .u64 (x1 : Nat)), (25, .int .u64 (x2 : Nat)), (29, .int .u64 (x3 : Nat)), (22, .int .u32 (x1 : Nat)), (26, .int .i64 e), (30, .agg #[.int .u32 (x1 : Nat), .int .i64 e, .int .u64 (x3 : Nat)]), (7, .pointer (some ⟨bt26, 0, none⟩))]) ?hz (hcont_ bt26 yt31 ⟨hS_, Zt31.out.1, Zt31.out.2⟩)
        case hz => simp only [putAll]; first | (go_simp; done) | (go_simp; rfl)
    case yt7 =>
      intro K_ hK_
      unfold Shut at hK_
      obtain ⟨bt34, hb⟩ : ∃ b, b = (w2.drew).heap.size := ⟨_, rfl⟩
      obtain ⟨yt34, hx⟩ : ∃ wx, wx = (w2.drew).alloc (.cells #[.int .u32 0, .int .i64 0, .int .u64 0] 53) := ⟨_, rfl⟩
      have hb6 : Below (w2.drew).heap.size (w2.drew) yt34 := by rw [hx]; exact below_alloc (Below.refl _ _) _
      have Zt34 := Aside0.mk (show yt34.heap[bt34]? = some (.cells #[.int .u32 0, .int .i64 0, .int .u64 0] 53 (0, 0)) ∧ w2.heap.size ≤ bt34 from ⟨by rw [hx, hb]; exact heap_alloc_new _ _, by rw [hb]; exact hS_.out.size⟩)
      have hS2 : Aside0 (Below w2.heap.size w2 yt34) := ⟨below_step hS_.out hb6⟩
      refine value_ (v := .pointer (some ⟨bt34, 0, none⟩)) (w1 := yt34) rfl rfl (by subst hx; subst hb; (first | (go_simp; done) | (go_simp; rfl))) ?_
      clear hx hb hb6
      refine hK_ _ _ hS2 (fun hS_ => ?_)
      clear hK_ hS2
      refine norm_ (a' := ?at35) ?hat35 ?restt35
      case hat35 => go_simp; rfl
      refine one_ (i := 2) #[true, true, true, false, true, true, false, false, true, true, false, false, true, false] rfl rfl (by kernel_rfl) (by decide) ?_
      intro K_ hK_
      unfold Shut at hK_
      refine goes_ Tryd.func60 (by kernel_rfl) (by kernel_rfl) #[.slice B1 4 (c6 - 1)] rfl rfl rfl (by go_simp) ?_
      refine (number_any yt34 (Kd.C_below HB1'.out.1 hS_.out) (by have := hc6; omega) HB1'.out.2.1 (by decide)).mono ?_
      rintro e0 _ ⟨rfl, ⟨md, rfl⟩⟩
      rw [HB1'.out.2.2]
      obtain ⟨yt36, hx⟩ : ∃ z, z = World.drewN (yt34) md := ⟨_, rfl⟩
      have hb6 : Below (yt34).heap.size (yt34) yt36 := by rw [hx]; exact pw_below_drewN (Below.refl _ _) md
      have Zt36 := Aside0.mk (And.intro (blk_below Zt34.out.1 hb6) Zt34.out.2)
      have hS2 : Aside0 (Below w2.heap.size w2 yt36) := ⟨below_step hS_.out hb6⟩
      rw [← hx]
      clear hx hb6
      refine ⟨_, rfl, hK_ _ _ hS2 (fun hS_ => ?_)⟩
      clear hK_ hS2
      refine norm_ (a' := ?at37) ?hat37 ?restt37
      case hat37 => go_simp; rfl
      refine pure_ (i := 3) (a' := ?at38) (v := .int .u32 (x1 : Nat)) #[true, true, true, true, true, true, false, false, true, true, false, false, true, false] rfl rfl (by kernel_rfl) (fun _ _ _ h => h) (Or.inl ⟨rfl, ?hyt38⟩) ?hat38 ?restt38
      case hyt38 => intro w; have h1 := Hw.out.1; have h2 := Hw.out.2.1; first | (go_simp; done) | (go_simp; rfl)
      case hat38 => go_simp; rfl
      refine one_ (i := 6) #[true, true, true, true, true, true, true, false, true, true, false, false, true, false] rfl rfl (by kernel_rfl) (by decide) ?_
      intro K_ hK_
      unfold Shut at hK_
      refine goes_ Tryd.func60 (by kernel_rfl) (by kernel_rfl) #[.slice B2 8 (c6 - 5)] rfl rfl rfl (by go_simp) ?_
      refine (number_any yt36 (Kd.C_below HB2'.out.1 hS_.out) (by have := hc6; omega) HB2'.out.2.1 (by decide)).mono ?_
      rintro e0 _ ⟨rfl, ⟨md, rfl⟩⟩
      rw [HB2'.out.2.2]
      obtain ⟨yt39, hx⟩ : ∃ z, z = World.drewN (yt36) md := ⟨_, rfl⟩
      have hb6 : Below (yt36).heap.size (yt36) yt39 := by rw [hx]; exact pw_below_drewN (Below.refl _ _) md
      have Zt39 := Aside0.mk (And.intro (blk_below Zt36.out.1 hb6) Zt36.out.2)
      have hS2 : Aside0 (Below w2.heap.size w2 yt39) := ⟨below_step hS_.out hb6⟩
      rw [← hx]
      clear hx hb6
      refine ⟨_, rfl, hK_ _ _ hS2 (fun hS_ => ?_)⟩
      clear hK_ hS2
      refine norm_ (a' := ?at40) ?hat40 ?restt40
      case hat40 => go_simp; rfl
      refine pure_ (i := 7) (a' := ?at41) (v := .int .i64 e) #[true, true, true, true, true, true, true, true, true, true, false, false, true, false] rfl rfl (by kernel_rfl) (fun _ _ _ h => h) (Or.inl ⟨rfl, ?hyt41⟩) ?hat41 ?restt41
      case hyt41 => intro w; have h1 := Hw.out.2.2.1; have h2 := Hw.out.2.2.2; first | (go_simp; done) | (go_simp; rfl)
      case hat41 => go_simp; rfl
      refine one_ (i := 10) #[true, true, true, true, true, true, true, true, true, true, true, false, true, false] rfl rfl (by kernel_rfl) (by decide) ?_
      intro K_ hK_
      unfold Shut at hK_
      refine goes_ Tryd.func60 (by kernel_rfl) (by kernel_rfl) #[.slice B3 8 (c6 - 13)] rfl rfl rfl (by go_simp) ?_
      refine (number_any yt39 (Kd.C_below HB3'.out.1 hS_.out) (by have := hc6; omega) HB3'.out.2.1 (by decide)).mono ?_
      rintro e0 _ ⟨rfl, ⟨md, rfl⟩⟩
      rw [HB3'.out.2.2]
      obtain ⟨yt42, hx⟩ : ∃ z, z = World.drewN (yt39) md := ⟨_, rfl⟩
      have hb6 : Below (yt39).heap.size (yt39) yt42 := by rw [hx]; exact pw_below_drewN (Below.refl _ _) md
      have Zt42 := Aside0.mk (And.intro (blk_below Zt39.out.1 hb6) Zt39.out.2)
      have hS2 : Aside0 (Below w2.heap.size w2 yt42) := ⟨below_step hS_.out hb6⟩
      rw [← hx]
      clear hx hb6
      refine ⟨_, rfl, hK_ _ _ hS2 (fun hS_ => ?_)⟩
      clear hK_ hS2
      refine norm_ (a' := ?at43) ?hat43 ?restt43
      case hat43 => go_simp; rfl
      refine pure_ (i := 11) (a' := ?at44) (v := .agg #[.int .u32 (x1 : Nat), .int .i64 e, .int .u64 (x3 : Nat)]) #[true, true, true, true, true, true, true, true, true, true, true, true, true, false] rfl rfl (by kernel_rfl) (fun _ _ _ h => h) (Or.inl ⟨rfl, ?hyt44⟩) ?hat44 ?restt44
      case hyt44 => intro w; first | (go_simp; done) | (go_simp; rfl)
      case hat44 => go_simp; rfl
      refine norm_ (a' := putAll _ [(21, .int .u64 (x1 : Nat)), (25, .int .u64 (x2 : Nat)), (29, .int .u64 (x3 : Nat)), (22, .int .u32 (x1 : Nat)), (26, .int .i64 e), (30, .agg #[.int .u32 (x1 : Nat), .int .i64 e, .int .u64 (x3 : Nat)]), (7, .pointer (some ⟨bt34, 0, none⟩))]) ?hz (hcont_ bt34 yt42 ⟨hS_, Zt42.out.1, Zt42.out.2⟩)
      case hz => simp only [putAll]; first | (go_simp; done) | (go_simp; rfl)
  case cont =>
    rintro g7 w3 ⟨hS3, h7, l7⟩
    have H7 := Aside0.mk h7
    have Hl7 := Aside0.mk l7
    clear h7 l7 hS_
    have hS_ := hS3
    refine norm_ (a' := ?ac) ?hac ?restc
    case hac => simp only [putAll]; go_simp; rfl
    refine one_ (i := 13) #[true, true, true, true, true, true, true, true, true, true, true, true, true, true] rfl rfl (by kernel_rfl) (by decide) ?_
    intro K_ hK_
    unfold Shut at hK_
    refine skip_ rfl rfl (run_store_row 53 (.tmp 7) (.tmp 30) rfl g7 0 #[.int .u32 (x1 : Nat), .int .i64 e, .int .u64 (x3 : Nat)] rfl rfl (there_block H7.out 0 _ (by show 0 + 3 ≤ 3; omega)) sizeR53 (by simp [Value.oneCell'])) ?_
    have hS4 : Aside0 (Below w2.heap.size w2 (w3.setCells g7 0 (#[.int .u32 (x1 : Nat), .int .i64 e, .int .u64 (x3 : Nat)] : Array Value).toList)) := ⟨setCells_below _ hS_.out Hl7.out⟩
    refine hK_ _ _ hS4 (fun hS_ => ?_)
    clear hK_ hS4
    refine norm_ (a' := ?at45) ?hat45 ?restt45
    case hat45 => go_simp; rfl
    refine done_ (by kernel_rfl) ?_
    have R7 : Aside0 ((w3.setCells g7 0 (#[.int .u32 (x1 : Nat), .int .i64 e, .int .u64 (x3 : Nat)] : Array Value).toList).heap[g7]? = some (.cells #[.int .u32 (x1 : Nat), .int .i64 e, .int .u64 (x3 : Nat)] 53 (0, 0))) := ⟨row_set H7.out rfl⟩
    obtain ⟨w4, hw4⟩ : ∃ w4, w4 = w3.setCells g7 0 (#[.int .u32 (x1 : Nat), .int .i64 e, .int .u64 (x3 : Nat)] : Array Value).toList := ⟨_, rfl⟩
    have HB4 := Aside0.mk (below_step HBw.out hS_.out)
    have HC4 := Aside0.mk (Kd.C_below HC.out HB4.out)
    have H4 := Aside0.mk (blk_below H2.out hS_.out)
    rw [← hw4] at R7 HB4 HC4 H4
    try rw [← hw4]
    clear hw4 hS_ hS3 hS H7
    go_wp2_with (first | ((with_reducible refine gate_dst (N := 32) rfl ?_); refine wpList_load_row rfl 53 (.tmp 7) rfl g7 rfl 53 (#[.int .u32 (x1 : Nat), .int .i64 e, .int .u64 (x3 : Nat)]) (0, 0) _ R7.out hu53 rfl sizeR53 ?_))
    refine (refseal40 (t := ⟨x1, e, x3⟩) _ HC4.out Hx.out.1 Hx.out.2.1 Hx.out.2.2 Hok3.out).mono ?_
    rintro e5 w5 ⟨rfl, hb5⟩
    rw [HF.out]
    have R75 := Aside0.mk (blk_below R7.out hb5)
    have H5 := Aside0.mk (blk_below H4.out hb5)
    have HB5 := Aside0.mk (below_step HB4.out hb5)
    clear hb5 R7 H4 HB4
    by_cases hFs : F = s
    · have hne : (F.toList == s.toList) = true := by rw [hFs]; exact beq_self_eq_true _
      have Hif := Aside0.mk hFs
      clear hFs
      go_wp2_with (first | ((with_reducible refine gate_dst (N := 37) rfl ?_); refine wpList_load_row rfl 53 (.tmp 7) rfl g7 rfl 53 (#[.int .u32 (x1 : Nat), .int .i64 e, .int .u64 (x3 : Nat)]) (0, 0) _ R75.out hu53 rfl sizeR53 ?_) | ((with_reducible refine gate_store (t := 53) (p := 4) rfl ?_); refine store_row ?hg (ty := 53) (p := 4) (v := ?vr_1) ?ho ?hd (g := g4) (t := 53) (old := #[.int .u32 0, .int .i64 0, .int .u64 0]) (cells := #[.int .u32 (x1 : Nat), .int .i64 e, .int .u64 (x3 : Nat)]) ?hx ?hy H5.out sizeR53 rfl (by simp [Value.oneCell']) ?_; (case hd => rfl); (case hg => rfl); (case ho => rfl); (case hx => rfl); (case hy => rfl); intro w6 hbox_ hk_ hb_; have H6 := Aside0.mk hbox_; have HB6 := Aside0.mk (HB5.out.trans (hb_.mono Hg4.out));clear hbox_ hk_ hb_))
      refine bodyPost_ret (results_ct rfl _ _ g4 53 #[.int .u32 (x1 : Nat), .int .i64 e, .int .u64 (x3 : Nat)] (0, 0) _ rfl H6.out hu53 rfl sizeR53) rfl ?_
      exact ⟨by rw [HR.out, if_pos Hif.out]; rfl, HB6.out⟩
    · have hne : (F.toList == s.toList) = false := by rw [beq_eq_false_iff_ne]; exact fun h => hFs (toList_inj h)
      have Hif := Aside0.mk hFs
      clear hFs
      go_wp2_with (first | ((with_reducible refine gate_store (t := 53) (p := 4) rfl ?_); refine store_row ?hg (ty := 53) (p := 4) (v := ?vr_2) ?ho ?hd (g := g4) (t := 53) (old := #[.int .u32 0, .int .i64 0, .int .u64 0]) (cells := #[.int .u32 0, .int .i64 0, .int .u64 0]) ?hx ?hy H5.out sizeR53 rfl (by simp [Value.oneCell']) ?_; (case hd => rfl); (case hg => rfl); (case ho => rfl); (case hx => rfl); (case hy => rfl); intro w6 hbox_ hk_ hb_; have H6 := Aside0.mk hbox_; have HB6 := Aside0.mk (HB5.out.trans (hb_.mono Hg4.out));clear hbox_ hk_ hb_))
      refine bodyPost_ret (results_ct rfl _ _ g4 53 #[.int .u32 0, .int .i64 0, .int .u64 0] (0, 0) _ rfl H6.out hu53 rfl sizeR53) rfl ?_
      exact ⟨by rw [HR.out, if_neg Hif.out]; rfl, HB6.out⟩
theorem ref47_any {A : Option Addr} {n0 c0 : Nat} {key : List Int} {s : ByteArray} (w : World) (hC : (Kd.int .u8).C w A n0 key) (hc : n0 ≤ c0) (hby : Byt key) (hm : key.length ≤ 1000000) (hsz : s.size ≤ 1000) :
    Calls Tryd.prog 47 #[.slice A n0 c0, .string s] w fun e w' => e = .returned (.tuple #[.agg #[.int .u32 (refT key s).1.p, .int .i64 (refT key s).1.e, .int .u64 (refT key s).1.n], .int .i64 (refT key s).2]) ∧ Below w.heap.size w w' := by
  by_cases h : s.size = 53 ∧ bt s 0 = 116
  · refine (ref47_main w hC hc hby hm h.1 h.2).mono ?_
    rintro e w' ⟨rfl, hb⟩
    refine ⟨?_, hb⟩
    unfold refT
    rw [if_pos h]
    by_cases hf : strOfNums ((Tk.of (bytesOf s)).front ++ tag key (Tk.of (bytesOf s)).front) = s
    · rw [if_pos hf, if_pos hf]
    · rw [if_neg hf, if_neg hf]; rfl
  · have e : refT key s = (Tk.zero, 7) := by unfold refT; rw [if_neg h]
    rw [e]
    exact ref47_form w hsz (by
      by_cases h1 : s.size = 53
      · exact .inr fun h2 => h ⟨h1, h2⟩
      · exact .inl h1)
end Go.Proofs.YtpigkgnmegpddaaDoor.Sh
