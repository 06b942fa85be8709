/-
PassTokens, walked.
-/
import Derived.Test.YtpigkgnmegpddaaDoorPx
namespace Go.Proofs.YtpigkgnmegpddaaDoor.Sh
set_option linter.unusedVariables false
set_option linter.unusedSimpArgs false
open Go.RowKit Go.Proofs.YtpigkgnmegpddaaDoorW.PrintWords Go.Proofs.YtpigkgnmegpddaaDoorW.PrintLast Go.Proofs.YtpigkgnmegpddaaDoorW.PrintMore

/-- Two rows, and all that is older. -/
def Stokens_law (w0 : World) (g5 g7 : Nat) (V : Array Value) (W : World) : Prop := Aside0 (W.heap[g5]? = some (.cells V 65 (0, 0)) ∧ W.heap[g7]? = some (.cells V 56 (0, 0)) ∧ Below w0.heap.size w0 W)
theorem Stokens_law.next {w0 W W' : World} {g5 g7 : Nat} {V : Array Value} (h : Stokens_law w0 g5 g7 V W) (hb : Below W.heap.size W W') : Stokens_law w0 g5 g7 V W' := ⟨blk_below h.out.1 hb, blk_below h.out.2.1 hb, below_step h.out.2.2 hb⟩
set_option maxRecDepth 100000 in
set_option maxHeartbeats 4000000 in
theorem tokens_law {A : Option Addr} {n0 c0 : Nat} {key : List Int} {s : ByteArray} (w : World) (hT : Tab w) (hC : (Kd.int .u8).C w A n0 key) (hc : n0 ≤ c0) (hby : Byt key) :
    Calls Tryd.prog 17 #[.slice A n0 c0, .string s] w fun e w' => e = .returned (.bool true) ∧ Below w.heap.size w w' := by
  have hup := Tryd.underlying65
  have hur := Tryd.underlying56
  have HT := Aside0.mk hT
  have HC := Aside0.mk hC
  have Hby := Aside0.mk hby
  have Hn := Aside0.mk hC.1
  have hnm := hC.2.1
  clear hT hC hby
  by_cases h200 : 200 < n0
  · go_enter Tryd.func17, Tryd.ntmps17
    go_wp2_with fail
    go_ret
    exact ⟨rfl, Below.refl _ _⟩
  by_cases h300 : 300 < s.size
  · go_enter Tryd.func17, Tryd.ntmps17
    go_wp2_with fail
    go_ret
    exact ⟨rfl, Below.refl _ _⟩
  have Hm : Aside0 (key.length ≤ 1000000) := ⟨by rw [Hn.out]; omega⟩
  go_enter Tryd.func17, Tryd.ntmps17
  go_wp2_with fail
  refine (make_any _ HT.out HC.out hc Hby.out (by have := Hm.out; omega)).mono ?_
  rintro e1 w1 ⟨g, rfl, hk, hg, hb1⟩
  have HK1 := Aside0.mk (KeyFits.of hk (kbl_length _) (kbl_byt Hby.out))
  have HB1 := Aside0.mk hb1
  have HT1 := Aside0.mk (HT.out.below hb1)
  clear hk hg hb1
  go_wp2_with fail
  refine (open48_any (s := s) _ HT1.out HK1.out (by omega)).mono ?_
  rintro e2 w2 ⟨rfl, hb2⟩
  rw [openN_ref]
  obtain ⟨X, hX⟩ : ∃ X, X = refN key s := ⟨_, rfl⟩
  rw [← hX]
  have HX := Aside0.mk hX.symm
  clear hX
  obtain ⟨⟨p, m, i, q, e, n⟩, r⟩ := X
  have HB2 := Aside0.mk (below_step HB1.out hb2)
  clear hb2 HK1
  go_wp2_with (first | ((with_reducible refine gate_dst (N := 5) rfl ?_); refine box_event ?hg (N := 5) ?hd (cs := #[.int .u32 0, .int .u32 0, .int .u16 0, .int .u8 0, .int .i64 0, .int .u64 0]) (t := 65) ?hr ?_; (case hd => rfl); (case hg => rfl); (case hr => first | (go_simp; done) | (go_simp; rfl)); intro g5 hg_ w3 hbox_ hb_; have H3 := Aside0.mk hbox_; have HB3 := Aside0.mk (below_step HB2.out hb_); have Hg5 := Aside0.mk (show w.heap.size ≤ g5 from Nat.le_trans HB2.out.size (Nat.le_of_eq hg_.symm));clear hg_ hbox_ hb_) | ((with_reducible refine gate_store (t := 65) (p := 5) rfl ?_); refine store_row ?hg (ty := 65) (p := 5) (v := ?vr_1) ?ho ?hd (g := g5) (t := 65) (old := #[.int .u32 0, .int .u32 0, .int .u16 0, .int .u8 0, .int .i64 0, .int .u64 0]) (cells := #[.int .u32 (p : Nat), .int .u32 (m : Nat), .int .u16 (i : Nat), .int .u8 (q : Nat), .int .i64 e, .int .u64 (n : Nat)]) ?hx ?hy H3.out size65 rfl (by simp [Value.oneCell']) ?_; (case hd => rfl); (case hg => rfl); (case ho => rfl); (case hx => rfl); (case hy => rfl); intro w4 hbox_ hk_ hb_; have H4 := Aside0.mk hbox_; have HB4 := Aside0.mk (HB3.out.trans (hb_.mono Hg5.out));clear hbox_ hk_ hb_))
  refine (ref49_any (s := s) _ (Kd.C_below HC.out HB4.out) hc Hby.out Hm.out (by omega)).mono ?_
  rintro e5 w5 ⟨rfl, hb5⟩
  rw [HX.out]
  have H5 := Aside0.mk (blk_below H4.out hb5)
  have HB5 := Aside0.mk (below_step HB4.out hb5)
  clear hb5 H3 HB3 H4 HB4
  go_wp2_with (first | ((with_reducible refine gate_dst (N := 7) rfl ?_); refine box_event ?hg (N := 7) ?hd (cs := #[.int .u32 0, .int .u32 0, .int .u16 0, .int .u8 0, .int .i64 0, .int .u64 0]) (t := 56) ?hr ?_; (case hd => rfl); (case hg => rfl); (case hr => first | (go_simp; done) | (go_simp; rfl)); intro g7 hg_ w6 hbox_ hb_; have H6 := Aside0.mk hbox_; have H56 := Aside0.mk (blk_below H5.out hb_); have HB6 := Aside0.mk (below_step HB5.out hb_); have Hg7 := Aside0.mk (show w.heap.size ≤ g7 from Nat.le_trans HB5.out.size (Nat.le_of_eq hg_.symm)); have Hne := Aside0.mk (show g5 ≠ g7 from by have := blk_lt H5.out; omega);clear hg_ hbox_ hb_) | ((with_reducible refine gate_store (t := 56) (p := 7) rfl ?_); refine store_row ?hg (ty := 56) (p := 7) (v := ?vr_2) ?ho ?hd (g := g7) (t := 56) (old := #[.int .u32 0, .int .u32 0, .int .u16 0, .int .u8 0, .int .i64 0, .int .u64 0]) (cells := #[.int .u32 (p : Nat), .int .u32 (m : Nat), .int .u16 (i : Nat), .int .u8 (q : Nat), .int .i64 e, .int .u64 (n : Nat)]) ?hx ?hy H6.out sizeR56 rfl (by simp [Value.oneCell']) ?_; (case hd => rfl); (case hg => rfl); (case ho => rfl); (case hx => rfl); (case hy => rfl); intro w7 hbox_ hk_ hb_; have H7 := Aside0.mk hbox_; have H57 := Aside0.mk ((hk_.2 g5 (blk_lt H56.out) Hne.out).trans H56.out); have HB7 := Aside0.mk (HB6.out.trans (hb_.mono Hg7.out));clear hbox_ hk_ hb_))
  have HT4 := Aside0.mk (HT.out.below HB7.out)
  have hS : Stokens_law w7 g5 g7 #[.int .u32 (p : Nat), .int .u32 (m : Nat), .int .u16 (i : Nat), .int .u8 (q : Nat), .int .i64 e, .int .u64 (n : Nat)] w7.drew := ⟨H57.out, H7.out, below_drew (Below.refl _ _)⟩
  by_cases hs0 : s.size = 0
  · have hr : r = 7 := by
      have h := HX.out
      unfold refN at h
      rw [if_neg (by omega)] at h
      exact (congrArg Prod.snd h).symm
    subst hr
    have hlen : ((s.size : Nat) : Int) = 0 := by omega
    refine start_ (S := Stokens_law w7 g5 g7 #[.int .u32 (p : Nat), .int .u32 (m : Nat), .int .u16 (i : Nat), .int .u8 (q : Nat), .int .i64 e, .int .u64 (n : Nat)]) (ds := []) #[false, false, false, false, false, false, false, false, false, false, false, false, false, false, false, false, false, false, false, false, false, false] (by kernel_rfl) rfl rfl hS ?_
    intro hS_
    refine take_ (i := 0) (a' := ?a1_1) (v := .agg #[.int .u32 (p : Nat), .int .u32 (m : Nat), .int .u16 (i : Nat), .int .u8 (q : Nat), .int .i64 e, .int .u64 (n : Nat)]) #[true, false, false, false, false, false, false, false, false, false, false, false, false, false, false, false, false, false, false, false, false, false] rfl rfl (by kernel_rfl) (fun _ _ _ h => h) (yields_row rfl 65 (.tmp 5) rfl g5 0 rfl #[.int .u32 (p : Nat), .int .u32 (m : Nat), .int .u16 (i : Nat), .int .u8 (q : Nat), .int .i64 e, .int .u64 (n : Nat)] _ (fun w h => range_block h.out.1 _ ⟨[], by rw [List.append_nil]⟩) hup rfl size65) hS_ ?ha1_1 ?rest1_1
    case ha1_1 => go_simp; rfl
    refine take_ (i := 1) (a' := ?a1_2) (v := .agg #[.int .u32 (p : Nat), .int .u32 (m : Nat), .int .u16 (i : Nat), .int .u8 (q : Nat), .int .i64 e, .int .u64 (n : Nat)]) #[true, true, false, false, false, false, false, false, false, false, false, false, false, false, false, false, false, false, false, false, false, false] rfl rfl (by kernel_rfl) (fun _ _ _ h => h) (yields_row rfl 56 (.tmp 7) rfl g7 0 rfl #[.int .u32 (p : Nat), .int .u32 (m : Nat), .int .u16 (i : Nat), .int .u8 (q : Nat), .int .i64 e, .int .u64 (n : Nat)] _ (fun w h => range_block h.out.2.1 _ ⟨[], by rw [List.append_nil]⟩) hur rfl sizeR56) hS_ ?ha1_2 ?rest1_2
    case ha1_2 => go_simp; rfl
    refine one_ (i := 2) #[true, true, true, false, false, false, false, false, false, false, false, false, false, false, false, false, false, false, false, false, false, false] rfl rfl (by kernel_rfl) (by decide) ?_
    intro K_ hK_
    unfold Shut at hK_
    refine goes_ Tryd.func41 (by kernel_rfl) (by kernel_rfl) #[.agg #[.int .u32 (p : Nat), .int .u32 (m : Nat), .int .u16 (i : Nat), .int .u8 (q : Nat), .int .i64 e, .int .u64 (n : Nat)]] rfl rfl rfl (by go_simp) ?_; refine (token41 (t := ⟨p, m, i, q, e, n⟩) _).mono ?_; rintro e5 w5 ⟨rfl, hb6⟩; have hS2 := Stokens_law.next hS_ hb6; clear hb6; refine ⟨_, rfl, hK_ _ _ hS2 (fun hS_ => ?_)⟩; clear hK_ hS2
    refine norm_ (a' := ?a1_4n) ?ha1_4n ?rest1_4n
    case ha1_4n => go_simp; rfl
    refine pure_ (i := 3) (a' := ?a1_5) (v := .bool true) #[true, true, true, true, false, false, false, false, false, false, false, false, false, false, false, false, false, false, false, false, false, false] rfl rfl (by kernel_rfl) (fun _ _ _ h => h) (Or.inl ⟨rfl, ?hy1_5⟩) ?ha1_5 ?rest1_5
    case hy1_5 => intro w; first | (go_simp; done) | (go_simp; with_reducible rfl) | (go_simp; rfl)
    case ha1_5 => go_simp; rfl
    refine pure_ (i := 4) (a' := ?a1_6) (v := .bool true) #[true, true, true, true, true, false, false, false, false, false, false, false, false, false, false, false, false, false, false, false, false, false] rfl rfl (by kernel_rfl) (fun _ _ _ h => h) (Or.inl ⟨rfl, ?hy1_6⟩) ?ha1_6 ?rest1_6
    case hy1_6 => intro w; first | (go_simp; done) | (go_simp; with_reducible rfl) | (go_simp; rfl)
    case ha1_6 => go_simp; rfl
    refine pure_ (i := 5) (a' := ?a1_7) (v := .int .i64 7) #[true, true, true, true, true, true, false, false, false, false, false, false, false, false, false, false, false, false, false, false, false, false] rfl rfl (by kernel_rfl) (fun _ _ _ h => h) (Or.inl ⟨rfl, ?hy1_7⟩) ?ha1_7 ?rest1_7
    case hy1_7 => intro w; first | (go_simp; done) | (go_simp; with_reducible rfl) | (go_simp; rfl)
    case ha1_7 => go_simp; rfl
    refine pure_ (i := 6) (a' := ?a1_8) (v := .int .i64 7) #[true, true, true, true, true, true, true, false, false, false, false, false, false, false, false, false, false, false, false, false, false, false] rfl rfl (by kernel_rfl) (fun _ _ _ h => h) (Or.inl ⟨rfl, ?hy1_8⟩) ?ha1_8 ?rest1_8
    case hy1_8 => intro w; first | (go_simp; done) | (go_simp; with_reducible rfl) | (go_simp; rfl)
    case ha1_8 => go_simp; rfl
    refine pure_ (i := 7) (a' := ?a1_9) (v := .bool true) #[true, true, true, true, true, true, true, true, false, false, false, false, false, false, false, false, false, false, false, false, false, false] rfl rfl (by kernel_rfl) (fun _ _ _ h => h) (Or.inl ⟨rfl, ?hy1_9⟩) ?ha1_9 ?rest1_9
    case hy1_9 => intro w; first | (go_simp; done) | (go_simp; with_reducible rfl) | (go_simp; rfl)
    case ha1_9 => go_simp; rfl
    refine pure_ (i := 8) (a' := ?a1_10) (v := .bool true) #[true, true, true, true, true, true, true, true, true, false, false, false, false, false, false, false, false, false, false, false, false, false] rfl rfl (by kernel_rfl) (fun _ _ _ h => h) (Or.inl ⟨rfl, ?hy1_10⟩) ?ha1_10 ?rest1_10
    case hy1_10 => intro w; first | (go_simp; done) | (go_simp; with_reducible rfl) | (go_simp; rfl)
    case ha1_10 => go_simp; rfl
    refine pure_ (i := 9) (a' := ?a1_11) (v := .bool true) #[true, true, true, true, true, true, true, true, true, true, false, false, false, false, false, false, false, false, false, false, false, false] rfl rfl (by kernel_rfl) (fun _ _ _ h => h) (Or.inl ⟨rfl, ?hy1_11⟩) ?ha1_11 ?rest1_11
    case hy1_11 => intro w; first | (go_simp; done) | (go_simp; with_reducible rfl) | (go_simp; rfl)
    case ha1_11 => go_simp; rfl
    refine pure_ (i := 10) (a' := ?a1_12) (v := .string s) #[true, true, true, true, true, true, true, true, true, true, true, false, false, false, false, false, false, false, false, false, false, false] rfl rfl (by kernel_rfl) (fun _ _ _ h => h) (Or.inl ⟨rfl, ?hy1_12⟩) ?ha1_12 ?rest1_12
    case hy1_12 => intro w; first | (go_simp; done) | (go_simp; with_reducible rfl) | (go_simp; rfl)
    case ha1_12 => go_simp; rfl
    refine pure_ (i := 11) (a' := ?a1_13) (v := .int .i64 (s.size : Nat)) #[true, true, true, true, true, true, true, true, true, true, true, true, false, false, false, false, false, false, false, false, false, false] rfl rfl (by kernel_rfl) (fun _ _ _ h => h) (Or.inl ⟨rfl, ?hy1_13⟩) ?ha1_13 ?rest1_13
    case hy1_13 => intro w; first | (go_simp; done) | (go_simp; with_reducible rfl) | (go_simp; rfl)
    case ha1_13 => go_simp; rfl
    refine pure_ (i := 12) (a' := ?a1_14) (v := .bool false) #[true, true, true, true, true, true, true, true, true, true, true, true, true, false, false, false, false, false, false, false, false, false] rfl rfl (by kernel_rfl) (fun _ _ _ h => h) (Or.inl ⟨rfl, ?hy1_14⟩) ?ha1_14 ?rest1_14
    case hy1_14 => intro w; first | (go_simp; done) | (go_simp; with_reducible rfl) | (go_simp; rfl)
    case ha1_14 => go_simp; rfl
    refine pure_ (i := 13) (a' := ?a1_15) (v := .bool false) #[true, true, true, true, true, true, true, true, true, true, true, true, true, true, false, false, false, false, false, false, false, false] rfl rfl (by kernel_rfl) (fun _ _ _ h => h) (Or.inl ⟨rfl, ?hy1_15⟩) ?ha1_15 ?rest1_15
    case hy1_15 => intro w; first | (go_simp; done) | (go_simp; with_reducible rfl) | (go_simp; rfl)
    case ha1_15 => go_simp; rfl
    refine pure_ (i := 14) (a' := ?a1_16) (v := .int .i64 7) #[true, true, true, true, true, true, true, true, true, true, true, true, true, true, true, false, false, false, false, false, false, false] rfl rfl (by kernel_rfl) (fun _ _ _ h => h) (Or.inl ⟨rfl, ?hy1_16⟩) ?ha1_16 ?rest1_16
    case hy1_16 => intro w; first | (go_simp; done) | (go_simp; with_reducible rfl) | (go_simp; rfl)
    case ha1_16 => go_simp; rfl
    refine pure_ (i := 15) (a' := ?a1_17) (v := .bool true) #[true, true, true, true, true, true, true, true, true, true, true, true, true, true, true, true, false, false, false, false, false, false] rfl rfl (by kernel_rfl) (fun _ _ _ h => h) (Or.inl ⟨rfl, ?hy1_17⟩) ?ha1_17 ?rest1_17
    case hy1_17 => intro w; first | (go_simp; done) | (go_simp; with_reducible rfl) | (go_simp; rfl)
    case ha1_17 => go_simp; rfl
    refine pure_ (i := 16) (a' := ?a1_18) (v := .bool true) #[true, true, true, true, true, true, true, true, true, true, true, true, true, true, true, true, true, false, false, false, false, false] rfl rfl (by kernel_rfl) (fun _ _ _ h => h) (Or.inl ⟨rfl, ?hy1_18⟩) ?ha1_18 ?rest1_18
    case hy1_18 => intro w; first | (go_simp; done) | (go_simp; with_reducible rfl) | (go_simp; rfl)
    case ha1_18 => go_simp; rfl
    refine pure_ (i := 17) (a' := ?a1_19) (v := .bool true) #[true, true, true, true, true, true, true, true, true, true, true, true, true, true, true, true, true, true, false, false, false, false] rfl rfl (by kernel_rfl) (fun _ _ _ h => h) (Or.inl ⟨rfl, ?hy1_19⟩) ?ha1_19 ?rest1_19
    case hy1_19 => intro w; first | (go_simp; done) | (go_simp; with_reducible rfl) | (go_simp; rfl)
    case ha1_19 => go_simp; rfl
    refine pure_ (i := 18) (a' := ?a1_20) (v := .bool true) #[true, true, true, true, true, true, true, true, true, true, true, true, true, true, true, true, true, true, true, false, false, false] rfl rfl (by kernel_rfl) (fun _ _ _ h => h) (Or.inl ⟨rfl, ?hy1_20⟩) ?ha1_20 ?rest1_20
    case hy1_20 => intro w; first | (go_simp; done) | (go_simp; with_reducible rfl) | (go_simp; rfl)
    case ha1_20 => go_simp; rfl
    refine one_ (i := 19) #[true, true, true, true, true, true, true, true, true, true, true, true, true, true, true, true, true, true, true, true, false, false] rfl rfl (by kernel_rfl) (by decide) ?_
    intro K_ hK_
    unfold Shut at hK_
    refine goes_ Tryd.func44 (by kernel_rfl) (by kernel_rfl) #[] rfl rfl rfl (by go_simp) ?_; refine (awake44_any _ (HT4.out.below hS_.out.2.2)).mono ?_; rintro e6 w6 ⟨rfl, hb6⟩; have hS2 := Stokens_law.next hS_ hb6; clear hb6; refine ⟨_, rfl, hK_ _ _ hS2 (fun hS_ => ?_)⟩; clear hK_ hS2
    refine norm_ (a' := ?a1_22n) ?ha1_22n ?rest1_22n
    case ha1_22n => go_simp; rfl
    refine pure_ (i := 20) (a' := ?a1_23) (v := .bool true) #[true, true, true, true, true, true, true, true, true, true, true, true, true, true, true, true, true, true, true, true, true, false] rfl rfl (by kernel_rfl) (fun _ _ _ h => h) (Or.inl ⟨rfl, ?hy1_23⟩) ?ha1_23 ?rest1_23
    case hy1_23 => intro w; first | (go_simp; done) | (go_simp; with_reducible rfl) | (go_simp; rfl)
    case ha1_23 => go_simp; rfl
    refine pure_ (i := 21) (a' := ?a1_24) (v := .bool true) #[true, true, true, true, true, true, true, true, true, true, true, true, true, true, true, true, true, true, true, true, true, true] rfl rfl (by kernel_rfl) (fun _ _ _ h => h) (Or.inl ⟨rfl, ?hy1_24⟩) ?ha1_24 ?rest1_24
    case hy1_24 => intro w; first | (go_simp; done) | (go_simp; with_reducible rfl) | (go_simp; rfl)
    case ha1_24 => go_simp; rfl
    refine done_ (by kernel_rfl) ?_
    have HBf := Aside0.mk (HB7.out.trans (hS_.out.2.2.mono HB7.out.size))
    go_wp2_with fail
    go_ret
    exact ⟨rfl, HBf.out⟩
  · have hlen : (((s.size : Nat) : Int) != 0) = true := by rw [bne_iff_ne]; omega
    refine start_ (S := Stokens_law w7 g5 g7 #[.int .u32 (p : Nat), .int .u32 (m : Nat), .int .u16 (i : Nat), .int .u8 (q : Nat), .int .i64 e, .int .u64 (n : Nat)]) (ds := []) #[false, false, false, false, false, false, false, false, false, false, false, false, false, false, false, false, false, false, false, false, false, false] (by kernel_rfl) rfl rfl hS ?_
    intro hS_
    refine take_ (i := 0) (a' := ?a2_1) (v := .agg #[.int .u32 (p : Nat), .int .u32 (m : Nat), .int .u16 (i : Nat), .int .u8 (q : Nat), .int .i64 e, .int .u64 (n : Nat)]) #[true, false, false, false, false, false, false, false, false, false, false, false, false, false, false, false, false, false, false, false, false, false] rfl rfl (by kernel_rfl) (fun _ _ _ h => h) (yields_row rfl 65 (.tmp 5) rfl g5 0 rfl #[.int .u32 (p : Nat), .int .u32 (m : Nat), .int .u16 (i : Nat), .int .u8 (q : Nat), .int .i64 e, .int .u64 (n : Nat)] _ (fun w h => range_block h.out.1 _ ⟨[], by rw [List.append_nil]⟩) hup rfl size65) hS_ ?ha2_1 ?rest2_1
    case ha2_1 => go_simp; rfl
    refine take_ (i := 1) (a' := ?a2_2) (v := .agg #[.int .u32 (p : Nat), .int .u32 (m : Nat), .int .u16 (i : Nat), .int .u8 (q : Nat), .int .i64 e, .int .u64 (n : Nat)]) #[true, true, false, false, false, false, false, false, false, false, false, false, false, false, false, false, false, false, false, false, false, false] rfl rfl (by kernel_rfl) (fun _ _ _ h => h) (yields_row rfl 56 (.tmp 7) rfl g7 0 rfl #[.int .u32 (p : Nat), .int .u32 (m : Nat), .int .u16 (i : Nat), .int .u8 (q : Nat), .int .i64 e, .int .u64 (n : Nat)] _ (fun w h => range_block h.out.2.1 _ ⟨[], by rw [List.append_nil]⟩) hur rfl sizeR56) hS_ ?ha2_2 ?rest2_2
    case ha2_2 => go_simp; rfl
    refine one_ (i := 2) #[true, true, true, false, false, false, false, false, false, false, false, false, false, false, false, false, false, false, false, false, false, false] rfl rfl (by kernel_rfl) (by decide) ?_
    intro K_ hK_
    unfold Shut at hK_
    refine goes_ Tryd.func41 (by kernel_rfl) (by kernel_rfl) #[.agg #[.int .u32 (p : Nat), .int .u32 (m : Nat), .int .u16 (i : Nat), .int .u8 (q : Nat), .int .i64 e, .int .u64 (n : Nat)]] rfl rfl rfl (by go_simp) ?_; refine (token41 (t := ⟨p, m, i, q, e, n⟩) _).mono ?_; rintro e5 w5 ⟨rfl, hb6⟩; have hS2 := Stokens_law.next hS_ hb6; clear hb6; refine ⟨_, rfl, hK_ _ _ hS2 (fun hS_ => ?_)⟩; clear hK_ hS2
    refine norm_ (a' := ?a2_4n) ?ha2_4n ?rest2_4n
    case ha2_4n => go_simp; rfl
    refine pure_ (i := 3) (a' := ?a2_5) (v := .bool true) #[true, true, true, true, false, false, false, false, false, false, false, false, false, false, false, false, false, false, false, false, false, false] rfl rfl (by kernel_rfl) (fun _ _ _ h => h) (Or.inl ⟨rfl, ?hy2_5⟩) ?ha2_5 ?rest2_5
    case hy2_5 => intro w; first | (go_simp; done) | (go_simp; with_reducible rfl) | (go_simp; rfl)
    case ha2_5 => go_simp; rfl
    refine pure_ (i := 4) (a' := ?a2_6) (v := .bool true) #[true, true, true, true, true, false, false, false, false, false, false, false, false, false, false, false, false, false, false, false, false, false] rfl rfl (by kernel_rfl) (fun _ _ _ h => h) (Or.inl ⟨rfl, ?hy2_6⟩) ?ha2_6 ?rest2_6
    case hy2_6 => intro w; first | (go_simp; done) | (go_simp; with_reducible rfl) | (go_simp; rfl)
    case ha2_6 => go_simp; rfl
    refine pure_ (i := 5) (a' := ?a2_7) (v := .int .i64 r) #[true, true, true, true, true, true, false, false, false, false, false, false, false, false, false, false, false, false, false, false, false, false] rfl rfl (by kernel_rfl) (fun _ _ _ h => h) (Or.inl ⟨rfl, ?hy2_7⟩) ?ha2_7 ?rest2_7
    case hy2_7 => intro w; first | (go_simp; done) | (go_simp; with_reducible rfl) | (go_simp; rfl)
    case ha2_7 => go_simp; rfl
    refine pure_ (i := 6) (a' := ?a2_8) (v := .int .i64 r) #[true, true, true, true, true, true, true, false, false, false, false, false, false, false, false, false, false, false, false, false, false, false] rfl rfl (by kernel_rfl) (fun _ _ _ h => h) (Or.inl ⟨rfl, ?hy2_8⟩) ?ha2_8 ?rest2_8
    case hy2_8 => intro w; first | (go_simp; done) | (go_simp; with_reducible rfl) | (go_simp; rfl)
    case ha2_8 => go_simp; rfl
    refine pure_ (i := 7) (a' := ?a2_9) (v := .bool true) #[true, true, true, true, true, true, true, true, false, false, false, false, false, false, false, false, false, false, false, false, false, false] rfl rfl (by kernel_rfl) (fun _ _ _ h => h) (Or.inl ⟨rfl, ?hy2_9⟩) ?ha2_9 ?rest2_9
    case hy2_9 => intro w; first | (go_simp; done) | (go_simp; with_reducible rfl) | (go_simp; rfl)
    case ha2_9 => go_simp; rfl
    refine pure_ (i := 8) (a' := ?a2_10) (v := .bool true) #[true, true, true, true, true, true, true, true, true, false, false, false, false, false, false, false, false, false, false, false, false, false] rfl rfl (by kernel_rfl) (fun _ _ _ h => h) (Or.inl ⟨rfl, ?hy2_10⟩) ?ha2_10 ?rest2_10
    case hy2_10 => intro w; first | (go_simp; done) | (go_simp; with_reducible rfl) | (go_simp; rfl)
    case ha2_10 => go_simp; rfl
    refine pure_ (i := 9) (a' := ?a2_11) (v := .bool true) #[true, true, true, true, true, true, true, true, true, true, false, false, false, false, false, false, false, false, false, false, false, false] rfl rfl (by kernel_rfl) (fun _ _ _ h => h) (Or.inl ⟨rfl, ?hy2_11⟩) ?ha2_11 ?rest2_11
    case hy2_11 => intro w; first | (go_simp; done) | (go_simp; with_reducible rfl) | (go_simp; rfl)
    case ha2_11 => go_simp; rfl
    refine pure_ (i := 10) (a' := ?a2_12) (v := .string s) #[true, true, true, true, true, true, true, true, true, true, true, false, false, false, false, false, false, false, false, false, false, false] rfl rfl (by kernel_rfl) (fun _ _ _ h => h) (Or.inl ⟨rfl, ?hy2_12⟩) ?ha2_12 ?rest2_12
    case hy2_12 => intro w; first | (go_simp; done) | (go_simp; with_reducible rfl) | (go_simp; rfl)
    case ha2_12 => go_simp; rfl
    refine pure_ (i := 11) (a' := ?a2_13) (v := .int .i64 (s.size : Nat)) #[true, true, true, true, true, true, true, true, true, true, true, true, false, false, false, false, false, false, false, false, false, false] rfl rfl (by kernel_rfl) (fun _ _ _ h => h) (Or.inl ⟨rfl, ?hy2_13⟩) ?ha2_13 ?rest2_13
    case hy2_13 => intro w; first | (go_simp; done) | (go_simp; with_reducible rfl) | (go_simp; rfl)
    case ha2_13 => go_simp; rfl
    refine pure_ (i := 12) (a' := ?a2_14) (v := .bool true) #[true, true, true, true, true, true, true, true, true, true, true, true, true, false, false, false, false, false, false, false, false, false] rfl rfl (by kernel_rfl) (fun _ _ _ h => h) (Or.inl ⟨rfl, ?hy2_14⟩) ?ha2_14 ?rest2_14
    case hy2_14 => intro w; first | (go_simp; done) | (go_simp; with_reducible rfl) | (go_simp; rfl)
    case ha2_14 => go_simp; rfl
    refine pure_ (i := 13) (a' := ?a2_15) (v := .bool true) #[true, true, true, true, true, true, true, true, true, true, true, true, true, true, false, false, false, false, false, false, false, false] rfl rfl (by kernel_rfl) (fun _ _ _ h => h) (Or.inl ⟨rfl, ?hy2_15⟩) ?ha2_15 ?rest2_15
    case hy2_15 => intro w; first | (go_simp; done) | (go_simp; with_reducible rfl) | (go_simp; rfl)
    case ha2_15 => go_simp; rfl
    refine pure_ (i := 14) (a' := ?a2_16) (v := undef) #[true, true, true, true, true, true, true, true, true, true, true, true, true, true, true, false, false, false, false, false, false, false] rfl rfl (by kernel_rfl) (fun _ _ _ h => h) ?hy2_16 ?ha2_16 ?rest2_16
    case hy2_16 => exact Or.inr ⟨rfl, rfl⟩
    case ha2_16 => go_simp; rfl
    refine pure_ (i := 15) (a' := ?a2_17) (v := undef) #[true, true, true, true, true, true, true, true, true, true, true, true, true, true, true, true, false, false, false, false, false, false] rfl rfl (by kernel_rfl) (fun _ _ _ h => h) ?hy2_17 ?ha2_17 ?rest2_17
    case hy2_17 => exact Or.inr ⟨rfl, rfl⟩
    case ha2_17 => go_simp; rfl
    refine pure_ (i := 16) (a' := ?a2_18) (v := .bool true) #[true, true, true, true, true, true, true, true, true, true, true, true, true, true, true, true, true, false, false, false, false, false] rfl rfl (by kernel_rfl) (fun _ _ _ h => h) (Or.inl ⟨rfl, ?hy2_18⟩) ?ha2_18 ?rest2_18
    case hy2_18 => intro w; first | (go_simp; done) | (go_simp; with_reducible rfl) | (go_simp; rfl)
    case ha2_18 => go_simp; rfl
    refine pure_ (i := 17) (a' := ?a2_19) (v := .bool true) #[true, true, true, true, true, true, true, true, true, true, true, true, true, true, true, true, true, true, false, false, false, false] rfl rfl (by kernel_rfl) (fun _ _ _ h => h) (Or.inl ⟨rfl, ?hy2_19⟩) ?ha2_19 ?rest2_19
    case hy2_19 => intro w; first | (go_simp; done) | (go_simp; with_reducible rfl) | (go_simp; rfl)
    case ha2_19 => go_simp; rfl
    refine pure_ (i := 18) (a' := ?a2_20) (v := .bool true) #[true, true, true, true, true, true, true, true, true, true, true, true, true, true, true, true, true, true, true, false, false, false] rfl rfl (by kernel_rfl) (fun _ _ _ h => h) (Or.inl ⟨rfl, ?hy2_20⟩) ?ha2_20 ?rest2_20
    case hy2_20 => intro w; first | (go_simp; done) | (go_simp; with_reducible rfl) | (go_simp; rfl)
    case ha2_20 => go_simp; rfl
    refine one_ (i := 19) #[true, true, true, true, true, true, true, true, true, true, true, true, true, true, true, true, true, true, true, true, false, false] rfl rfl (by kernel_rfl) (by decide) ?_
    intro K_ hK_
    unfold Shut at hK_
    refine goes_ Tryd.func44 (by kernel_rfl) (by kernel_rfl) #[] rfl rfl rfl (by go_simp) ?_; refine (awake44_any _ (HT4.out.below hS_.out.2.2)).mono ?_; rintro e6 w6 ⟨rfl, hb6⟩; have hS2 := Stokens_law.next hS_ hb6; clear hb6; refine ⟨_, rfl, hK_ _ _ hS2 (fun hS_ => ?_)⟩; clear hK_ hS2
    refine norm_ (a' := ?a2_22n) ?ha2_22n ?rest2_22n
    case ha2_22n => go_simp; rfl
    refine pure_ (i := 20) (a' := ?a2_23) (v := .bool true) #[true, true, true, true, true, true, true, true, true, true, true, true, true, true, true, true, true, true, true, true, true, false] rfl rfl (by kernel_rfl) (fun _ _ _ h => h) (Or.inl ⟨rfl, ?hy2_23⟩) ?ha2_23 ?rest2_23
    case hy2_23 => intro w; first | (go_simp; done) | (go_simp; with_reducible rfl) | (go_simp; rfl)
    case ha2_23 => go_simp; rfl
    refine pure_ (i := 21) (a' := ?a2_24) (v := .bool true) #[true, true, true, true, true, true, true, true, true, true, true, true, true, true, true, true, true, true, true, true, true, true] rfl rfl (by kernel_rfl) (fun _ _ _ h => h) (Or.inl ⟨rfl, ?hy2_24⟩) ?ha2_24 ?rest2_24
    case hy2_24 => intro w; first | (go_simp; done) | (go_simp; with_reducible rfl) | (go_simp; rfl)
    case ha2_24 => go_simp; rfl
    refine done_ (by kernel_rfl) ?_
    have HBf := Aside0.mk (HB7.out.trans (hS_.out.2.2.mono HB7.out.size))
    go_wp2_with fail
    go_ret
    exact ⟨rfl, HBf.out⟩
end Go.Proofs.YtpigkgnmegpddaaDoor.Sh
