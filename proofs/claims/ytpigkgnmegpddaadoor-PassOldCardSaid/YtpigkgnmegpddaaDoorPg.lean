/-
PassSeals, walked.
-/
import Derived.Test.YtpigkgnmegpddaaDoorPq
namespace Go.Proofs.YtpigkgnmegpddaaDoor.Sh
set_option linter.unusedVariables false
set_option linter.unusedSimpArgs false
open Go.RowKit Go.Proofs.YtpigkgnmegpddaaDoorW.PrintWords Go.Proofs.YtpigkgnmegpddaaDoorW.PrintLast Go.Proofs.YtpigkgnmegpddaaDoorW.PrintMore

theorem size53 : (Tryd.prog.info? 53).map (·.size) = some 3 := by kernel_rfl
theorem size56 : (Tryd.prog.info? 56).map (·.size) = some 6 := by kernel_rfl
/-- What a region of calls keeps: a ticket's block, a token's block, and all that is older. -/
def Spass (w0 : World) (g4 g5 : Nat) (t : Tk) (u : Tn) (W : World) : Prop := Aside0 (W.heap[g4]? = some (.cells #[.int .u32 (t.p : Nat), .int .i64 t.e, .int .u64 (t.n : Nat)] 53 (0, 0)) ∧ W.heap[g5]? = some (.cells #[.int .u32 (u.p : Nat), .int .u32 (u.m : Nat), .int .u16 (u.i : Nat), .int .u8 (u.s : Nat), .int .i64 u.e, .int .u64 (u.n : Nat)] 56 (0, 0)) ∧ Below w0.heap.size w0 W)
theorem Spass.next {w0 W W' : World} {g4 g5 : Nat} {t : Tk} {u : Tn} (h : Spass w0 g4 g5 t u W) (hb : Below W.heap.size W W') : Spass w0 g4 g5 t u W' := ⟨blk_below h.out.1 hb, blk_below h.out.2.1 hb, below_step h.out.2.2 hb⟩
set_option maxRecDepth 100000 in
set_option maxHeartbeats 4000000 in
theorem seals_law {A : Option Addr} {n c : Nat} {key : List Int} {t : Tk} {u : Tn} (w : World) (hT : Tab w) (hC : (Kd.int .u8).C w A n key) (hc : n ≤ c) (hby : Byt key) (ht : t.ok) (hu : u.ok) :
    Calls Tryd.prog 14 #[.slice A n c, .agg #[.int .u32 t.p, .int .i64 t.e, .int .u64 t.n], .agg #[.int .u32 u.p, .int .u32 u.m, .int .u16 u.i, .int .u8 u.s, .int .i64 u.e, .int .u64 u.n]] w fun e w' => e = .returned (.bool true) ∧ Below w.heap.size w w' := by
  have hu53 := Tryd.underlying53
  have hu56 := Tryd.underlying56
  have HT := Aside0.mk hT
  have H := Aside0.mk hC
  have Hby := Aside0.mk hby
  have Hn := Aside0.mk hC.1
  have hnm := hC.2.1
  have Ht := Aside0.mk ht
  have Hu := Aside0.mk hu
  clear hT hC hby ht hu
  by_cases h200 : 200 < n
  · go_enter Tryd.func14, Tryd.ntmps14
    go_wp2_with (first | ((with_reducible refine gate_dst (N := 4) rfl ?_); refine box_event ?hg (N := 4) ?hd (cs := #[.int .u32 (t.p : Nat), .int .i64 t.e, .int .u64 (t.n : Nat)]) (t := 53) ?hr ?_; (case hd => rfl); (case hg => rfl); (case hr => first | (go_simp; done) | (go_simp; rfl)); intro g4 hg_ w1 hbox_ hb_; have HB1 := Aside0.mk hb_;clear hg_ hbox_ hb_) | ((with_reducible refine gate_dst (N := 5) rfl ?_); refine box_event ?hg (N := 5) ?hd (cs := #[.int .u32 (u.p : Nat), .int .u32 (u.m : Nat), .int .u16 (u.i : Nat), .int .u8 (u.s : Nat), .int .i64 u.e, .int .u64 (u.n : Nat)]) (t := 56) ?hr ?_; (case hd => rfl); (case hg => rfl); (case hr => first | (go_simp; done) | (go_simp; rfl)); intro g5 hg_ w2 hbox_ hb_; have HB2 := Aside0.mk (below_step HB1.out hb_);clear hg_ hbox_ hb_))
    go_ret
    exact ⟨rfl, HB2.out⟩
  have Hm : Aside0 (key.length ≤ 1000000) := ⟨by rw [Hn.out]; omega⟩
  go_enter Tryd.func14, Tryd.ntmps14
  go_wp2_with (first | ((with_reducible refine gate_dst (N := 4) rfl ?_); refine box_event ?hg (N := 4) ?hd (cs := #[.int .u32 (t.p : Nat), .int .i64 t.e, .int .u64 (t.n : Nat)]) (t := 53) ?hr ?_; (case hd => rfl); (case hg => rfl); (case hr => first | (go_simp; done) | (go_simp; rfl)); intro g4 hg_ w1 hbox_ hb_; have H1 := Aside0.mk hbox_; have HB1 := Aside0.mk hb_;clear hg_ hbox_ hb_) | ((with_reducible refine gate_dst (N := 5) rfl ?_); refine box_event ?hg (N := 5) ?hd (cs := #[.int .u32 (u.p : Nat), .int .u32 (u.m : Nat), .int .u16 (u.i : Nat), .int .u8 (u.s : Nat), .int .i64 u.e, .int .u64 (u.n : Nat)]) (t := 56) ?hr ?_; (case hd => rfl); (case hg => rfl); (case hr => first | (go_simp; done) | (go_simp; rfl)); intro g5 hg_ w2 hbox_ hb_; have H2 := Aside0.mk hbox_; have H12 := Aside0.mk (blk_below H1.out hb_); have HB2 := Aside0.mk (below_step HB1.out hb_);clear hg_ hbox_ hb_))
  refine (make_any _ (HT.out.below HB2.out) (Kd.C_below H.out HB2.out) hc Hby.out (by have := Hm.out; omega)).mono ?_
  rintro e w4 ⟨g, rfl, hk, hg, hb4⟩
  have HK4 := Aside0.mk (KeyTag.of hk (kbl_length _) (kbl_byt Hby.out))
  have HB4 := Aside0.mk (below_step HB2.out hb4)
  have HT4 := Aside0.mk (HT.out.below HB4.out)
  have HC4 := Aside0.mk (Kd.C_below H.out HB4.out)
  have H4 := Aside0.mk (And.intro (blk_below H12.out hb4) (blk_below H2.out hb4))
  clear hk hg hb4 H1 HB1 H2 H12 HB2
  obtain ⟨s1, hs1⟩ : ∃ s1, s1 = strOfNums (t.front ++ tag key t.front) := ⟨_, rfl⟩
  obtain ⟨s2, hs2⟩ : ∃ s2, s2 = strOfNums (u.front ++ tag key u.front) := ⟨_, rfl⟩
  have Hs1 : Aside0 (strOfNums (t.front ++ tagk (kbl key) t.front) = s1) := ⟨hs1.symm⟩
  have Hs1b : Aside0 (strOfNums (t.front ++ tag key t.front) = s1) := ⟨hs1.symm⟩
  have Hs2 : Aside0 (strOfNums (u.front ++ tagk (kbl key) u.front) = s2) := ⟨hs2.symm⟩
  have Hs2b : Aside0 (strOfNums (u.front ++ tag key u.front) = s2) := ⟨hs2.symm⟩
  clear hs1 hs2
  go_wp2_with fail
  have hS : Spass w4 g4 g5 t u w4.drew := ⟨H4.out.1, H4.out.2, below_drew (Below.refl _ _)⟩
  refine start_ (S := Spass w4 g4 g5 t u) (ds := []) #[false, false, false, false, false, false, false, false, false, false, false, false, false, false, false, false, false, false, false, false, false, false] (by kernel_rfl) rfl rfl hS ?_
  intro hS_
  refine take_ (i := 0) (a' := ?a1_1) (v := .agg #[.int .u32 (t.p : Nat), .int .i64 t.e, .int .u64 (t.n : Nat)]) #[true, false, false, false, false, false, false, false, false, false, false, false, false, false, false, false, false, false, false, false, false, false] rfl rfl (by kernel_rfl) (fun _ _ _ h => h) (yields_row rfl 53 (.tmp 4) rfl g4 0 rfl #[.int .u32 (t.p : Nat), .int .i64 t.e, .int .u64 (t.n : Nat)] _ (fun w h => range_block h.out.1 _ ⟨[], by rw [List.append_nil]⟩) hu53 rfl size53) hS_ ?ha1_1 ?rest1_1
  case ha1_1 => go_simp; rfl
  refine pure_ (i := 2) (a' := ?a1_2) (v := .pointer (some ⟨g, 0, none⟩)) #[true, false, true, false, false, false, false, false, false, false, false, false, false, false, false, false, false, false, false, false, false, false] rfl rfl (by kernel_rfl) (fun _ _ _ h => h) (Or.inl ⟨rfl, ?hy1_2⟩) ?ha1_2 ?rest1_2
  case hy1_2 => intro w; first | (go_simp; done) | (go_simp; with_reducible rfl) | (go_simp; rfl)
  case ha1_2 => go_simp; rfl
  refine pure_ (i := 4) (a' := ?a1_3) (v := .slice A n c) #[true, false, true, false, true, false, false, false, false, false, false, false, false, false, false, false, false, false, false, false, false, false] rfl rfl (by kernel_rfl) (fun _ _ _ h => h) (Or.inl ⟨rfl, ?hy1_3⟩) ?ha1_3 ?rest1_3
  case hy1_3 => intro w; first | (go_simp; done) | (go_simp; with_reducible rfl) | (go_simp; rfl)
  case ha1_3 => go_simp; rfl
  refine take_ (i := 5) (a' := ?a1_4) (v := .agg #[.int .u32 (t.p : Nat), .int .i64 t.e, .int .u64 (t.n : Nat)]) #[true, false, true, false, true, true, false, false, false, false, false, false, false, false, false, false, false, false, false, false, false, false] rfl rfl (by kernel_rfl) (fun _ _ _ h => h) (yields_row rfl 53 (.tmp 4) rfl g4 0 rfl #[.int .u32 (t.p : Nat), .int .i64 t.e, .int .u64 (t.n : Nat)] _ (fun w h => range_block h.out.1 _ ⟨[], by rw [List.append_nil]⟩) hu53 rfl size53) hS_ ?ha1_4 ?rest1_4
  case ha1_4 => go_simp; rfl
  refine one_ (i := 1) #[true, true, true, false, true, true, false, false, false, false, false, false, false, false, false, false, false, false, false, false, false, false] rfl rfl (by kernel_rfl) (by decide) ?_
  intro K_ hK_
  unfold Shut at hK_
  refine goes_ Tryd.func38 (by kernel_rfl) (by kernel_rfl) #[.agg #[.int .u32 (t.p : Nat), .int .i64 t.e, .int .u64 (t.n : Nat)]] rfl rfl rfl (by go_simp) ?_; refine (ticket38 (t := t) _).mono ?_; rintro e w5 ⟨rfl, hb6⟩; have hS2 := hS_.next hb6; clear hb6; refine ⟨_, rfl, hK_ _ _ hS2 (fun hS_ => ?_)⟩; clear hK_ hS2
  refine norm_ (a' := ?a1_6n) ?ha1_6n ?rest1_6n
  case ha1_6n => go_simp; rfl
  refine one_ (i := 3) #[true, true, true, true, true, true, false, false, false, false, false, false, false, false, false, false, false, false, false, false, false, false] rfl rfl (by kernel_rfl) (by decide) ?_
  intro K_ hK_
  unfold Shut at hK_
  refine goes_ Tryd.func39 (by kernel_rfl) (by kernel_rfl) #[.agg #[.int .u32 (t.p : Nat), .int .i64 t.e, .int .u64 (t.n : Nat)], .pointer (some ⟨g, 0, none⟩)] rfl rfl rfl (by go_simp) ?_; refine (seal39 (t := t) _ (HT4.out.below hS_.out.2.2) (HK4.out.below hS_.out.2.2) Ht.out).mono ?_; rintro e w6 ⟨rfl, hb6⟩; rw [Hs1.out]; have hS2 := hS_.next hb6; clear hb6; refine ⟨_, rfl, hK_ _ _ hS2 (fun hS_ => ?_)⟩; clear hK_ hS2
  refine norm_ (a' := ?a1_8n) ?ha1_8n ?rest1_8n
  case ha1_8n => go_simp; rfl
  refine one_ (i := 6) #[true, true, true, true, true, true, true, false, false, false, false, false, false, false, false, false, false, false, false, false, false, false] rfl rfl (by kernel_rfl) (by decide) ?_
  intro K_ hK_
  unfold Shut at hK_
  refine goes_ Tryd.func40 (by kernel_rfl) (by kernel_rfl) #[.slice A n c, .agg #[.int .u32 (t.p : Nat), .int .i64 t.e, .int .u64 (t.n : Nat)]] rfl rfl rfl (by go_simp) ?_; refine (refseal40 (t := t) _ (Kd.C_below HC4.out hS_.out.2.2) hc Hby.out Hm.out Ht.out).mono ?_; rintro e w7 ⟨rfl, hb6⟩; rw [Hs1b.out]; have hS2 := hS_.next hb6; clear hb6; refine ⟨_, rfl, hK_ _ _ hS2 (fun hS_ => ?_)⟩; clear hK_ hS2
  refine norm_ (a' := ?a1_10n) ?ha1_10n ?rest1_10n
  case ha1_10n => go_simp; rfl
  refine pure_ (i := 7) (a' := ?a1_11) (v := .bool true) #[true, true, true, true, true, true, true, true, false, false, false, false, false, false, false, false, false, false, false, false, false, false] rfl rfl (by kernel_rfl) (fun _ _ _ h => h) (Or.inl ⟨rfl, ?hy1_11⟩) ?ha1_11 ?rest1_11
  case hy1_11 => intro w; first | (go_simp; done) | (go_simp; with_reducible rfl) | (go_simp; rfl)
  case ha1_11 => go_simp; rfl
  refine pure_ (i := 8) (a' := ?a1_12) (v := .bool true) #[true, true, true, true, true, true, true, true, true, false, false, false, false, false, false, false, false, false, false, false, false, false] rfl rfl (by kernel_rfl) (fun _ _ _ h => h) (Or.inl ⟨rfl, ?hy1_12⟩) ?ha1_12 ?rest1_12
  case hy1_12 => intro w; first | (go_simp; done) | (go_simp; with_reducible rfl) | (go_simp; rfl)
  case ha1_12 => go_simp; rfl
  refine take_ (i := 9) (a' := ?a1_13) (v := .agg #[.int .u32 (u.p : Nat), .int .u32 (u.m : Nat), .int .u16 (u.i : Nat), .int .u8 (u.s : Nat), .int .i64 u.e, .int .u64 (u.n : Nat)]) #[true, true, true, true, true, true, true, true, true, true, false, false, false, false, false, false, false, false, false, false, false, false] rfl rfl (by kernel_rfl) (fun _ _ _ h => h) (yields_row rfl 56 (.tmp 5) rfl g5 0 rfl #[.int .u32 (u.p : Nat), .int .u32 (u.m : Nat), .int .u16 (u.i : Nat), .int .u8 (u.s : Nat), .int .i64 u.e, .int .u64 (u.n : Nat)] _ (fun w h => range_block h.out.2.1 _ ⟨[], by rw [List.append_nil]⟩) hu56 rfl size56) hS_ ?ha1_13 ?rest1_13
  case ha1_13 => go_simp; rfl
  refine pure_ (i := 11) (a' := ?a1_14) (v := .pointer (some ⟨g, 0, none⟩)) #[true, true, true, true, true, true, true, true, true, true, false, true, false, false, false, false, false, false, false, false, false, false] rfl rfl (by kernel_rfl) (fun _ _ _ h => h) (Or.inl ⟨rfl, ?hy1_14⟩) ?ha1_14 ?rest1_14
  case hy1_14 => intro w; first | (go_simp; done) | (go_simp; with_reducible rfl) | (go_simp; rfl)
  case ha1_14 => go_simp; rfl
  refine pure_ (i := 13) (a' := ?a1_15) (v := .slice A n c) #[true, true, true, true, true, true, true, true, true, true, false, true, false, true, false, false, false, false, false, false, false, false] rfl rfl (by kernel_rfl) (fun _ _ _ h => h) (Or.inl ⟨rfl, ?hy1_15⟩) ?ha1_15 ?rest1_15
  case hy1_15 => intro w; first | (go_simp; done) | (go_simp; with_reducible rfl) | (go_simp; rfl)
  case ha1_15 => go_simp; rfl
  refine take_ (i := 14) (a' := ?a1_16) (v := .agg #[.int .u32 (u.p : Nat), .int .u32 (u.m : Nat), .int .u16 (u.i : Nat), .int .u8 (u.s : Nat), .int .i64 u.e, .int .u64 (u.n : Nat)]) #[true, true, true, true, true, true, true, true, true, true, false, true, false, true, true, false, false, false, false, false, false, false] rfl rfl (by kernel_rfl) (fun _ _ _ h => h) (yields_row rfl 56 (.tmp 5) rfl g5 0 rfl #[.int .u32 (u.p : Nat), .int .u32 (u.m : Nat), .int .u16 (u.i : Nat), .int .u8 (u.s : Nat), .int .i64 u.e, .int .u64 (u.n : Nat)] _ (fun w h => range_block h.out.2.1 _ ⟨[], by rw [List.append_nil]⟩) hu56 rfl size56) hS_ ?ha1_16 ?rest1_16
  case ha1_16 => go_simp; rfl
  refine one_ (i := 10) #[true, true, true, true, true, true, true, true, true, true, true, true, false, true, true, false, false, false, false, false, false, false] rfl rfl (by kernel_rfl) (by decide) ?_
  intro K_ hK_
  unfold Shut at hK_
  refine goes_ Tryd.func41 (by kernel_rfl) (by kernel_rfl) #[.agg #[.int .u32 (u.p : Nat), .int .u32 (u.m : Nat), .int .u16 (u.i : Nat), .int .u8 (u.s : Nat), .int .i64 u.e, .int .u64 (u.n : Nat)]] rfl rfl rfl (by go_simp) ?_; refine (token41 (t := u) _).mono ?_; rintro e w8 ⟨rfl, hb6⟩; have hS2 := hS_.next hb6; clear hb6; refine ⟨_, rfl, hK_ _ _ hS2 (fun hS_ => ?_)⟩; clear hK_ hS2
  refine norm_ (a' := ?a1_18n) ?ha1_18n ?rest1_18n
  case ha1_18n => go_simp; rfl
  refine one_ (i := 12) #[true, true, true, true, true, true, true, true, true, true, true, true, true, true, true, false, false, false, false, false, false, false] rfl rfl (by kernel_rfl) (by decide) ?_
  intro K_ hK_
  unfold Shut at hK_
  refine goes_ Tryd.func42 (by kernel_rfl) (by kernel_rfl) #[.agg #[.int .u32 (u.p : Nat), .int .u32 (u.m : Nat), .int .u16 (u.i : Nat), .int .u8 (u.s : Nat), .int .i64 u.e, .int .u64 (u.n : Nat)], .pointer (some ⟨g, 0, none⟩)] rfl rfl rfl (by go_simp) ?_; refine (seal42 (t := u) _ (HT4.out.below hS_.out.2.2) (HK4.out.below hS_.out.2.2) Hu.out).mono ?_; rintro e w9 ⟨rfl, hb6⟩; rw [Hs2.out]; have hS2 := hS_.next hb6; clear hb6; refine ⟨_, rfl, hK_ _ _ hS2 (fun hS_ => ?_)⟩; clear hK_ hS2
  refine norm_ (a' := ?a1_20n) ?ha1_20n ?rest1_20n
  case ha1_20n => go_simp; rfl
  refine one_ (i := 15) #[true, true, true, true, true, true, true, true, true, true, true, true, true, true, true, true, false, false, false, false, false, false] rfl rfl (by kernel_rfl) (by decide) ?_
  intro K_ hK_
  unfold Shut at hK_
  refine goes_ Tryd.func43 (by kernel_rfl) (by kernel_rfl) #[.slice A n c, .agg #[.int .u32 (u.p : Nat), .int .u32 (u.m : Nat), .int .u16 (u.i : Nat), .int .u8 (u.s : Nat), .int .i64 u.e, .int .u64 (u.n : Nat)]] rfl rfl rfl (by go_simp) ?_; refine (refseal43 (t := u) _ (Kd.C_below HC4.out hS_.out.2.2) hc Hby.out Hm.out Hu.out).mono ?_; rintro e wa ⟨rfl, hb6⟩; rw [Hs2b.out]; have hS2 := hS_.next hb6; clear hb6; refine ⟨_, rfl, hK_ _ _ hS2 (fun hS_ => ?_)⟩; clear hK_ hS2
  refine norm_ (a' := ?a1_22n) ?ha1_22n ?rest1_22n
  case ha1_22n => go_simp; rfl
  refine pure_ (i := 16) (a' := ?a1_23) (v := .bool true) #[true, true, true, true, true, true, true, true, true, true, true, true, true, true, true, true, true, false, false, false, false, false] rfl rfl (by kernel_rfl) (fun _ _ _ h => h) (Or.inl ⟨rfl, ?hy1_23⟩) ?ha1_23 ?rest1_23
  case hy1_23 => intro w; first | (go_simp; done) | (go_simp; with_reducible rfl) | (go_simp; rfl)
  case ha1_23 => go_simp; rfl
  refine pure_ (i := 17) (a' := ?a1_24) (v := .bool true) #[true, true, true, true, true, true, true, true, true, true, true, true, true, true, true, true, true, true, false, false, false, false] rfl rfl (by kernel_rfl) (fun _ _ _ h => h) (Or.inl ⟨rfl, ?hy1_24⟩) ?ha1_24 ?rest1_24
  case hy1_24 => intro w; first | (go_simp; done) | (go_simp; with_reducible rfl) | (go_simp; rfl)
  case ha1_24 => go_simp; rfl
  refine pure_ (i := 18) (a' := ?a1_25) (v := .bool true) #[true, true, true, true, true, true, true, true, true, true, true, true, true, true, true, true, true, true, true, false, false, false] rfl rfl (by kernel_rfl) (fun _ _ _ h => h) (Or.inl ⟨rfl, ?hy1_25⟩) ?ha1_25 ?rest1_25
  case hy1_25 => intro w; first | (go_simp; done) | (go_simp; with_reducible rfl) | (go_simp; rfl)
  case ha1_25 => go_simp; rfl
  refine one_ (i := 19) #[true, true, true, true, true, true, true, true, true, true, true, true, true, true, true, true, true, true, true, true, false, false] rfl rfl (by kernel_rfl) (by decide) ?_
  intro K_ hK_
  unfold Shut at hK_
  refine goes_ Tryd.func44 (by kernel_rfl) (by kernel_rfl) #[] rfl rfl rfl (by go_simp) ?_; refine (awake44_any _ (HT4.out.below hS_.out.2.2)).mono ?_; rintro e wb ⟨rfl, hb6⟩; have hS2 := hS_.next hb6; clear hb6; refine ⟨_, rfl, hK_ _ _ hS2 (fun hS_ => ?_)⟩; clear hK_ hS2
  refine norm_ (a' := ?a1_27n) ?ha1_27n ?rest1_27n
  case ha1_27n => go_simp; rfl
  refine pure_ (i := 20) (a' := ?a1_28) (v := .bool true) #[true, true, true, true, true, true, true, true, true, true, true, true, true, true, true, true, true, true, true, true, true, false] rfl rfl (by kernel_rfl) (fun _ _ _ h => h) (Or.inl ⟨rfl, ?hy1_28⟩) ?ha1_28 ?rest1_28
  case hy1_28 => intro w; first | (go_simp; done) | (go_simp; with_reducible rfl) | (go_simp; rfl)
  case ha1_28 => go_simp; rfl
  refine pure_ (i := 21) (a' := ?a1_29) (v := .bool true) #[true, true, true, true, true, true, true, true, true, true, true, true, true, true, true, true, true, true, true, true, true, true] rfl rfl (by kernel_rfl) (fun _ _ _ h => h) (Or.inl ⟨rfl, ?hy1_29⟩) ?ha1_29 ?rest1_29
  case hy1_29 => intro w; first | (go_simp; done) | (go_simp; with_reducible rfl) | (go_simp; rfl)
  case ha1_29 => go_simp; rfl
  refine done_ (by kernel_rfl) ?_
  have HBf := Aside0.mk (HB4.out.trans (hS_.out.2.2.mono HB4.out.size))
  go_wp2_with fail
  go_ret
  exact ⟨rfl, HBf.out⟩
end Go.Proofs.YtpigkgnmegpddaaDoor.Sh
