/-
ShaSteps, walked.
-/
import Derived.Test.YtpigkgnmegpddaaDoorLa
namespace Go.Proofs.YtpigkgnmegpddaaDoor.Sh
set_option linter.unusedVariables false
set_option linter.unusedSimpArgs false
open Go.RowKit Go.Proofs.YtpigkgnmegpddaaDoorW.PrintWords Go.Proofs.YtpigkgnmegpddaaDoorW.PrintLast Go.Proofs.YtpigkgnmegpddaaDoorW.PrintMore

/-- What has been made since w. -/
abbrev Since (w W : World) : Prop := Aside0 (Below w.heap.size w W)
theorem since_call {w W W' : World} (h : Since w W) (hb : Below W.heap.size W W') : Since w W' := ⟨below_step h.out hb⟩
set_option maxRecDepth 100000 in
theorem steps_law (s : S8) (l : List Int) (hl : l.length = 64) (hby : Byt l) (w : World) (hT : Tab w) :
    Calls Tryd.prog 3 #[.agg (v32 s.list), .agg (v8 l)] w fun e w' => e = .returned (.bool true) ∧ Below w.heap.size w w' := by
  have hu23 := Tryd.underlying23
  have hu24 := Tryd.underlying24
  have HT := Aside0.mk hT
  have Hl := Aside0.mk hl
  have Hby := Aside0.mk hby
  clear hT hl hby
  have hg23 := guard23
  obtain ⟨q, hq⟩ : ∃ q, q = step s l := ⟨_, rfl⟩
  have Hq := Aside0.mk hq
  clear hq
  have heq := fun w => eq23 q.list q.list rfl rfl w
  simp only [decide_true] at heq
  go_enter Tryd.func3, Tryd.ntmps3
  go_wp2_with (first | ((with_reducible refine gate_dst (N := 2) rfl ?_); refine box_event ?hg (N := 2) ?hd (cs := v32 s.list) (t := 23) ?hr ?_; (case hd => rfl); (case hg => rfl); (case hr => first | (go_simp; done) | (go_simp; rfl)); intro g2 hg_ w1 hbox_ hb_; have H2 := Aside0.mk hbox_; have HB1 := Aside0.mk hb_;clear hg_ hbox_ hb_) | ((with_reducible refine gate_dst (N := 3) rfl ?_); refine box_event ?hg (N := 3) ?hd (cs := v8 l) (t := 24) ?hr ?_; (case hd => rfl); (case hg => rfl); (case hr => first | (go_simp; done) | (go_simp; rfl)); intro g3 hg_ w2 hbox_ hb_; have H3 := Aside0.mk hbox_; have H22 := Aside0.mk (blk_below H2.out hb_); have HB2 := Aside0.mk (below_step HB1.out hb_);clear hg_ hbox_ hb_))
  have HT2 := Aside0.mk (HT.out.below HB2.out)
  clear H2 HB1
  have hS : Since w2 w2.drew := ⟨below_drew (Below.refl _ _)⟩
  refine start_ (S := fun W => Since w2 W) (ds := []) #[false, false, false, false, false, false, false, false, false, false, false] (by kernel_rfl) rfl rfl hS ?_
  intro hS_
  refine take_ (i := 0) (a' := ?a1_1) (v := .agg (v32 s.list)) #[true, false, false, false, false, false, false, false, false, false, false] rfl rfl (by kernel_rfl) (fun _ _ _ h => h) (yields_row rfl 23 (.tmp 2) rfl g2 0 rfl (v32 s.list) _ (fun w h => range_block ((h.out.block g2 (blk_lt H22.out)).trans H22.out) _ ⟨[], by rw [List.append_nil]⟩) hu23 rfl (size23 rfl)) hS_ ?ha1_1 ?rest1_1
  case ha1_1 => go_simp; rfl
  refine take_ (i := 1) (a' := ?a1_2) (v := .agg (v8 l)) #[true, true, false, false, false, false, false, false, false, false, false] rfl rfl (by kernel_rfl) (fun _ _ _ h => h) (yields_row rfl 24 (.tmp 3) rfl g3 0 rfl (v8 l) _ (fun w h => range_block ((h.out.block g3 (blk_lt H3.out)).trans H3.out) _ ⟨[], by rw [List.append_nil]⟩) hu24 rfl (size24 Hl.out)) hS_ ?ha1_2 ?rest1_2
  case ha1_2 => go_simp; rfl
  refine take_ (i := 3) (a' := ?a1_3) (v := .agg (v32 s.list)) #[true, true, false, true, false, false, false, false, false, false, false] rfl rfl (by kernel_rfl) (fun _ _ _ h => h) (yields_row rfl 23 (.tmp 2) rfl g2 0 rfl (v32 s.list) _ (fun w h => range_block ((h.out.block g2 (blk_lt H22.out)).trans H22.out) _ ⟨[], by rw [List.append_nil]⟩) hu23 rfl (size23 rfl)) hS_ ?ha1_3 ?rest1_3
  case ha1_3 => go_simp; rfl
  refine pure_ (i := 4) (a' := ?a1_4) (v := .slice (some ⟨g3, 0, none⟩) 64 64) #[true, true, false, true, true, false, false, false, false, false, false] rfl rfl (by kernel_rfl) (fun _ _ _ h => h) (Or.inl ⟨rfl, ?hy1_4⟩) ?ha1_4 ?rest1_4
  case hy1_4 => intro w; first | (go_simp; done) | (go_simp; with_reducible rfl) | (go_simp; rfl)
  case ha1_4 => go_simp; rfl
  refine one_ (i := 2) #[true, true, true, true, true, false, false, false, false, false, false] rfl rfl (by kernel_rfl) (by decide) ?_
  intro K_ hK_
  unfold Shut at hK_
  refine goes_ Tryd.func21 (by kernel_rfl) (by kernel_rfl) #[.agg (v32 s.list), .agg (v8 l)] rfl rfl rfl (by go_simp) ?_; refine (step_any s l Hl.out Hby.out _ ((HT2.out.below hS_.out).t)).mono ?_; rintro e w3 ⟨rfl, hb3⟩; have hS3 := since_call hS_ hb3; clear hb3; rw [← Hq.out]; refine ⟨_, rfl, hK_ _ _ hS3 (fun hS_ => ?_)⟩; clear hK_
  refine norm_ (a' := ?a1_6n) ?ha1_6n ?rest1_6n
  case ha1_6n => go_simp; rfl
  refine one_ (i := 5) #[true, true, true, true, true, true, false, false, false, false, false] rfl rfl (by kernel_rfl) (by decide) ?_
  intro K_ hK_
  unfold Shut at hK_
  refine goes_ Tryd.func22 (by kernel_rfl) (by kernel_rfl) #[.agg (v32 s.list), .slice (some ⟨g3, 0, none⟩) 64 64] rfl rfl rfl (by go_simp) ?_; refine (refstep_any s l Hl.out Hby.out _ (Rd.block (S := fun _ => False) ((hS_.out.block g3 (blk_lt H3.out)).trans H3.out) (fun h => h) Hl.out (by decide) (fun j hj => by rw [Nat.zero_add]; exact v8_get (by rw [Hl.out]; exact hj))).now).mono ?_; rintro e w4 ⟨rfl, hb4⟩; have hS4 := since_call hS_ hb4; clear hb4; rw [← Hq.out]; refine ⟨_, rfl, hK_ _ _ hS4 (fun hS_ => ?_)⟩; clear hK_
  refine norm_ (a' := ?a1_8n) ?ha1_8n ?rest1_8n
  case ha1_8n => go_simp; rfl
  refine pure_ (i := 6) (a' := ?a1_9) (v := .bool true) #[true, true, true, true, true, true, true, false, false, false, false] rfl rfl (by kernel_rfl) (fun _ _ _ h => h) (Or.inl ⟨rfl, ?hy1_9⟩) ?ha1_9 ?rest1_9
  case hy1_9 => intro w; first | (go_simp; done) | (go_simp; with_reducible rfl) | (go_simp; rfl)
  case ha1_9 => go_simp; rfl
  refine pure_ (i := 7) (a' := ?a1_10) (v := .bool true) #[true, true, true, true, true, true, true, true, false, false, false] rfl rfl (by kernel_rfl) (fun _ _ _ h => h) (Or.inl ⟨rfl, ?hy1_10⟩) ?ha1_10 ?rest1_10
  case hy1_10 => intro w; first | (go_simp; done) | (go_simp; with_reducible rfl) | (go_simp; rfl)
  case ha1_10 => go_simp; rfl
  refine one_ (i := 8) #[true, true, true, true, true, true, true, true, true, false, false] rfl rfl (by kernel_rfl) (by decide) ?_
  intro K_ hK_
  unfold Shut at hK_
  refine goes_ Tryd.func23 (by kernel_rfl) (by kernel_rfl) #[] rfl rfl rfl (by go_simp) ?_; refine (awake_any _ (HT2.out.below hS_.out)).mono ?_; rintro e w5 ⟨rfl, hb5⟩; have hS5 := since_call hS_ hb5; clear hb5; refine ⟨_, rfl, hK_ _ _ hS5 (fun hS_ => ?_)⟩; clear hK_
  refine norm_ (a' := ?a1_12n) ?ha1_12n ?rest1_12n
  case ha1_12n => go_simp; rfl
  refine pure_ (i := 9) (a' := ?a1_13) (v := .bool true) #[true, true, true, true, true, true, true, true, true, true, false] rfl rfl (by kernel_rfl) (fun _ _ _ h => h) (Or.inl ⟨rfl, ?hy1_13⟩) ?ha1_13 ?rest1_13
  case hy1_13 => intro w; first | (go_simp; done) | (go_simp; with_reducible rfl) | (go_simp; rfl)
  case ha1_13 => go_simp; rfl
  refine pure_ (i := 10) (a' := ?a1_14) (v := .bool true) #[true, true, true, true, true, true, true, true, true, true, true] rfl rfl (by kernel_rfl) (fun _ _ _ h => h) (Or.inl ⟨rfl, ?hy1_14⟩) ?ha1_14 ?rest1_14
  case hy1_14 => intro w; first | (go_simp; done) | (go_simp; with_reducible rfl) | (go_simp; rfl)
  case ha1_14 => go_simp; rfl
  refine done_ (by kernel_rfl) ?_
  go_wp2_with fail
  go_ret
  exact ⟨rfl, HB2.out.trans (hS_.out.mono HB2.out.size)⟩
theorem steps_row (w : World) (hT : Tab w) {s : S8} {l : List Int} (hl : l.length = 64) (hby : Byt l) : Calls Tryd.prog 3 #[.agg (v32 s.list), .agg (v8 l)] w fun e w' => e = .returned (.bool true) ∧ Below w.heap.size w w' := steps_law s l hl hby w hT
end Go.Proofs.YtpigkgnmegpddaaDoor.Sh
