/-
PassBack, walked.
-/
import Derived.Test.YtpigkgnmegpddaaDoorPm
namespace Go.Proofs.YtpigkgnmegpddaaDoor.Sh
set_option linter.unusedVariables false
set_option linter.unusedSimpArgs false
open Go.RowKit Go.Proofs.YtpigkgnmegpddaaDoorW.PrintWords Go.Proofs.YtpigkgnmegpddaaDoorW.PrintLast Go.Proofs.YtpigkgnmegpddaaDoorW.PrintMore

/-- What a region of calls keeps: the law's ticket and token, the program's, and all that is older. -/
def Spk (w0 : World) (g4 g5 : Nat) (t : Tk) (u : Tn) (W : World) : Prop := Aside0 (W.heap[g4]? = some (.cells #[.int .u32 (t.p : Nat), .int .i64 t.e, .int .u64 (t.n : Nat)] 53 (0, 0)) ∧ W.heap[g5]? = some (.cells #[.int .u32 (u.p : Nat), .int .u32 (u.m : Nat), .int .u16 (u.i : Nat), .int .u8 (u.s : Nat), .int .i64 u.e, .int .u64 (u.n : Nat)] 56 (0, 0)) ∧ Below w0.heap.size w0 W)
theorem Spk.next {w0 W W' : World} {g4 g5 : Nat} {t : Tk} {u : Tn} (h : Spk w0 g4 g5 t u W) (hb : Below W.heap.size W W') : Spk w0 g4 g5 t u W' := ⟨blk_below h.out.1 hb, blk_below h.out.2.1 hb, below_step h.out.2.2 hb⟩
theorem Spk.set {w0 W : World} {g4 g5 g : Nat} {t : Tk} {u : Tn} (h : Spk w0 g4 g5 t u W) (hg : g4 < w0.heap.size ∧ g5 < w0.heap.size) (hl : w0.heap.size ≤ g) (vs : List Value) : Spk w0 g4 g5 t u (W.setCells g 0 vs) :=
  ⟨(setCells_far _ _ g4 (by omega)).trans h.out.1, (setCells_far _ _ g5 (by omega)).trans h.out.2.1, setCells_below vs h.out.2.2 hl⟩
def Sbk (w0 : World) (g4 g5 g7 g8 : Nat) (t : Tk) (u : Tn) (W : World) : Prop := Aside0 (W.heap[g4]? = some (.cells #[.int .u32 (t.p : Nat), .int .i64 t.e, .int .u64 (t.n : Nat)] 53 (0, 0)) ∧ W.heap[g5]? = some (.cells #[.int .u32 (u.p : Nat), .int .u32 (u.m : Nat), .int .u16 (u.i : Nat), .int .u8 (u.s : Nat), .int .i64 u.e, .int .u64 (u.n : Nat)] 56 (0, 0)) ∧ W.heap[g7]? = some (.cells #[.int .u32 (t.p : Nat), .int .i64 t.e, .int .u64 (t.n : Nat)] 60 (0, 0)) ∧ W.heap[g8]? = some (.cells #[.int .u32 (u.p : Nat), .int .u32 (u.m : Nat), .int .u16 (u.i : Nat), .int .u8 (u.s : Nat), .int .i64 u.e, .int .u64 (u.n : Nat)] 65 (0, 0)) ∧ Below w0.heap.size w0 W)
theorem Sbk.next {w0 W W' : World} {g4 g5 g7 g8 : Nat} {t : Tk} {u : Tn} (h : Sbk w0 g4 g5 g7 g8 t u W) (hb : Below W.heap.size W W') : Sbk w0 g4 g5 g7 g8 t u W' := ⟨blk_below h.out.1 hb, blk_below h.out.2.1 hb, blk_below h.out.2.2.1 hb, blk_below h.out.2.2.2.1 hb, below_step h.out.2.2.2.2 hb⟩
set_option maxRecDepth 100000 in
set_option maxHeartbeats 8000000 in
theorem back_law {A : Option Addr} {n c : Nat} {key : List Int} {t : Tk} {u : Tn} (w : World) (hT : Tab w) (hC : (Kd.int .u8).C w A n key) (hc : n ≤ c) (hby : Byt key) (ht : t.ok) (hu : u.ok) :
    Calls Tryd.prog 19 #[.slice A n c, .agg #[.int .u32 (t.p : Nat), .int .i64 t.e, .int .u64 (t.n : Nat)], .agg #[.int .u32 (u.p : Nat), .int .u32 (u.m : Nat), .int .u16 (u.i : Nat), .int .u8 (u.s : Nat), .int .i64 u.e, .int .u64 (u.n : Nat)]] w fun e w' => e = .returned (.bool true) ∧ Below w.heap.size w w' := by
  have hu53 := Tryd.underlying53
  have hu56 := Tryd.underlying56
  have hu60 := Tryd.underlying60
  have hu65 := Tryd.underlying65
  have size53 := sizeR53
  have size56 := sizeR56
  have HT := Aside0.mk hT
  have H := Aside0.mk hC
  have Hby := Aside0.mk hby
  have Hn := Aside0.mk hC.1
  have hnm := hC.2.1
  have Ht := Aside0.mk ht
  have Hu := Aside0.mk hu
  clear hT hC hby ht hu
  by_cases h200 : 200 < n
  · go_enter Tryd.func19, Tryd.ntmps19
    go_wp2_with (first | ((with_reducible refine gate_dst (N := 4) rfl ?_); refine box_event ?hg (N := 4) ?hd (cs := #[.int .u32 (t.p : Nat), .int .i64 t.e, .int .u64 (t.n : Nat)]) (t := 53) ?hr ?_; (case hd => rfl); (case hg => rfl); (case hr => first | (go_simp; done) | (go_simp; rfl)); intro g4 hg_ w1 hbox_ hb_; have HB1 := Aside0.mk hb_;clear hg_ hbox_ hb_) | ((with_reducible refine gate_dst (N := 5) rfl ?_); refine box_event ?hg (N := 5) ?hd (cs := #[.int .u32 (u.p : Nat), .int .u32 (u.m : Nat), .int .u16 (u.i : Nat), .int .u8 (u.s : Nat), .int .i64 u.e, .int .u64 (u.n : Nat)]) (t := 56) ?hr ?_; (case hd => rfl); (case hg => rfl); (case hr => first | (go_simp; done) | (go_simp; rfl)); intro g5 hg_ w2 hbox_ hb_; have HB2 := Aside0.mk (below_step HB1.out hb_);clear hg_ hbox_ hb_))
    go_ret
    exact ⟨rfl, HB2.out⟩
  have Hm : Aside0 (key.length ≤ 1000000) := ⟨by rw [Hn.out]; omega⟩
  obtain ⟨s1, hs1⟩ : ∃ s1, s1 = strOfNums (t.front ++ tagk (kbl key) t.front) := ⟨_, rfl⟩
  obtain ⟨s2, hs2⟩ : ∃ s2, s2 = strOfNums (u.front ++ tagk (kbl key) u.front) := ⟨_, rfl⟩
  have Hs1 : Aside0 (strOfNums (t.front ++ tagk (kbl key) t.front) = s1) := ⟨hs1.symm⟩
  have Hs2 : Aside0 (strOfNums (u.front ++ tagk (kbl key) u.front) = s2) := ⟨hs2.symm⟩
  have Hz1 : Aside0 (s1.size = 53) := ⟨by rw [hs1]; exact seal_size key t⟩
  have Hz2 : Aside0 (s2.size = 60) := ⟨by rw [hs2]; exact seal_sizen key u⟩
  have HO1 : Aside0 (openT (fun tg x => decide (tg = tagk (kbl key) x)) s1 = (t, 0)) := ⟨by rw [hs1]; exact (openT_seal key Ht.out).trans (if_pos (decide_eq_true rfl))⟩
  have HO2 : Aside0 (openN (fun tg x => decide (tg = tagk (kbl key) x)) s2 = (u, 0)) := ⟨by rw [hs2]; exact (openN_seal key Hu.out).trans (if_pos (decide_eq_true rfl))⟩
  have HO3 : Aside0 (openN (fun tg x => decide (tg = tagk (kbl key) x)) s1 = (Tn.zero, 7)) := ⟨by rw [hs1]; exact openN_ticket key t⟩
  have HO4 : Aside0 (openT (fun tg x => decide (tg = tagk (kbl key) x)) s2 = (Tk.zero, 7)) := ⟨by rw [hs2]; exact openT_token key u⟩
  clear hs1 hs2
  go_enter Tryd.func19, Tryd.ntmps19
  go_wp2_with (first | ((with_reducible refine gate_dst (N := 4) rfl ?_); refine box_event ?hg (N := 4) ?hd (cs := #[.int .u32 (t.p : Nat), .int .i64 t.e, .int .u64 (t.n : Nat)]) (t := 53) ?hr ?_; (case hd => rfl); (case hg => rfl); (case hr => first | (go_simp; done) | (go_simp; rfl)); intro g4 hg_ w1 hbox_ hb_; have H1 := Aside0.mk hbox_; have HB1 := Aside0.mk hb_;clear hg_ hbox_ hb_) | ((with_reducible refine gate_dst (N := 5) rfl ?_); refine box_event ?hg (N := 5) ?hd (cs := #[.int .u32 (u.p : Nat), .int .u32 (u.m : Nat), .int .u16 (u.i : Nat), .int .u8 (u.s : Nat), .int .i64 u.e, .int .u64 (u.n : Nat)]) (t := 56) ?hr ?_; (case hd => rfl); (case hg => rfl); (case hr => first | (go_simp; done) | (go_simp; rfl)); intro g5 hg_ w2 hbox_ hb_; have H2 := Aside0.mk hbox_; have H12 := Aside0.mk (blk_below H1.out hb_); have HB2 := Aside0.mk (below_step HB1.out hb_);clear hg_ hbox_ hb_))
  refine (make_any _ (HT.out.below HB2.out) (Kd.C_below H.out HB2.out) hc Hby.out (by have := Hm.out; omega)).mono ?_
  rintro e wk ⟨g, rfl, hk, hg, hb4⟩
  have HKk := Aside0.mk (KeyTag.of hk (kbl_length _) (kbl_byt Hby.out))
  have HFk := Aside0.mk (KeyFits.of hk (kbl_length _) (kbl_byt Hby.out))
  have HBk := Aside0.mk (below_step HB2.out hb4)
  have HG4 := Aside0.mk (And.intro (Nat.lt_of_lt_of_le (blk_lt H12.out) hb4.size) (Nat.lt_of_lt_of_le (blk_lt H2.out) hb4.size))
  have hS : Spk wk g4 g5 t u wk.drew := ⟨blk_below H12.out (below_drew hb4), blk_below H2.out (below_drew hb4), below_drew (Below.refl _ _)⟩
  clear hk hg hb4 H1 HB1 H2 H12 HB2
  go_wp2_with fail
  refine start_ (S := Spk wk g4 g5 t u) (ds := []) #[false, false, false, false, false, false, false, false] (by kernel_rfl) rfl rfl hS ?_
  intro hS_
  refine take_ (i := 0) (a' := ?at1) (v := .agg #[.int .u32 (t.p : Nat), .int .i64 t.e, .int .u64 (t.n : Nat)]) #[true, false, false, false, false, false, false, false] rfl rfl (by kernel_rfl) (fun _ _ _ h => h) (yields_row rfl 53 (.tmp 4) rfl g4 0 rfl #[.int .u32 (t.p : Nat), .int .i64 t.e, .int .u64 (t.n : Nat)] _ (fun w h => range_block h.out.1 _ ⟨[], by rw [List.append_nil]⟩) hu53 rfl size53) hS_ ?hat1 ?restt1
  case hat1 => go_simp; rfl
  refine take_ (i := 2) (a' := ?at2) (v := .agg #[.int .u32 (u.p : Nat), .int .u32 (u.m : Nat), .int .u16 (u.i : Nat), .int .u8 (u.s : Nat), .int .i64 u.e, .int .u64 (u.n : Nat)]) #[true, false, true, false, false, false, false, false] rfl rfl (by kernel_rfl) (fun _ _ _ h => h) (yields_row rfl 56 (.tmp 5) rfl g5 0 rfl #[.int .u32 (u.p : Nat), .int .u32 (u.m : Nat), .int .u16 (u.i : Nat), .int .u8 (u.s : Nat), .int .i64 u.e, .int .u64 (u.n : Nat)] _ (fun w h => range_block h.out.2.1 _ ⟨[], by rw [List.append_nil]⟩) hu56 rfl size56) hS_ ?hat2 ?restt2
  case hat2 => go_simp; rfl
  refine join_ 2 #[true, true, true, true, true, true, false, false] (fun s : Nat × Nat => [(26, .agg #[.int .u32 (t.p : Nat), .int .i64 t.e, .int .u64 (t.n : Nat)]), (28, .agg #[.int .u32 (u.p : Nat), .int .u32 (u.m : Nat), .int .u16 (u.i : Nat), .int .u8 (u.s : Nat), .int .i64 u.e, .int .u64 (u.n : Nat)]), (8, .pointer (some ⟨s.1, 0, none⟩)), (9, .pointer (some ⟨s.2, 0, none⟩))]) (fun s W => Spk wk g4 g5 t u W ∧ W.heap[s.1]? = some (.cells #[.int .u32 0, .int .i64 0, .int .u64 0] 60 (0, 0)) ∧ W.heap[s.2]? = some (.cells #[.int .u32 0, .int .u32 0, .int .u16 0, .int .u8 0, .int .i64 0, .int .u64 0] 65 (0, 0)) ∧ wk.heap.size ≤ s.1 ∧ wk.heap.size ≤ s.2) ?cont ?tree
  case tree =>
    intro hcont_
    refine three_ (i := 1) (j := 4) (k := 5) #[true, true, true, false, false, false, false, false] #[true, false, true, false, true, false, false, false] #[true, false, true, false, false, true, false, false] rfl rfl rfl rfl rfl rfl (by kernel_rfl) (by decide) (by decide) (by decide) ?xt3 ?yt3 ?zt3
    case xt3 =>
      intro K_ hK_
      unfold Shut at hK_
      refine goes_ Tryd.func38 (by kernel_rfl) (by kernel_rfl) #[.agg #[.int .u32 (t.p : Nat), .int .i64 t.e, .int .u64 (t.n : Nat)]] rfl rfl rfl (by go_simp) ?_
      refine (ticket38 (t := t) wk.drew).mono ?_
      rintro e xt4 ⟨rfl, hb6⟩
      have hS2 := hS_.next hb6
      clear hb6
      refine ⟨_, rfl, hK_ _ _ hS2 (fun hS_ => ?_)⟩
      clear hK_ hS2
      refine norm_ (a' := ?at5) ?hat5 ?restt5
      case hat5 => go_simp; rfl
      refine three_ (i := 3) (j := 4) (k := 5) #[true, true, true, true, false, false, false, false] #[true, true, true, false, true, false, false, false] #[true, true, true, false, false, true, false, false] rfl rfl rfl rfl rfl rfl (by kernel_rfl) (by decide) (by decide) (by decide) ?xt6 ?yt6 ?zt6
      case xt6 =>
        intro K_ hK_
        unfold Shut at hK_
        refine goes_ Tryd.func41 (by kernel_rfl) (by kernel_rfl) #[.agg #[.int .u32 (u.p : Nat), .int .u32 (u.m : Nat), .int .u16 (u.i : Nat), .int .u8 (u.s : Nat), .int .i64 u.e, .int .u64 (u.n : Nat)]] rfl rfl rfl (by go_simp) ?_
        refine (token41 (t := u) xt4).mono ?_
        rintro e xt7 ⟨rfl, hb6⟩
        have hS2 := hS_.next hb6
        clear hb6
        refine ⟨_, rfl, hK_ _ _ hS2 (fun hS_ => ?_)⟩
        clear hK_ hS2
        refine norm_ (a' := ?at8) ?hat8 ?restt8
        case hat8 => go_simp; rfl
        refine two_ (i := 4) (j := 5) #[true, true, true, true, true, false, false, false] #[true, true, true, true, false, true, false, false] rfl rfl rfl rfl (by kernel_rfl) (by decide) (by decide) ?xt9 ?yt9
        case xt9 =>
          intro K_ hK_
          unfold Shut at hK_
          obtain ⟨bt10, hb⟩ : ∃ b, b = (xt7).heap.size := ⟨_, rfl⟩
          obtain ⟨xt10, hx⟩ : ∃ wx, wx = (xt7).alloc (.cells #[.int .u32 0, .int .i64 0, .int .u64 0] 60) := ⟨_, rfl⟩
          have hb6 : Below (xt7).heap.size (xt7) xt10 := by rw [hx]; exact below_alloc (Below.refl _ _) _
          have Z7t10 := Aside0.mk (show xt10.heap[bt10]? = some (.cells #[.int .u32 0, .int .i64 0, .int .u64 0] 60 (0, 0)) ∧ wk.heap.size ≤ bt10 from ⟨by rw [hx, hb]; exact heap_alloc_new _ _, by rw [hb]; exact hS_.out.2.2.size⟩)
          have hS2 := hS_.next hb6
          refine value_ (v := .pointer (some ⟨bt10, 0, none⟩)) (w1 := xt10) rfl rfl (by subst hx; subst hb; (first | (go_simp; done) | (go_simp; rfl))) ?_
          clear hx hb hb6
          refine hK_ _ _ hS2 (fun hS_ => ?_)
          clear hK_ hS2
          refine norm_ (a' := ?at11) ?hat11 ?restt11
          case hat11 => go_simp; rfl
          refine one_ (i := 5) #[true, true, true, true, true, true, false, false] rfl rfl (by kernel_rfl) (by decide) ?_
          intro K_ hK_
          unfold Shut at hK_
          obtain ⟨bt12, hb⟩ : ∃ b, b = (xt10).heap.size := ⟨_, rfl⟩
          obtain ⟨xt12, hx⟩ : ∃ wx, wx = (xt10).alloc (.cells #[.int .u32 0, .int .u32 0, .int .u16 0, .int .u8 0, .int .i64 0, .int .u64 0] 65) := ⟨_, rfl⟩
          have hb6 : Below (xt10).heap.size (xt10) xt12 := by rw [hx]; exact below_alloc (Below.refl _ _) _
          have Z8t12 := Aside0.mk (show xt12.heap[bt12]? = some (.cells #[.int .u32 0, .int .u32 0, .int .u16 0, .int .u8 0, .int .i64 0, .int .u64 0] 65 (0, 0)) ∧ wk.heap.size ≤ bt12 from ⟨by rw [hx, hb]; exact heap_alloc_new _ _, by rw [hb]; exact hS_.out.2.2.size⟩)
          have Z7t12 := Aside0.mk (And.intro (blk_below Z7t10.out.1 hb6) Z7t10.out.2)
          have hS2 := hS_.next hb6
          refine value_ (v := .pointer (some ⟨bt12, 0, none⟩)) (w1 := xt12) rfl rfl (by subst hx; subst hb; (first | (go_simp; done) | (go_simp; rfl))) ?_
          clear hx hb hb6
          refine hK_ _ _ hS2 (fun hS_ => ?_)
          clear hK_ hS2
          refine norm_ (a' := ?at13) ?hat13 ?restt13
          case hat13 => go_simp; rfl
          refine norm_ (a' := putAll _ [(26, .agg #[.int .u32 (t.p : Nat), .int .i64 t.e, .int .u64 (t.n : Nat)]), (28, .agg #[.int .u32 (u.p : Nat), .int .u32 (u.m : Nat), .int .u16 (u.i : Nat), .int .u8 (u.s : Nat), .int .i64 u.e, .int .u64 (u.n : Nat)]), (8, .pointer (some ⟨bt10, 0, none⟩)), (9, .pointer (some ⟨bt12, 0, none⟩))]) ?hz (hcont_ (bt10, bt12) xt12 ⟨hS_, Z7t12.out.1, Z8t12.out.1, Z7t12.out.2, Z8t12.out.2⟩)
          case hz => simp only [putAll]; first | (go_simp; done) | (go_simp; rfl)
        case yt9 =>
          intro K_ hK_
          unfold Shut at hK_
          obtain ⟨bt14, hb⟩ : ∃ b, b = (xt7).heap.size := ⟨_, rfl⟩
          obtain ⟨xt14, hx⟩ : ∃ wx, wx = (xt7).alloc (.cells #[.int .u32 0, .int .u32 0, .int .u16 0, .int .u8 0, .int .i64 0, .int .u64 0] 65) := ⟨_, rfl⟩
          have hb6 : Below (xt7).heap.size (xt7) xt14 := by rw [hx]; exact below_alloc (Below.refl _ _) _
          have Z8t14 := Aside0.mk (show xt14.heap[bt14]? = some (.cells #[.int .u32 0, .int .u32 0, .int .u16 0, .int .u8 0, .int .i64 0, .int .u64 0] 65 (0, 0)) ∧ wk.heap.size ≤ bt14 from ⟨by rw [hx, hb]; exact heap_alloc_new _ _, by rw [hb]; exact hS_.out.2.2.size⟩)
          have hS2 := hS_.next hb6
          refine value_ (v := .pointer (some ⟨bt14, 0, none⟩)) (w1 := xt14) rfl rfl (by subst hx; subst hb; (first | (go_simp; done) | (go_simp; rfl))) ?_
          clear hx hb hb6
          refine hK_ _ _ hS2 (fun hS_ => ?_)
          clear hK_ hS2
          refine norm_ (a' := ?at15) ?hat15 ?restt15
          case hat15 => go_simp; rfl
          refine one_ (i := 4) #[true, true, true, true, true, true, false, false] rfl rfl (by kernel_rfl) (by decide) ?_
          intro K_ hK_
          unfold Shut at hK_
          obtain ⟨bt16, hb⟩ : ∃ b, b = (xt14).heap.size := ⟨_, rfl⟩
          obtain ⟨xt16, hx⟩ : ∃ wx, wx = (xt14).alloc (.cells #[.int .u32 0, .int .i64 0, .int .u64 0] 60) := ⟨_, rfl⟩
          have hb6 : Below (xt14).heap.size (xt14) xt16 := by rw [hx]; exact below_alloc (Below.refl _ _) _
          have Z7t16 := Aside0.mk (show xt16.heap[bt16]? = some (.cells #[.int .u32 0, .int .i64 0, .int .u64 0] 60 (0, 0)) ∧ wk.heap.size ≤ bt16 from ⟨by rw [hx, hb]; exact heap_alloc_new _ _, by rw [hb]; exact hS_.out.2.2.size⟩)
          have Z8t16 := Aside0.mk (And.intro (blk_below Z8t14.out.1 hb6) Z8t14.out.2)
          have hS2 := hS_.next hb6
          refine value_ (v := .pointer (some ⟨bt16, 0, none⟩)) (w1 := xt16) rfl rfl (by subst hx; subst hb; (first | (go_simp; done) | (go_simp; rfl))) ?_
          clear hx hb hb6
          refine hK_ _ _ hS2 (fun hS_ => ?_)
          clear hK_ hS2
          refine norm_ (a' := ?at17) ?hat17 ?restt17
          case hat17 => go_simp; rfl
          refine norm_ (a' := putAll _ [(26, .agg #[.int .u32 (t.p : Nat), .int .i64 t.e, .int .u64 (t.n : Nat)]), (28, .agg #[.int .u32 (u.p : Nat), .int .u32 (u.m : Nat), .int .u16 (u.i : Nat), .int .u8 (u.s : Nat), .int .i64 u.e, .int .u64 (u.n : Nat)]), (8, .pointer (some ⟨bt16, 0, none⟩)), (9, .pointer (some ⟨bt14, 0, none⟩))]) ?hz (hcont_ (bt16, bt14) xt16 ⟨hS_, Z7t16.out.1, Z8t16.out.1, Z7t16.out.2, Z8t16.out.2⟩)
          case hz => simp only [putAll]; first | (go_simp; done) | (go_simp; rfl)
      case yt6 =>
        intro K_ hK_
        unfold Shut at hK_
        obtain ⟨bt18, hb⟩ : ∃ b, b = (xt4).heap.size := ⟨_, rfl⟩
        obtain ⟨xt18, hx⟩ : ∃ wx, wx = (xt4).alloc (.cells #[.int .u32 0, .int .i64 0, .int .u64 0] 60) := ⟨_, rfl⟩
        have hb6 : Below (xt4).heap.size (xt4) xt18 := by rw [hx]; exact below_alloc (Below.refl _ _) _
        have Z7t18 := Aside0.mk (show xt18.heap[bt18]? = some (.cells #[.int .u32 0, .int .i64 0, .int .u64 0] 60 (0, 0)) ∧ wk.heap.size ≤ bt18 from ⟨by rw [hx, hb]; exact heap_alloc_new _ _, by rw [hb]; exact hS_.out.2.2.size⟩)
        have hS2 := hS_.next hb6
        refine value_ (v := .pointer (some ⟨bt18, 0, none⟩)) (w1 := xt18) rfl rfl (by subst hx; subst hb; (first | (go_simp; done) | (go_simp; rfl))) ?_
        clear hx hb hb6
        refine hK_ _ _ hS2 (fun hS_ => ?_)
        clear hK_ hS2
        refine norm_ (a' := ?at19) ?hat19 ?restt19
        case hat19 => go_simp; rfl
        refine two_ (i := 3) (j := 5) #[true, true, true, true, true, false, false, false] #[true, true, true, false, true, true, false, false] rfl rfl rfl rfl (by kernel_rfl) (by decide) (by decide) ?xt20 ?yt20
        case xt20 =>
          intro K_ hK_
          unfold Shut at hK_
          refine goes_ Tryd.func41 (by kernel_rfl) (by kernel_rfl) #[.agg #[.int .u32 (u.p : Nat), .int .u32 (u.m : Nat), .int .u16 (u.i : Nat), .int .u8 (u.s : Nat), .int .i64 u.e, .int .u64 (u.n : Nat)]] rfl rfl rfl (by go_simp) ?_
          refine (token41 (t := u) xt18).mono ?_
          rintro e xt21 ⟨rfl, hb6⟩
          have Z7t21 := Aside0.mk (And.intro (blk_below Z7t18.out.1 hb6) Z7t18.out.2)
          have hS2 := hS_.next hb6
          clear hb6
          refine ⟨_, rfl, hK_ _ _ hS2 (fun hS_ => ?_)⟩
          clear hK_ hS2
          refine norm_ (a' := ?at22) ?hat22 ?restt22
          case hat22 => go_simp; rfl
          refine one_ (i := 5) #[true, true, true, true, true, true, false, false] rfl rfl (by kernel_rfl) (by decide) ?_
          intro K_ hK_
          unfold Shut at hK_
          obtain ⟨bt23, hb⟩ : ∃ b, b = (xt21).heap.size := ⟨_, rfl⟩
          obtain ⟨xt23, hx⟩ : ∃ wx, wx = (xt21).alloc (.cells #[.int .u32 0, .int .u32 0, .int .u16 0, .int .u8 0, .int .i64 0, .int .u64 0] 65) := ⟨_, rfl⟩
          have hb6 : Below (xt21).heap.size (xt21) xt23 := by rw [hx]; exact below_alloc (Below.refl _ _) _
          have Z8t23 := Aside0.mk (show xt23.heap[bt23]? = some (.cells #[.int .u32 0, .int .u32 0, .int .u16 0, .int .u8 0, .int .i64 0, .int .u64 0] 65 (0, 0)) ∧ wk.heap.size ≤ bt23 from ⟨by rw [hx, hb]; exact heap_alloc_new _ _, by rw [hb]; exact hS_.out.2.2.size⟩)
          have Z7t23 := Aside0.mk (And.intro (blk_below Z7t21.out.1 hb6) Z7t21.out.2)
          have hS2 := hS_.next hb6
          refine value_ (v := .pointer (some ⟨bt23, 0, none⟩)) (w1 := xt23) rfl rfl (by subst hx; subst hb; (first | (go_simp; done) | (go_simp; rfl))) ?_
          clear hx hb hb6
          refine hK_ _ _ hS2 (fun hS_ => ?_)
          clear hK_ hS2
          refine norm_ (a' := ?at24) ?hat24 ?restt24
          case hat24 => go_simp; rfl
          refine norm_ (a' := putAll _ [(26, .agg #[.int .u32 (t.p : Nat), .int .i64 t.e, .int .u64 (t.n : Nat)]), (28, .agg #[.int .u32 (u.p : Nat), .int .u32 (u.m : Nat), .int .u16 (u.i : Nat), .int .u8 (u.s : Nat), .int .i64 u.e, .int .u64 (u.n : Nat)]), (8, .pointer (some ⟨bt18, 0, none⟩)), (9, .pointer (some ⟨bt23, 0, none⟩))]) ?hz (hcont_ (bt18, bt23) xt23 ⟨hS_, Z7t23.out.1, Z8t23.out.1, Z7t23.out.2, Z8t23.out.2⟩)
          case hz => simp only [putAll]; first | (go_simp; done) | (go_simp; rfl)
        case yt20 =>
          intro K_ hK_
          unfold Shut at hK_
          obtain ⟨bt25, hb⟩ : ∃ b, b = (xt18).heap.size := ⟨_, rfl⟩
          obtain ⟨xt25, hx⟩ : ∃ wx, wx = (xt18).alloc (.cells #[.int .u32 0, .int .u32 0, .int .u16 0, .int .u8 0, .int .i64 0, .int .u64 0] 65) := ⟨_, rfl⟩
          have hb6 : Below (xt18).heap.size (xt18) xt25 := by rw [hx]; exact below_alloc (Below.refl _ _) _
          have Z8t25 := Aside0.mk (show xt25.heap[bt25]? = some (.cells #[.int .u32 0, .int .u32 0, .int .u16 0, .int .u8 0, .int .i64 0, .int .u64 0] 65 (0, 0)) ∧ wk.heap.size ≤ bt25 from ⟨by rw [hx, hb]; exact heap_alloc_new _ _, by rw [hb]; exact hS_.out.2.2.size⟩)
          have Z7t25 := Aside0.mk (And.intro (blk_below Z7t18.out.1 hb6) Z7t18.out.2)
          have hS2 := hS_.next hb6
          refine value_ (v := .pointer (some ⟨bt25, 0, none⟩)) (w1 := xt25) rfl rfl (by subst hx; subst hb; (first | (go_simp; done) | (go_simp; rfl))) ?_
          clear hx hb hb6
          refine hK_ _ _ hS2 (fun hS_ => ?_)
          clear hK_ hS2
          refine norm_ (a' := ?at26) ?hat26 ?restt26
          case hat26 => go_simp; rfl
          refine one_ (i := 3) #[true, true, true, true, true, true, false, false] rfl rfl (by kernel_rfl) (by decide) ?_
          intro K_ hK_
          unfold Shut at hK_
          refine goes_ Tryd.func41 (by kernel_rfl) (by kernel_rfl) #[.agg #[.int .u32 (u.p : Nat), .int .u32 (u.m : Nat), .int .u16 (u.i : Nat), .int .u8 (u.s : Nat), .int .i64 u.e, .int .u64 (u.n : Nat)]] rfl rfl rfl (by go_simp) ?_
          refine (token41 (t := u) xt25).mono ?_
          rintro e xt27 ⟨rfl, hb6⟩
          have Z7t27 := Aside0.mk (And.intro (blk_below Z7t25.out.1 hb6) Z7t25.out.2)
          have Z8t27 := Aside0.mk (And.intro (blk_below Z8t25.out.1 hb6) Z8t25.out.2)
          have hS2 := hS_.next hb6
          clear hb6
          refine ⟨_, rfl, hK_ _ _ hS2 (fun hS_ => ?_)⟩
          clear hK_ hS2
          refine norm_ (a' := ?at28) ?hat28 ?restt28
          case hat28 => go_simp; rfl
          refine norm_ (a' := putAll _ [(26, .agg #[.int .u32 (t.p : Nat), .int .i64 t.e, .int .u64 (t.n : Nat)]), (28, .agg #[.int .u32 (u.p : Nat), .int .u32 (u.m : Nat), .int .u16 (u.i : Nat), .int .u8 (u.s : Nat), .int .i64 u.e, .int .u64 (u.n : Nat)]), (8, .pointer (some ⟨bt18, 0, none⟩)), (9, .pointer (some ⟨bt25, 0, none⟩))]) ?hz (hcont_ (bt18, bt25) xt27 ⟨hS_, Z7t27.out.1, Z8t27.out.1, Z7t27.out.2, Z8t27.out.2⟩)
          case hz => simp only [putAll]; first | (go_simp; done) | (go_simp; rfl)
      case zt6 =>
        intro K_ hK_
        unfold Shut at hK_
        obtain ⟨bt29, hb⟩ : ∃ b, b = (xt4).heap.size := ⟨_, rfl⟩
        obtain ⟨xt29, hx⟩ : ∃ wx, wx = (xt4).alloc (.cells #[.int .u32 0, .int .u32 0, .int .u16 0, .int .u8 0, .int .i64 0, .int .u64 0] 65) := ⟨_, rfl⟩
        have hb6 : Below (xt4).heap.size (xt4) xt29 := by rw [hx]; exact below_alloc (Below.refl _ _) _
        have Z8t29 := Aside0.mk (show xt29.heap[bt29]? = some (.cells #[.int .u32 0, .int .u32 0, .int .u16 0, .int .u8 0, .int .i64 0, .int .u64 0] 65 (0, 0)) ∧ wk.heap.size ≤ bt29 from ⟨by rw [hx, hb]; exact heap_alloc_new _ _, by rw [hb]; exact hS_.out.2.2.size⟩)
        have hS2 := hS_.next hb6
        refine value_ (v := .pointer (some ⟨bt29, 0, none⟩)) (w1 := xt29) rfl rfl (by subst hx; subst hb; (first | (go_simp; done) | (go_simp; rfl))) ?_
        clear hx hb hb6
        refine hK_ _ _ hS2 (fun hS_ => ?_)
        clear hK_ hS2
        refine norm_ (a' := ?at30) ?hat30 ?restt30
        case hat30 => go_simp; rfl
        refine two_ (i := 3) (j := 4) #[true, true, true, true, false, true, false, false] #[true, true, true, false, true, true, false, false] rfl rfl rfl rfl (by kernel_rfl) (by decide) (by decide) ?xt31 ?yt31
        case xt31 =>
          intro K_ hK_
          unfold Shut at hK_
          refine goes_ Tryd.func41 (by kernel_rfl) (by kernel_rfl) #[.agg #[.int .u32 (u.p : Nat), .int .u32 (u.m : Nat), .int .u16 (u.i : Nat), .int .u8 (u.s : Nat), .int .i64 u.e, .int .u64 (u.n : Nat)]] rfl rfl rfl (by go_simp) ?_
          refine (token41 (t := u) xt29).mono ?_
          rintro e xt32 ⟨rfl, hb6⟩
          have Z8t32 := Aside0.mk (And.intro (blk_below Z8t29.out.1 hb6) Z8t29.out.2)
          have hS2 := hS_.next hb6
          clear hb6
          refine ⟨_, rfl, hK_ _ _ hS2 (fun hS_ => ?_)⟩
          clear hK_ hS2
          refine norm_ (a' := ?at33) ?hat33 ?restt33
          case hat33 => go_simp; rfl
          refine one_ (i := 4) #[true, true, true, true, true, true, false, false] rfl rfl (by kernel_rfl) (by decide) ?_
          intro K_ hK_
          unfold Shut at hK_
          obtain ⟨bt34, hb⟩ : ∃ b, b = (xt32).heap.size := ⟨_, rfl⟩
          obtain ⟨xt34, hx⟩ : ∃ wx, wx = (xt32).alloc (.cells #[.int .u32 0, .int .i64 0, .int .u64 0] 60) := ⟨_, rfl⟩
          have hb6 : Below (xt32).heap.size (xt32) xt34 := by rw [hx]; exact below_alloc (Below.refl _ _) _
          have Z7t34 := Aside0.mk (show xt34.heap[bt34]? = some (.cells #[.int .u32 0, .int .i64 0, .int .u64 0] 60 (0, 0)) ∧ wk.heap.size ≤ bt34 from ⟨by rw [hx, hb]; exact heap_alloc_new _ _, by rw [hb]; exact hS_.out.2.2.size⟩)
          have Z8t34 := Aside0.mk (And.intro (blk_below Z8t32.out.1 hb6) Z8t32.out.2)
          have hS2 := hS_.next hb6
          refine value_ (v := .pointer (some ⟨bt34, 0, none⟩)) (w1 := xt34) rfl rfl (by subst hx; subst hb; (first | (go_simp; done) | (go_simp; rfl))) ?_
          clear hx hb hb6
          refine hK_ _ _ hS2 (fun hS_ => ?_)
          clear hK_ hS2
          refine norm_ (a' := ?at35) ?hat35 ?restt35
          case hat35 => go_simp; rfl
          refine norm_ (a' := putAll _ [(26, .agg #[.int .u32 (t.p : Nat), .int .i64 t.e, .int .u64 (t.n : Nat)]), (28, .agg #[.int .u32 (u.p : Nat), .int .u32 (u.m : Nat), .int .u16 (u.i : Nat), .int .u8 (u.s : Nat), .int .i64 u.e, .int .u64 (u.n : Nat)]), (8, .pointer (some ⟨bt34, 0, none⟩)), (9, .pointer (some ⟨bt29, 0, none⟩))]) ?hz (hcont_ (bt34, bt29) xt34 ⟨hS_, Z7t34.out.1, Z8t34.out.1, Z7t34.out.2, Z8t34.out.2⟩)
          case hz => simp only [putAll]; first | (go_simp; done) | (go_simp; rfl)
        case yt31 =>
          intro K_ hK_
          unfold Shut at hK_
          obtain ⟨bt36, hb⟩ : ∃ b, b = (xt29).heap.size := ⟨_, rfl⟩
          obtain ⟨xt36, hx⟩ : ∃ wx, wx = (xt29).alloc (.cells #[.int .u32 0, .int .i64 0, .int .u64 0] 60) := ⟨_, rfl⟩
          have hb6 : Below (xt29).heap.size (xt29) xt36 := by rw [hx]; exact below_alloc (Below.refl _ _) _
          have Z7t36 := Aside0.mk (show xt36.heap[bt36]? = some (.cells #[.int .u32 0, .int .i64 0, .int .u64 0] 60 (0, 0)) ∧ wk.heap.size ≤ bt36 from ⟨by rw [hx, hb]; exact heap_alloc_new _ _, by rw [hb]; exact hS_.out.2.2.size⟩)
          have Z8t36 := Aside0.mk (And.intro (blk_below Z8t29.out.1 hb6) Z8t29.out.2)
          have hS2 := hS_.next hb6
          refine value_ (v := .pointer (some ⟨bt36, 0, none⟩)) (w1 := xt36) rfl rfl (by subst hx; subst hb; (first | (go_simp; done) | (go_simp; rfl))) ?_
          clear hx hb hb6
          refine hK_ _ _ hS2 (fun hS_ => ?_)
          clear hK_ hS2
          refine norm_ (a' := ?at37) ?hat37 ?restt37
          case hat37 => go_simp; rfl
          refine one_ (i := 3) #[true, true, true, true, true, true, false, false] rfl rfl (by kernel_rfl) (by decide) ?_
          intro K_ hK_
          unfold Shut at hK_
          refine goes_ Tryd.func41 (by kernel_rfl) (by kernel_rfl) #[.agg #[.int .u32 (u.p : Nat), .int .u32 (u.m : Nat), .int .u16 (u.i : Nat), .int .u8 (u.s : Nat), .int .i64 u.e, .int .u64 (u.n : Nat)]] rfl rfl rfl (by go_simp) ?_
          refine (token41 (t := u) xt36).mono ?_
          rintro e xt38 ⟨rfl, hb6⟩
          have Z7t38 := Aside0.mk (And.intro (blk_below Z7t36.out.1 hb6) Z7t36.out.2)
          have Z8t38 := Aside0.mk (And.intro (blk_below Z8t36.out.1 hb6) Z8t36.out.2)
          have hS2 := hS_.next hb6
          clear hb6
          refine ⟨_, rfl, hK_ _ _ hS2 (fun hS_ => ?_)⟩
          clear hK_ hS2
          refine norm_ (a' := ?at39) ?hat39 ?restt39
          case hat39 => go_simp; rfl
          refine norm_ (a' := putAll _ [(26, .agg #[.int .u32 (t.p : Nat), .int .i64 t.e, .int .u64 (t.n : Nat)]), (28, .agg #[.int .u32 (u.p : Nat), .int .u32 (u.m : Nat), .int .u16 (u.i : Nat), .int .u8 (u.s : Nat), .int .i64 u.e, .int .u64 (u.n : Nat)]), (8, .pointer (some ⟨bt36, 0, none⟩)), (9, .pointer (some ⟨bt29, 0, none⟩))]) ?hz (hcont_ (bt36, bt29) xt38 ⟨hS_, Z7t38.out.1, Z8t38.out.1, Z7t38.out.2, Z8t38.out.2⟩)
          case hz => simp only [putAll]; first | (go_simp; done) | (go_simp; rfl)
    case yt3 =>
      intro K_ hK_
      unfold Shut at hK_
      obtain ⟨bt40, hb⟩ : ∃ b, b = (wk.drew).heap.size := ⟨_, rfl⟩
      obtain ⟨xt40, hx⟩ : ∃ wx, wx = (wk.drew).alloc (.cells #[.int .u32 0, .int .i64 0, .int .u64 0] 60) := ⟨_, rfl⟩
      have hb6 : Below (wk.drew).heap.size (wk.drew) xt40 := by rw [hx]; exact below_alloc (Below.refl _ _) _
      have Z7t40 := Aside0.mk (show xt40.heap[bt40]? = some (.cells #[.int .u32 0, .int .i64 0, .int .u64 0] 60 (0, 0)) ∧ wk.heap.size ≤ bt40 from ⟨by rw [hx, hb]; exact heap_alloc_new _ _, by rw [hb]; exact hS_.out.2.2.size⟩)
      have hS2 := hS_.next hb6
      refine value_ (v := .pointer (some ⟨bt40, 0, none⟩)) (w1 := xt40) rfl rfl (by subst hx; subst hb; (first | (go_simp; done) | (go_simp; rfl))) ?_
      clear hx hb hb6
      refine hK_ _ _ hS2 (fun hS_ => ?_)
      clear hK_ hS2
      refine norm_ (a' := ?at41) ?hat41 ?restt41
      case hat41 => go_simp; rfl
      refine two_ (i := 1) (j := 5) #[true, true, true, false, true, false, false, false] #[true, false, true, false, true, true, false, false] rfl rfl rfl rfl (by kernel_rfl) (by decide) (by decide) ?xt42 ?yt42
      case xt42 =>
        intro K_ hK_
        unfold Shut at hK_
        refine goes_ Tryd.func38 (by kernel_rfl) (by kernel_rfl) #[.agg #[.int .u32 (t.p : Nat), .int .i64 t.e, .int .u64 (t.n : Nat)]] rfl rfl rfl (by go_simp) ?_
        refine (ticket38 (t := t) xt40).mono ?_
        rintro e xt43 ⟨rfl, hb6⟩
        have Z7t43 := Aside0.mk (And.intro (blk_below Z7t40.out.1 hb6) Z7t40.out.2)
        have hS2 := hS_.next hb6
        clear hb6
        refine ⟨_, rfl, hK_ _ _ hS2 (fun hS_ => ?_)⟩
        clear hK_ hS2
        refine norm_ (a' := ?at44) ?hat44 ?restt44
        case hat44 => go_simp; rfl
        refine two_ (i := 3) (j := 5) #[true, true, true, true, true, false, false, false] #[true, true, true, false, true, true, false, false] rfl rfl rfl rfl (by kernel_rfl) (by decide) (by decide) ?xt45 ?yt45
        case xt45 =>
          intro K_ hK_
          unfold Shut at hK_
          refine goes_ Tryd.func41 (by kernel_rfl) (by kernel_rfl) #[.agg #[.int .u32 (u.p : Nat), .int .u32 (u.m : Nat), .int .u16 (u.i : Nat), .int .u8 (u.s : Nat), .int .i64 u.e, .int .u64 (u.n : Nat)]] rfl rfl rfl (by go_simp) ?_
          refine (token41 (t := u) xt43).mono ?_
          rintro e xt46 ⟨rfl, hb6⟩
          have Z7t46 := Aside0.mk (And.intro (blk_below Z7t43.out.1 hb6) Z7t43.out.2)
          have hS2 := hS_.next hb6
          clear hb6
          refine ⟨_, rfl, hK_ _ _ hS2 (fun hS_ => ?_)⟩
          clear hK_ hS2
          refine norm_ (a' := ?at47) ?hat47 ?restt47
          case hat47 => go_simp; rfl
          refine one_ (i := 5) #[true, true, true, true, true, true, false, false] rfl rfl (by kernel_rfl) (by decide) ?_
          intro K_ hK_
          unfold Shut at hK_
          obtain ⟨bt48, hb⟩ : ∃ b, b = (xt46).heap.size := ⟨_, rfl⟩
          obtain ⟨xt48, hx⟩ : ∃ wx, wx = (xt46).alloc (.cells #[.int .u32 0, .int .u32 0, .int .u16 0, .int .u8 0, .int .i64 0, .int .u64 0] 65) := ⟨_, rfl⟩
          have hb6 : Below (xt46).heap.size (xt46) xt48 := by rw [hx]; exact below_alloc (Below.refl _ _) _
          have Z8t48 := Aside0.mk (show xt48.heap[bt48]? = some (.cells #[.int .u32 0, .int .u32 0, .int .u16 0, .int .u8 0, .int .i64 0, .int .u64 0] 65 (0, 0)) ∧ wk.heap.size ≤ bt48 from ⟨by rw [hx, hb]; exact heap_alloc_new _ _, by rw [hb]; exact hS_.out.2.2.size⟩)
          have Z7t48 := Aside0.mk (And.intro (blk_below Z7t46.out.1 hb6) Z7t46.out.2)
          have hS2 := hS_.next hb6
          refine value_ (v := .pointer (some ⟨bt48, 0, none⟩)) (w1 := xt48) rfl rfl (by subst hx; subst hb; (first | (go_simp; done) | (go_simp; rfl))) ?_
          clear hx hb hb6
          refine hK_ _ _ hS2 (fun hS_ => ?_)
          clear hK_ hS2
          refine norm_ (a' := ?at49) ?hat49 ?restt49
          case hat49 => go_simp; rfl
          refine norm_ (a' := putAll _ [(26, .agg #[.int .u32 (t.p : Nat), .int .i64 t.e, .int .u64 (t.n : Nat)]), (28, .agg #[.int .u32 (u.p : Nat), .int .u32 (u.m : Nat), .int .u16 (u.i : Nat), .int .u8 (u.s : Nat), .int .i64 u.e, .int .u64 (u.n : Nat)]), (8, .pointer (some ⟨bt40, 0, none⟩)), (9, .pointer (some ⟨bt48, 0, none⟩))]) ?hz (hcont_ (bt40, bt48) xt48 ⟨hS_, Z7t48.out.1, Z8t48.out.1, Z7t48.out.2, Z8t48.out.2⟩)
          case hz => simp only [putAll]; first | (go_simp; done) | (go_simp; rfl)
        case yt45 =>
          intro K_ hK_
          unfold Shut at hK_
          obtain ⟨bt50, hb⟩ : ∃ b, b = (xt43).heap.size := ⟨_, rfl⟩
          obtain ⟨xt50, hx⟩ : ∃ wx, wx = (xt43).alloc (.cells #[.int .u32 0, .int .u32 0, .int .u16 0, .int .u8 0, .int .i64 0, .int .u64 0] 65) := ⟨_, rfl⟩
          have hb6 : Below (xt43).heap.size (xt43) xt50 := by rw [hx]; exact below_alloc (Below.refl _ _) _
          have Z8t50 := Aside0.mk (show xt50.heap[bt50]? = some (.cells #[.int .u32 0, .int .u32 0, .int .u16 0, .int .u8 0, .int .i64 0, .int .u64 0] 65 (0, 0)) ∧ wk.heap.size ≤ bt50 from ⟨by rw [hx, hb]; exact heap_alloc_new _ _, by rw [hb]; exact hS_.out.2.2.size⟩)
          have Z7t50 := Aside0.mk (And.intro (blk_below Z7t43.out.1 hb6) Z7t43.out.2)
          have hS2 := hS_.next hb6
          refine value_ (v := .pointer (some ⟨bt50, 0, none⟩)) (w1 := xt50) rfl rfl (by subst hx; subst hb; (first | (go_simp; done) | (go_simp; rfl))) ?_
          clear hx hb hb6
          refine hK_ _ _ hS2 (fun hS_ => ?_)
          clear hK_ hS2
          refine norm_ (a' := ?at51) ?hat51 ?restt51
          case hat51 => go_simp; rfl
          refine one_ (i := 3) #[true, true, true, true, true, true, false, false] rfl rfl (by kernel_rfl) (by decide) ?_
          intro K_ hK_
          unfold Shut at hK_
          refine goes_ Tryd.func41 (by kernel_rfl) (by kernel_rfl) #[.agg #[.int .u32 (u.p : Nat), .int .u32 (u.m : Nat), .int .u16 (u.i : Nat), .int .u8 (u.s : Nat), .int .i64 u.e, .int .u64 (u.n : Nat)]] rfl rfl rfl (by go_simp) ?_
          refine (token41 (t := u) xt50).mono ?_
          rintro e xt52 ⟨rfl, hb6⟩
          have Z7t52 := Aside0.mk (And.intro (blk_below Z7t50.out.1 hb6) Z7t50.out.2)
          have Z8t52 := Aside0.mk (And.intro (blk_below Z8t50.out.1 hb6) Z8t50.out.2)
          have hS2 := hS_.next hb6
          clear hb6
          refine ⟨_, rfl, hK_ _ _ hS2 (fun hS_ => ?_)⟩
          clear hK_ hS2
          refine norm_ (a' := ?at53) ?hat53 ?restt53
          case hat53 => go_simp; rfl
          refine norm_ (a' := putAll _ [(26, .agg #[.int .u32 (t.p : Nat), .int .i64 t.e, .int .u64 (t.n : Nat)]), (28, .agg #[.int .u32 (u.p : Nat), .int .u32 (u.m : Nat), .int .u16 (u.i : Nat), .int .u8 (u.s : Nat), .int .i64 u.e, .int .u64 (u.n : Nat)]), (8, .pointer (some ⟨bt40, 0, none⟩)), (9, .pointer (some ⟨bt50, 0, none⟩))]) ?hz (hcont_ (bt40, bt50) xt52 ⟨hS_, Z7t52.out.1, Z8t52.out.1, Z7t52.out.2, Z8t52.out.2⟩)
          case hz => simp only [putAll]; first | (go_simp; done) | (go_simp; rfl)
      case yt42 =>
        intro K_ hK_
        unfold Shut at hK_
        obtain ⟨bt54, hb⟩ : ∃ b, b = (xt40).heap.size := ⟨_, rfl⟩
        obtain ⟨xt54, hx⟩ : ∃ wx, wx = (xt40).alloc (.cells #[.int .u32 0, .int .u32 0, .int .u16 0, .int .u8 0, .int .i64 0, .int .u64 0] 65) := ⟨_, rfl⟩
        have hb6 : Below (xt40).heap.size (xt40) xt54 := by rw [hx]; exact below_alloc (Below.refl _ _) _
        have Z8t54 := Aside0.mk (show xt54.heap[bt54]? = some (.cells #[.int .u32 0, .int .u32 0, .int .u16 0, .int .u8 0, .int .i64 0, .int .u64 0] 65 (0, 0)) ∧ wk.heap.size ≤ bt54 from ⟨by rw [hx, hb]; exact heap_alloc_new _ _, by rw [hb]; exact hS_.out.2.2.size⟩)
        have Z7t54 := Aside0.mk (And.intro (blk_below Z7t40.out.1 hb6) Z7t40.out.2)
        have hS2 := hS_.next hb6
        refine value_ (v := .pointer (some ⟨bt54, 0, none⟩)) (w1 := xt54) rfl rfl (by subst hx; subst hb; (first | (go_simp; done) | (go_simp; rfl))) ?_
        clear hx hb hb6
        refine hK_ _ _ hS2 (fun hS_ => ?_)
        clear hK_ hS2
        refine norm_ (a' := ?at55) ?hat55 ?restt55
        case hat55 => go_simp; rfl
        refine one_ (i := 1) #[true, true, true, false, true, true, false, false] rfl rfl (by kernel_rfl) (by decide) ?_
        intro K_ hK_
        unfold Shut at hK_
        refine goes_ Tryd.func38 (by kernel_rfl) (by kernel_rfl) #[.agg #[.int .u32 (t.p : Nat), .int .i64 t.e, .int .u64 (t.n : Nat)]] rfl rfl rfl (by go_simp) ?_
        refine (ticket38 (t := t) xt54).mono ?_
        rintro e xt56 ⟨rfl, hb6⟩
        have Z7t56 := Aside0.mk (And.intro (blk_below Z7t54.out.1 hb6) Z7t54.out.2)
        have Z8t56 := Aside0.mk (And.intro (blk_below Z8t54.out.1 hb6) Z8t54.out.2)
        have hS2 := hS_.next hb6
        clear hb6
        refine ⟨_, rfl, hK_ _ _ hS2 (fun hS_ => ?_)⟩
        clear hK_ hS2
        refine norm_ (a' := ?at57) ?hat57 ?restt57
        case hat57 => go_simp; rfl
        refine one_ (i := 3) #[true, true, true, true, true, true, false, false] rfl rfl (by kernel_rfl) (by decide) ?_
        intro K_ hK_
        unfold Shut at hK_
        refine goes_ Tryd.func41 (by kernel_rfl) (by kernel_rfl) #[.agg #[.int .u32 (u.p : Nat), .int .u32 (u.m : Nat), .int .u16 (u.i : Nat), .int .u8 (u.s : Nat), .int .i64 u.e, .int .u64 (u.n : Nat)]] rfl rfl rfl (by go_simp) ?_
        refine (token41 (t := u) xt56).mono ?_
        rintro e xt58 ⟨rfl, hb6⟩
        have Z7t58 := Aside0.mk (And.intro (blk_below Z7t56.out.1 hb6) Z7t56.out.2)
        have Z8t58 := Aside0.mk (And.intro (blk_below Z8t56.out.1 hb6) Z8t56.out.2)
        have hS2 := hS_.next hb6
        clear hb6
        refine ⟨_, rfl, hK_ _ _ hS2 (fun hS_ => ?_)⟩
        clear hK_ hS2
        refine norm_ (a' := ?at59) ?hat59 ?restt59
        case hat59 => go_simp; rfl
        refine norm_ (a' := putAll _ [(26, .agg #[.int .u32 (t.p : Nat), .int .i64 t.e, .int .u64 (t.n : Nat)]), (28, .agg #[.int .u32 (u.p : Nat), .int .u32 (u.m : Nat), .int .u16 (u.i : Nat), .int .u8 (u.s : Nat), .int .i64 u.e, .int .u64 (u.n : Nat)]), (8, .pointer (some ⟨bt40, 0, none⟩)), (9, .pointer (some ⟨bt54, 0, none⟩))]) ?hz (hcont_ (bt40, bt54) xt58 ⟨hS_, Z7t58.out.1, Z8t58.out.1, Z7t58.out.2, Z8t58.out.2⟩)
        case hz => simp only [putAll]; first | (go_simp; done) | (go_simp; rfl)
    case zt3 =>
      intro K_ hK_
      unfold Shut at hK_
      obtain ⟨bt60, hb⟩ : ∃ b, b = (wk.drew).heap.size := ⟨_, rfl⟩
      obtain ⟨xt60, hx⟩ : ∃ wx, wx = (wk.drew).alloc (.cells #[.int .u32 0, .int .u32 0, .int .u16 0, .int .u8 0, .int .i64 0, .int .u64 0] 65) := ⟨_, rfl⟩
      have hb6 : Below (wk.drew).heap.size (wk.drew) xt60 := by rw [hx]; exact below_alloc (Below.refl _ _) _
      have Z8t60 := Aside0.mk (show xt60.heap[bt60]? = some (.cells #[.int .u32 0, .int .u32 0, .int .u16 0, .int .u8 0, .int .i64 0, .int .u64 0] 65 (0, 0)) ∧ wk.heap.size ≤ bt60 from ⟨by rw [hx, hb]; exact heap_alloc_new _ _, by rw [hb]; exact hS_.out.2.2.size⟩)
      have hS2 := hS_.next hb6
      refine value_ (v := .pointer (some ⟨bt60, 0, none⟩)) (w1 := xt60) rfl rfl (by subst hx; subst hb; (first | (go_simp; done) | (go_simp; rfl))) ?_
      clear hx hb hb6
      refine hK_ _ _ hS2 (fun hS_ => ?_)
      clear hK_ hS2
      refine norm_ (a' := ?at61) ?hat61 ?restt61
      case hat61 => go_simp; rfl
      refine two_ (i := 1) (j := 4) #[true, true, true, false, false, true, false, false] #[true, false, true, false, true, true, false, false] rfl rfl rfl rfl (by kernel_rfl) (by decide) (by decide) ?xt62 ?yt62
      case xt62 =>
        intro K_ hK_
        unfold Shut at hK_
        refine goes_ Tryd.func38 (by kernel_rfl) (by kernel_rfl) #[.agg #[.int .u32 (t.p : Nat), .int .i64 t.e, .int .u64 (t.n : Nat)]] rfl rfl rfl (by go_simp) ?_
        refine (ticket38 (t := t) xt60).mono ?_
        rintro e xt63 ⟨rfl, hb6⟩
        have Z8t63 := Aside0.mk (And.intro (blk_below Z8t60.out.1 hb6) Z8t60.out.2)
        have hS2 := hS_.next hb6
        clear hb6
        refine ⟨_, rfl, hK_ _ _ hS2 (fun hS_ => ?_)⟩
        clear hK_ hS2
        refine norm_ (a' := ?at64) ?hat64 ?restt64
        case hat64 => go_simp; rfl
        refine two_ (i := 3) (j := 4) #[true, true, true, true, false, true, false, false] #[true, true, true, false, true, true, false, false] rfl rfl rfl rfl (by kernel_rfl) (by decide) (by decide) ?xt65 ?yt65
        case xt65 =>
          intro K_ hK_
          unfold Shut at hK_
          refine goes_ Tryd.func41 (by kernel_rfl) (by kernel_rfl) #[.agg #[.int .u32 (u.p : Nat), .int .u32 (u.m : Nat), .int .u16 (u.i : Nat), .int .u8 (u.s : Nat), .int .i64 u.e, .int .u64 (u.n : Nat)]] rfl rfl rfl (by go_simp) ?_
          refine (token41 (t := u) xt63).mono ?_
          rintro e xt66 ⟨rfl, hb6⟩
          have Z8t66 := Aside0.mk (And.intro (blk_below Z8t63.out.1 hb6) Z8t63.out.2)
          have hS2 := hS_.next hb6
          clear hb6
          refine ⟨_, rfl, hK_ _ _ hS2 (fun hS_ => ?_)⟩
          clear hK_ hS2
          refine norm_ (a' := ?at67) ?hat67 ?restt67
          case hat67 => go_simp; rfl
          refine one_ (i := 4) #[true, true, true, true, true, true, false, false] rfl rfl (by kernel_rfl) (by decide) ?_
          intro K_ hK_
          unfold Shut at hK_
          obtain ⟨bt68, hb⟩ : ∃ b, b = (xt66).heap.size := ⟨_, rfl⟩
          obtain ⟨xt68, hx⟩ : ∃ wx, wx = (xt66).alloc (.cells #[.int .u32 0, .int .i64 0, .int .u64 0] 60) := ⟨_, rfl⟩
          have hb6 : Below (xt66).heap.size (xt66) xt68 := by rw [hx]; exact below_alloc (Below.refl _ _) _
          have Z7t68 := Aside0.mk (show xt68.heap[bt68]? = some (.cells #[.int .u32 0, .int .i64 0, .int .u64 0] 60 (0, 0)) ∧ wk.heap.size ≤ bt68 from ⟨by rw [hx, hb]; exact heap_alloc_new _ _, by rw [hb]; exact hS_.out.2.2.size⟩)
          have Z8t68 := Aside0.mk (And.intro (blk_below Z8t66.out.1 hb6) Z8t66.out.2)
          have hS2 := hS_.next hb6
          refine value_ (v := .pointer (some ⟨bt68, 0, none⟩)) (w1 := xt68) rfl rfl (by subst hx; subst hb; (first | (go_simp; done) | (go_simp; rfl))) ?_
          clear hx hb hb6
          refine hK_ _ _ hS2 (fun hS_ => ?_)
          clear hK_ hS2
          refine norm_ (a' := ?at69) ?hat69 ?restt69
          case hat69 => go_simp; rfl
          refine norm_ (a' := putAll _ [(26, .agg #[.int .u32 (t.p : Nat), .int .i64 t.e, .int .u64 (t.n : Nat)]), (28, .agg #[.int .u32 (u.p : Nat), .int .u32 (u.m : Nat), .int .u16 (u.i : Nat), .int .u8 (u.s : Nat), .int .i64 u.e, .int .u64 (u.n : Nat)]), (8, .pointer (some ⟨bt68, 0, none⟩)), (9, .pointer (some ⟨bt60, 0, none⟩))]) ?hz (hcont_ (bt68, bt60) xt68 ⟨hS_, Z7t68.out.1, Z8t68.out.1, Z7t68.out.2, Z8t68.out.2⟩)
          case hz => simp only [putAll]; first | (go_simp; done) | (go_simp; rfl)
        case yt65 =>
          intro K_ hK_
          unfold Shut at hK_
          obtain ⟨bt70, hb⟩ : ∃ b, b = (xt63).heap.size := ⟨_, rfl⟩
          obtain ⟨xt70, hx⟩ : ∃ wx, wx = (xt63).alloc (.cells #[.int .u32 0, .int .i64 0, .int .u64 0] 60) := ⟨_, rfl⟩
          have hb6 : Below (xt63).heap.size (xt63) xt70 := by rw [hx]; exact below_alloc (Below.refl _ _) _
          have Z7t70 := Aside0.mk (show xt70.heap[bt70]? = some (.cells #[.int .u32 0, .int .i64 0, .int .u64 0] 60 (0, 0)) ∧ wk.heap.size ≤ bt70 from ⟨by rw [hx, hb]; exact heap_alloc_new _ _, by rw [hb]; exact hS_.out.2.2.size⟩)
          have Z8t70 := Aside0.mk (And.intro (blk_below Z8t63.out.1 hb6) Z8t63.out.2)
          have hS2 := hS_.next hb6
          refine value_ (v := .pointer (some ⟨bt70, 0, none⟩)) (w1 := xt70) rfl rfl (by subst hx; subst hb; (first | (go_simp; done) | (go_simp; rfl))) ?_
          clear hx hb hb6
          refine hK_ _ _ hS2 (fun hS_ => ?_)
          clear hK_ hS2
          refine norm_ (a' := ?at71) ?hat71 ?restt71
          case hat71 => go_simp; rfl
          refine one_ (i := 3) #[true, true, true, true, true, true, false, false] rfl rfl (by kernel_rfl) (by decide) ?_
          intro K_ hK_
          unfold Shut at hK_
          refine goes_ Tryd.func41 (by kernel_rfl) (by kernel_rfl) #[.agg #[.int .u32 (u.p : Nat), .int .u32 (u.m : Nat), .int .u16 (u.i : Nat), .int .u8 (u.s : Nat), .int .i64 u.e, .int .u64 (u.n : Nat)]] rfl rfl rfl (by go_simp) ?_
          refine (token41 (t := u) xt70).mono ?_
          rintro e xt72 ⟨rfl, hb6⟩
          have Z7t72 := Aside0.mk (And.intro (blk_below Z7t70.out.1 hb6) Z7t70.out.2)
          have Z8t72 := Aside0.mk (And.intro (blk_below Z8t70.out.1 hb6) Z8t70.out.2)
          have hS2 := hS_.next hb6
          clear hb6
          refine ⟨_, rfl, hK_ _ _ hS2 (fun hS_ => ?_)⟩
          clear hK_ hS2
          refine norm_ (a' := ?at73) ?hat73 ?restt73
          case hat73 => go_simp; rfl
          refine norm_ (a' := putAll _ [(26, .agg #[.int .u32 (t.p : Nat), .int .i64 t.e, .int .u64 (t.n : Nat)]), (28, .agg #[.int .u32 (u.p : Nat), .int .u32 (u.m : Nat), .int .u16 (u.i : Nat), .int .u8 (u.s : Nat), .int .i64 u.e, .int .u64 (u.n : Nat)]), (8, .pointer (some ⟨bt70, 0, none⟩)), (9, .pointer (some ⟨bt60, 0, none⟩))]) ?hz (hcont_ (bt70, bt60) xt72 ⟨hS_, Z7t72.out.1, Z8t72.out.1, Z7t72.out.2, Z8t72.out.2⟩)
          case hz => simp only [putAll]; first | (go_simp; done) | (go_simp; rfl)
      case yt62 =>
        intro K_ hK_
        unfold Shut at hK_
        obtain ⟨bt74, hb⟩ : ∃ b, b = (xt60).heap.size := ⟨_, rfl⟩
        obtain ⟨xt74, hx⟩ : ∃ wx, wx = (xt60).alloc (.cells #[.int .u32 0, .int .i64 0, .int .u64 0] 60) := ⟨_, rfl⟩
        have hb6 : Below (xt60).heap.size (xt60) xt74 := by rw [hx]; exact below_alloc (Below.refl _ _) _
        have Z7t74 := Aside0.mk (show xt74.heap[bt74]? = some (.cells #[.int .u32 0, .int .i64 0, .int .u64 0] 60 (0, 0)) ∧ wk.heap.size ≤ bt74 from ⟨by rw [hx, hb]; exact heap_alloc_new _ _, by rw [hb]; exact hS_.out.2.2.size⟩)
        have Z8t74 := Aside0.mk (And.intro (blk_below Z8t60.out.1 hb6) Z8t60.out.2)
        have hS2 := hS_.next hb6
        refine value_ (v := .pointer (some ⟨bt74, 0, none⟩)) (w1 := xt74) rfl rfl (by subst hx; subst hb; (first | (go_simp; done) | (go_simp; rfl))) ?_
        clear hx hb hb6
        refine hK_ _ _ hS2 (fun hS_ => ?_)
        clear hK_ hS2
        refine norm_ (a' := ?at75) ?hat75 ?restt75
        case hat75 => go_simp; rfl
        refine one_ (i := 1) #[true, true, true, false, true, true, false, false] rfl rfl (by kernel_rfl) (by decide) ?_
        intro K_ hK_
        unfold Shut at hK_
        refine goes_ Tryd.func38 (by kernel_rfl) (by kernel_rfl) #[.agg #[.int .u32 (t.p : Nat), .int .i64 t.e, .int .u64 (t.n : Nat)]] rfl rfl rfl (by go_simp) ?_
        refine (ticket38 (t := t) xt74).mono ?_
        rintro e xt76 ⟨rfl, hb6⟩
        have Z7t76 := Aside0.mk (And.intro (blk_below Z7t74.out.1 hb6) Z7t74.out.2)
        have Z8t76 := Aside0.mk (And.intro (blk_below Z8t74.out.1 hb6) Z8t74.out.2)
        have hS2 := hS_.next hb6
        clear hb6
        refine ⟨_, rfl, hK_ _ _ hS2 (fun hS_ => ?_)⟩
        clear hK_ hS2
        refine norm_ (a' := ?at77) ?hat77 ?restt77
        case hat77 => go_simp; rfl
        refine one_ (i := 3) #[true, true, true, true, true, true, false, false] rfl rfl (by kernel_rfl) (by decide) ?_
        intro K_ hK_
        unfold Shut at hK_
        refine goes_ Tryd.func41 (by kernel_rfl) (by kernel_rfl) #[.agg #[.int .u32 (u.p : Nat), .int .u32 (u.m : Nat), .int .u16 (u.i : Nat), .int .u8 (u.s : Nat), .int .i64 u.e, .int .u64 (u.n : Nat)]] rfl rfl rfl (by go_simp) ?_
        refine (token41 (t := u) xt76).mono ?_
        rintro e xt78 ⟨rfl, hb6⟩
        have Z7t78 := Aside0.mk (And.intro (blk_below Z7t76.out.1 hb6) Z7t76.out.2)
        have Z8t78 := Aside0.mk (And.intro (blk_below Z8t76.out.1 hb6) Z8t76.out.2)
        have hS2 := hS_.next hb6
        clear hb6
        refine ⟨_, rfl, hK_ _ _ hS2 (fun hS_ => ?_)⟩
        clear hK_ hS2
        refine norm_ (a' := ?at79) ?hat79 ?restt79
        case hat79 => go_simp; rfl
        refine norm_ (a' := putAll _ [(26, .agg #[.int .u32 (t.p : Nat), .int .i64 t.e, .int .u64 (t.n : Nat)]), (28, .agg #[.int .u32 (u.p : Nat), .int .u32 (u.m : Nat), .int .u16 (u.i : Nat), .int .u8 (u.s : Nat), .int .i64 u.e, .int .u64 (u.n : Nat)]), (8, .pointer (some ⟨bt74, 0, none⟩)), (9, .pointer (some ⟨bt60, 0, none⟩))]) ?hz (hcont_ (bt74, bt60) xt78 ⟨hS_, Z7t78.out.1, Z8t78.out.1, Z7t78.out.2, Z8t78.out.2⟩)
        case hz => simp only [putAll]; first | (go_simp; done) | (go_simp; rfl)
  case cont =>
    rintro ⟨g7, g8⟩ w3 ⟨hS3, h7, h8, l7, l8⟩
    simp only at h7 h8 l7 l8
    have H7 := Aside0.mk h7
    have H8 := Aside0.mk h8
    have Hl := Aside0.mk (And.intro l7 l8)
    have Hne := Aside0.mk (show g7 ≠ g8 from blk_ne h7 h8 (by decide))
    clear h7 h8 l7 l8 hS_
    have hS_ := hS3
    refine norm_ (a' := ?ac) ?hac ?restc
    case hac => simp only [putAll]; go_simp; rfl
    refine one_ (i := 6) #[true, true, true, true, true, true, true, false] rfl rfl (by kernel_rfl) (by decide) ?_
    intro K_ hK_
    unfold Shut at hK_
    refine skip_ rfl rfl (run_store_row 60 (.tmp 8) (.tmp 26) rfl g7 0 #[.int .u32 (t.p : Nat), .int .i64 t.e, .int .u64 (t.n : Nat)] rfl rfl (there_block H7.out 0 _ (by show 0 + 3 ≤ 3; omega)) size60 (by simp [Value.oneCell'])) ?_
    have hS4 : Spk wk g4 g5 t u (w3.setCells g7 0 (#[.int .u32 (t.p : Nat), .int .i64 t.e, .int .u64 (t.n : Nat)] : Array Value).toList) := hS_.set HG4.out Hl.out.1 _
    refine hK_ _ _ hS4 (fun hS_ => ?_)
    clear hK_ hS4
    refine norm_ (a' := ?at80) ?hat80 ?restt80
    case hat80 => go_simp; rfl
    refine one_ (i := 7) #[true, true, true, true, true, true, true, true] rfl rfl (by kernel_rfl) (by decide) ?_
    intro K_ hK_
    unfold Shut at hK_
    have H84 : Aside0 ((w3.setCells g7 0 (#[.int .u32 (t.p : Nat), .int .i64 t.e, .int .u64 (t.n : Nat)] : Array Value).toList).heap[g8]? = some (.cells #[.int .u32 0, .int .u32 0, .int .u16 0, .int .u8 0, .int .i64 0, .int .u64 0] 65 (0, 0))) := ⟨(setCells_far _ _ g8 Hne.out.symm).trans H8.out⟩
    refine skip_ rfl rfl (run_store_row 65 (.tmp 9) (.tmp 28) rfl g8 0 #[.int .u32 (u.p : Nat), .int .u32 (u.m : Nat), .int .u16 (u.i : Nat), .int .u8 (u.s : Nat), .int .i64 u.e, .int .u64 (u.n : Nat)] rfl rfl (there_block H84.out 0 _ (by show 0 + 6 ≤ 6; omega)) size65 (by simp [Value.oneCell'])) ?_
    have hS4 : Spk wk g4 g5 t u ((w3.setCells g7 0 (#[.int .u32 (t.p : Nat), .int .i64 t.e, .int .u64 (t.n : Nat)] : Array Value).toList).setCells g8 0 (#[.int .u32 (u.p : Nat), .int .u32 (u.m : Nat), .int .u16 (u.i : Nat), .int .u8 (u.s : Nat), .int .i64 u.e, .int .u64 (u.n : Nat)] : Array Value).toList) := hS_.set HG4.out Hl.out.2 _
    refine hK_ _ _ hS4 (fun hS_ => ?_)
    clear hK_ hS4
    refine norm_ (a' := ?at81) ?hat81 ?restt81
    case hat81 => go_simp; rfl
    refine done_ (by kernel_rfl) ?_
    have R7 : Aside0 (((w3.setCells g7 0 (#[.int .u32 (t.p : Nat), .int .i64 t.e, .int .u64 (t.n : Nat)] : Array Value).toList).setCells g8 0 (#[.int .u32 (u.p : Nat), .int .u32 (u.m : Nat), .int .u16 (u.i : Nat), .int .u8 (u.s : Nat), .int .i64 u.e, .int .u64 (u.n : Nat)] : Array Value).toList).heap[g7]? = some (.cells #[.int .u32 (t.p : Nat), .int .i64 t.e, .int .u64 (t.n : Nat)] 60 (0, 0))) := ⟨(setCells_far _ _ g7 Hne.out).trans (row_set H7.out rfl)⟩
    have R8 : Aside0 (((w3.setCells g7 0 (#[.int .u32 (t.p : Nat), .int .i64 t.e, .int .u64 (t.n : Nat)] : Array Value).toList).setCells g8 0 (#[.int .u32 (u.p : Nat), .int .u32 (u.m : Nat), .int .u16 (u.i : Nat), .int .u8 (u.s : Nat), .int .i64 u.e, .int .u64 (u.n : Nat)] : Array Value).toList).heap[g8]? = some (.cells #[.int .u32 (u.p : Nat), .int .u32 (u.m : Nat), .int .u16 (u.i : Nat), .int .u8 (u.s : Nat), .int .i64 u.e, .int .u64 (u.n : Nat)] 65 (0, 0))) := ⟨row_set H84.out rfl⟩
    obtain ⟨w4, hw4⟩ : ∃ w4, w4 = (w3.setCells g7 0 (#[.int .u32 (t.p : Nat), .int .i64 t.e, .int .u64 (t.n : Nat)] : Array Value).toList).setCells g8 0 (#[.int .u32 (u.p : Nat), .int .u32 (u.m : Nat), .int .u16 (u.i : Nat), .int .u8 (u.s : Nat), .int .i64 u.e, .int .u64 (u.n : Nat)] : Array Value).toList := ⟨_, rfl⟩
    have HS4 := Aside0.mk hS_
    rw [← hw4] at R7 R8 HS4
    clear hS_ hS3 hS
    have HB4 : Aside0 (Below w.heap.size w w4) := ⟨HBk.out.trans (HS4.out.out.2.2.mono HBk.out.size)⟩
    have hS5 : Sbk w4 g4 g5 g7 g8 t u w4.drew := ⟨HS4.out.out.1, HS4.out.out.2.1, R7.out, R8.out, below_drew (Below.refl _ _)⟩
    have HT4 : Aside0 (Tab w4) := ⟨HT.out.below HB4.out⟩
    have HK4 : Aside0 (KeyTag w4 (.pointer (some ⟨g, 0, none⟩)) (tagk (kbl key))) := ⟨HKk.out.below HS4.out.out.2.2⟩
    have HF : Aside0 (KeyFits w4 (.pointer (some ⟨g, 0, none⟩)) (fun tg x => decide (tg = tagk (kbl key) x))) := ⟨HFk.out.below HS4.out.out.2.2⟩
    try rw [← hw4]
    clear hw4 R7 R8 H7 H8 HS4 HKk HFk
    go_wp2_with fail
    refine start_ (S := Sbk w4 g4 g5 g7 g8 t u) (ds := []) #[false, false, false, false, false, false, false, false] (by kernel_rfl) rfl rfl hS5 ?_
    intro hS_
    refine take_ (i := 0) (a' := ?a1_1) (v := .agg #[.int .u32 (t.p : Nat), .int .i64 t.e, .int .u64 (t.n : Nat)]) #[true, false, false, false, false, false, false, false] rfl rfl (by kernel_rfl) (fun _ _ _ h => h) (yields_row rfl 60 (.tmp 8) rfl g7 0 rfl #[.int .u32 (t.p : Nat), .int .i64 t.e, .int .u64 (t.n : Nat)] _ (fun w h => range_block h.out.2.2.1 _ ⟨[], by rw [List.append_nil]⟩) hu60 rfl size60) hS_ ?ha1_1 ?rest1_1
    case ha1_1 => go_simp; rfl
    refine pure_ (i := 1) (a' := ?a1_2) (v := .pointer (some ⟨g, 0, none⟩)) #[true, true, false, false, false, false, false, false] rfl rfl (by kernel_rfl) (fun _ _ _ h => h) (Or.inl ⟨rfl, ?hy1_2⟩) ?ha1_2 ?rest1_2
    case hy1_2 => intro w; first | (go_simp; done) | (go_simp; with_reducible rfl) | (go_simp; rfl)
    case ha1_2 => go_simp; rfl
    refine take_ (i := 3) (a' := ?a1_3) (v := .agg #[.int .u32 (u.p : Nat), .int .u32 (u.m : Nat), .int .u16 (u.i : Nat), .int .u8 (u.s : Nat), .int .i64 u.e, .int .u64 (u.n : Nat)]) #[true, true, false, true, false, false, false, false] rfl rfl (by kernel_rfl) (fun _ _ _ h => h) (yields_row rfl 65 (.tmp 9) rfl g8 0 rfl #[.int .u32 (u.p : Nat), .int .u32 (u.m : Nat), .int .u16 (u.i : Nat), .int .u8 (u.s : Nat), .int .i64 u.e, .int .u64 (u.n : Nat)] _ (fun w h => range_block h.out.2.2.2.1 _ ⟨[], by rw [List.append_nil]⟩) hu65 rfl size65) hS_ ?ha1_3 ?rest1_3
    case ha1_3 => go_simp; rfl
    refine pure_ (i := 4) (a' := ?a1_4) (v := .pointer (some ⟨g, 0, none⟩)) #[true, true, false, true, true, false, false, false] rfl rfl (by kernel_rfl) (fun _ _ _ h => h) (Or.inl ⟨rfl, ?hy1_4⟩) ?ha1_4 ?rest1_4
    case hy1_4 => intro w; first | (go_simp; done) | (go_simp; with_reducible rfl) | (go_simp; rfl)
    case ha1_4 => go_simp; rfl
    refine one_ (i := 2) #[true, true, true, true, true, false, false, false] rfl rfl (by kernel_rfl) (by decide) ?_
    intro K_ hK_
    unfold Shut at hK_
    refine goes_ Tryd.func39 (by kernel_rfl) (by kernel_rfl) #[.agg #[.int .u32 (t.p : Nat), .int .i64 t.e, .int .u64 (t.n : Nat)], .pointer (some ⟨g, 0, none⟩)] rfl rfl rfl (by go_simp) ?_; refine (seal39 (t := t) _ (HT4.out.below hS_.out.2.2.2.2) (HK4.out.below hS_.out.2.2.2.2) Ht.out).mono ?_; rintro e v1 ⟨rfl, hb6⟩; rw [Hs1.out]; have hS2 := hS_.next hb6; clear hb6; refine ⟨_, rfl, hK_ _ _ hS2 (fun hS_ => ?_)⟩; clear hK_ hS2
    refine norm_ (a' := ?a1_6n) ?ha1_6n ?rest1_6n
    case ha1_6n => go_simp; rfl
    refine one_ (i := 5) #[true, true, true, true, true, true, false, false] rfl rfl (by kernel_rfl) (by decide) ?_
    intro K_ hK_
    unfold Shut at hK_
    refine goes_ Tryd.func42 (by kernel_rfl) (by kernel_rfl) #[.agg #[.int .u32 (u.p : Nat), .int .u32 (u.m : Nat), .int .u16 (u.i : Nat), .int .u8 (u.s : Nat), .int .i64 u.e, .int .u64 (u.n : Nat)], .pointer (some ⟨g, 0, none⟩)] rfl rfl rfl (by go_simp) ?_; refine (seal42 (t := u) _ (HT4.out.below hS_.out.2.2.2.2) (HK4.out.below hS_.out.2.2.2.2) Hu.out).mono ?_; rintro e v2 ⟨rfl, hb6⟩; rw [Hs2.out]; have hS2 := hS_.next hb6; clear hb6; refine ⟨_, rfl, hK_ _ _ hS2 (fun hS_ => ?_)⟩; clear hK_ hS2
    refine norm_ (a' := ?a1_8n) ?ha1_8n ?rest1_8n
    case ha1_8n => go_simp; rfl
    refine pure_ (i := 6) (a' := ?a1_9) (v := .string s1) #[true, true, true, true, true, true, true, false] rfl rfl (by kernel_rfl) (fun _ _ _ h => h) (Or.inl ⟨rfl, ?hy1_9⟩) ?ha1_9 ?rest1_9
    case hy1_9 => intro w; first | (go_simp; done) | (go_simp; with_reducible rfl) | (go_simp; rfl)
    case ha1_9 => go_simp; rfl
    refine pure_ (i := 7) (a' := ?a1_10) (v := .string s2) #[true, true, true, true, true, true, true, true] rfl rfl (by kernel_rfl) (fun _ _ _ h => h) (Or.inl ⟨rfl, ?hy1_10⟩) ?ha1_10 ?rest1_10
    case hy1_10 => intro w; first | (go_simp; done) | (go_simp; with_reducible rfl) | (go_simp; rfl)
    case ha1_10 => go_simp; rfl
    refine done_ (by kernel_rfl) ?_
    have JF : Aside0 (Below w4.heap.size w4 v2) := ⟨hS_.out.2.2.2.2⟩
    have JB := Aside0.mk (HB4.out.trans (hS_.out.2.2.2.2.mono HB4.out.size))
    have Jg7 := Aside0.mk hS_.out.2.2.1
    have Jg8 := Aside0.mk hS_.out.2.2.2.1
    clear hS_ hS5 HB4
    have HFB : ∀ {W : World}, Aside0 (Below w.heap.size w W) → True := fun _ => trivial
    clear HFB
    go_wp2_with fail
    refine (open46_any (s := s1) _ (HT.out.below JB.out) (HF.out.below JF.out) (by rw [Hz1.out]; decide)).mono ?_
    rintro e6 wa6 ⟨rfl, hb⟩
    rw [HO1.out]
    replace Jg7 := Aside0.mk (blk_below Jg7.out hb)
    replace Jg8 := Aside0.mk (blk_below Jg8.out hb)
    replace JF := Aside0.mk (below_step JF.out hb)
    replace JB := Aside0.mk (below_step JB.out hb)
    clear hb
    go_wp2_with (first | ((with_reducible refine gate_dst (N := 12) rfl ?_); refine box_event ?hg (N := 12) ?hd (cs := #[.int .u32 0, .int .i64 0, .int .u64 0]) (t := 60) ?hr ?_; (case hd => rfl); (case hg => rfl); (case hr => first | (go_simp; done) | (go_simp; rfl)); intro g12 hg_ wb6 hbox_ hb_; have Jg12 := Aside0.mk hbox_; have Ng := Aside0.mk (show w.heap.size ≤ g12 from Nat.le_trans JB.out.size (Nat.le_of_eq hg_.symm)); have NF := Aside0.mk (show w4.heap.size ≤ g12 from Nat.le_trans JF.out.size (Nat.le_of_eq hg_.symm)); have Ng7 := Aside0.mk (show g7 ≠ g12 from by have := blk_lt Jg7.out; omega); replace Jg7 := Aside0.mk (blk_below Jg7.out hb_); have Ng8 := Aside0.mk (show g8 ≠ g12 from by have := blk_lt Jg8.out; omega); replace Jg8 := Aside0.mk (blk_below Jg8.out hb_); replace JF := Aside0.mk (below_step JF.out hb_); replace JB := Aside0.mk (below_step JB.out hb_);clear hg_ hbox_ hb_) | ((with_reducible refine gate_store (t := 60) (p := 12) rfl ?_); refine store_row ?hg (ty := 60) (p := 12) (v := ?vr_1) ?ho ?hd (g := g12) (t := 60) (old := #[.int .u32 0, .int .i64 0, .int .u64 0]) (cells := #[.int .u32 (t.p : Nat), .int .i64 t.e, .int .u64 (t.n : Nat)]) ?hx ?hy Jg12.out size60 rfl (by simp [Value.oneCell']) ?_; (case hd => rfl); (case hg => rfl); (case ho => rfl); (case hx => rfl); (case hy => rfl); intro wc6 hbox_ hk_ hb_; replace Jg12 := Aside0.mk hbox_; replace Jg7 := Aside0.mk ((hk_.2 g7 (blk_lt Jg7.out) Ng7.out).trans Jg7.out); replace Jg8 := Aside0.mk ((hk_.2 g8 (blk_lt Jg8.out) Ng8.out).trans Jg8.out); replace JF := Aside0.mk (JF.out.trans (hb_.mono NF.out)); replace JB := Aside0.mk (JB.out.trans (hb_.mono Ng.out));clear hbox_ hk_ hb_))
    refine (open48_any (s := s2) _ (HT.out.below JB.out) (HF.out.below JF.out) (by rw [Hz2.out]; decide)).mono ?_
    rintro e7 wa7 ⟨rfl, hb⟩
    rw [HO2.out]
    replace Jg7 := Aside0.mk (blk_below Jg7.out hb)
    replace Jg8 := Aside0.mk (blk_below Jg8.out hb)
    replace Jg12 := Aside0.mk (blk_below Jg12.out hb)
    replace JF := Aside0.mk (below_step JF.out hb)
    replace JB := Aside0.mk (below_step JB.out hb)
    clear hb
    go_wp2_with (first | ((with_reducible refine gate_dst (N := 14) rfl ?_); refine box_event ?hg (N := 14) ?hd (cs := #[.int .u32 0, .int .u32 0, .int .u16 0, .int .u8 0, .int .i64 0, .int .u64 0]) (t := 65) ?hr ?_; (case hd => rfl); (case hg => rfl); (case hr => first | (go_simp; done) | (go_simp; rfl)); intro g14 hg_ wb7 hbox_ hb_; have Jg14 := Aside0.mk hbox_; have Ng := Aside0.mk (show w.heap.size ≤ g14 from Nat.le_trans JB.out.size (Nat.le_of_eq hg_.symm)); have NF := Aside0.mk (show w4.heap.size ≤ g14 from Nat.le_trans JF.out.size (Nat.le_of_eq hg_.symm)); have Ng7 := Aside0.mk (show g7 ≠ g14 from by have := blk_lt Jg7.out; omega); replace Jg7 := Aside0.mk (blk_below Jg7.out hb_); have Ng8 := Aside0.mk (show g8 ≠ g14 from by have := blk_lt Jg8.out; omega); replace Jg8 := Aside0.mk (blk_below Jg8.out hb_); have Ng12 := Aside0.mk (show g12 ≠ g14 from by have := blk_lt Jg12.out; omega); replace Jg12 := Aside0.mk (blk_below Jg12.out hb_); replace JF := Aside0.mk (below_step JF.out hb_); replace JB := Aside0.mk (below_step JB.out hb_);clear hg_ hbox_ hb_) | ((with_reducible refine gate_store (t := 65) (p := 14) rfl ?_); refine store_row ?hg (ty := 65) (p := 14) (v := ?vr_2) ?ho ?hd (g := g14) (t := 65) (old := #[.int .u32 0, .int .u32 0, .int .u16 0, .int .u8 0, .int .i64 0, .int .u64 0]) (cells := #[.int .u32 (u.p : Nat), .int .u32 (u.m : Nat), .int .u16 (u.i : Nat), .int .u8 (u.s : Nat), .int .i64 u.e, .int .u64 (u.n : Nat)]) ?hx ?hy Jg14.out size65 rfl (by simp [Value.oneCell']) ?_; (case hd => rfl); (case hg => rfl); (case ho => rfl); (case hx => rfl); (case hy => rfl); intro wc7 hbox_ hk_ hb_; replace Jg14 := Aside0.mk hbox_; replace Jg7 := Aside0.mk ((hk_.2 g7 (blk_lt Jg7.out) Ng7.out).trans Jg7.out); replace Jg8 := Aside0.mk ((hk_.2 g8 (blk_lt Jg8.out) Ng8.out).trans Jg8.out); replace Jg12 := Aside0.mk ((hk_.2 g12 (blk_lt Jg12.out) Ng12.out).trans Jg12.out); replace JF := Aside0.mk (JF.out.trans (hb_.mono NF.out)); replace JB := Aside0.mk (JB.out.trans (hb_.mono Ng.out));clear hbox_ hk_ hb_))
    refine (open48_any (s := s1) _ (HT.out.below JB.out) (HF.out.below JF.out) (by rw [Hz1.out]; decide)).mono ?_
    rintro e8 wa8 ⟨rfl, hb⟩
    rw [HO3.out]
    replace Jg7 := Aside0.mk (blk_below Jg7.out hb)
    replace Jg8 := Aside0.mk (blk_below Jg8.out hb)
    replace Jg12 := Aside0.mk (blk_below Jg12.out hb)
    replace Jg14 := Aside0.mk (blk_below Jg14.out hb)
    replace JF := Aside0.mk (below_step JF.out hb)
    replace JB := Aside0.mk (below_step JB.out hb)
    clear hb
    go_wp2_with (first | ((with_reducible refine gate_dst (N := 16) rfl ?_); refine box_event ?hg (N := 16) ?hd (cs := #[.int .u32 0, .int .u32 0, .int .u16 0, .int .u8 0, .int .i64 0, .int .u64 0]) (t := 65) ?hr ?_; (case hd => rfl); (case hg => rfl); (case hr => first | (go_simp; done) | (go_simp; rfl)); intro g16 hg_ wb8 hbox_ hb_; have Jg16 := Aside0.mk hbox_; have Ng := Aside0.mk (show w.heap.size ≤ g16 from Nat.le_trans JB.out.size (Nat.le_of_eq hg_.symm)); have NF := Aside0.mk (show w4.heap.size ≤ g16 from Nat.le_trans JF.out.size (Nat.le_of_eq hg_.symm)); have Ng7 := Aside0.mk (show g7 ≠ g16 from by have := blk_lt Jg7.out; omega); replace Jg7 := Aside0.mk (blk_below Jg7.out hb_); have Ng8 := Aside0.mk (show g8 ≠ g16 from by have := blk_lt Jg8.out; omega); replace Jg8 := Aside0.mk (blk_below Jg8.out hb_); have Ng12 := Aside0.mk (show g12 ≠ g16 from by have := blk_lt Jg12.out; omega); replace Jg12 := Aside0.mk (blk_below Jg12.out hb_); have Ng14 := Aside0.mk (show g14 ≠ g16 from by have := blk_lt Jg14.out; omega); replace Jg14 := Aside0.mk (blk_below Jg14.out hb_); replace JF := Aside0.mk (below_step JF.out hb_); replace JB := Aside0.mk (below_step JB.out hb_);clear hg_ hbox_ hb_) | ((with_reducible refine gate_store (t := 65) (p := 16) rfl ?_); refine store_row ?hg (ty := 65) (p := 16) (v := ?vr_3) ?ho ?hd (g := g16) (t := 65) (old := #[.int .u32 0, .int .u32 0, .int .u16 0, .int .u8 0, .int .i64 0, .int .u64 0]) (cells := #[.int .u32 0, .int .u32 0, .int .u16 0, .int .u8 0, .int .i64 0, .int .u64 0]) ?hx ?hy Jg16.out size65 rfl (by simp [Value.oneCell']) ?_; (case hd => rfl); (case hg => rfl); (case ho => rfl); (case hx => rfl); (case hy => rfl); intro wc8 hbox_ hk_ hb_; replace Jg16 := Aside0.mk hbox_; replace Jg7 := Aside0.mk ((hk_.2 g7 (blk_lt Jg7.out) Ng7.out).trans Jg7.out); replace Jg8 := Aside0.mk ((hk_.2 g8 (blk_lt Jg8.out) Ng8.out).trans Jg8.out); replace Jg12 := Aside0.mk ((hk_.2 g12 (blk_lt Jg12.out) Ng12.out).trans Jg12.out); replace Jg14 := Aside0.mk ((hk_.2 g14 (blk_lt Jg14.out) Ng14.out).trans Jg14.out); replace JF := Aside0.mk (JF.out.trans (hb_.mono NF.out)); replace JB := Aside0.mk (JB.out.trans (hb_.mono Ng.out));clear hbox_ hk_ hb_))
    refine (open46_any (s := s2) _ (HT.out.below JB.out) (HF.out.below JF.out) (by rw [Hz2.out]; decide)).mono ?_
    rintro e9 wa9 ⟨rfl, hb⟩
    rw [HO4.out]
    replace Jg7 := Aside0.mk (blk_below Jg7.out hb)
    replace Jg8 := Aside0.mk (blk_below Jg8.out hb)
    replace Jg12 := Aside0.mk (blk_below Jg12.out hb)
    replace Jg14 := Aside0.mk (blk_below Jg14.out hb)
    replace JF := Aside0.mk (below_step JF.out hb)
    replace JB := Aside0.mk (below_step JB.out hb)
    clear hb
    go_wp2_with (first | ((with_reducible refine gate_dst (N := 18) rfl ?_); refine box_event ?hg (N := 18) ?hd (cs := #[.int .u32 0, .int .i64 0, .int .u64 0]) (t := 60) ?hr ?_; (case hd => rfl); (case hg => rfl); (case hr => first | (go_simp; done) | (go_simp; rfl)); intro g18 hg_ wb9 hbox_ hb_; have Jg18 := Aside0.mk hbox_; have Ng := Aside0.mk (show w.heap.size ≤ g18 from Nat.le_trans JB.out.size (Nat.le_of_eq hg_.symm)); have NF := Aside0.mk (show w4.heap.size ≤ g18 from Nat.le_trans JF.out.size (Nat.le_of_eq hg_.symm)); have Ng7 := Aside0.mk (show g7 ≠ g18 from by have := blk_lt Jg7.out; omega); replace Jg7 := Aside0.mk (blk_below Jg7.out hb_); have Ng8 := Aside0.mk (show g8 ≠ g18 from by have := blk_lt Jg8.out; omega); replace Jg8 := Aside0.mk (blk_below Jg8.out hb_); have Ng12 := Aside0.mk (show g12 ≠ g18 from by have := blk_lt Jg12.out; omega); replace Jg12 := Aside0.mk (blk_below Jg12.out hb_); have Ng14 := Aside0.mk (show g14 ≠ g18 from by have := blk_lt Jg14.out; omega); replace Jg14 := Aside0.mk (blk_below Jg14.out hb_); replace JF := Aside0.mk (below_step JF.out hb_); replace JB := Aside0.mk (below_step JB.out hb_);clear hg_ hbox_ hb_) | ((with_reducible refine gate_store (t := 60) (p := 18) rfl ?_); refine store_row ?hg (ty := 60) (p := 18) (v := ?vr_4) ?ho ?hd (g := g18) (t := 60) (old := #[.int .u32 0, .int .i64 0, .int .u64 0]) (cells := #[.int .u32 0, .int .i64 0, .int .u64 0]) ?hx ?hy Jg18.out size60 rfl (by simp [Value.oneCell']) ?_; (case hd => rfl); (case hg => rfl); (case ho => rfl); (case hx => rfl); (case hy => rfl); intro wc9 hbox_ hk_ hb_; replace Jg18 := Aside0.mk hbox_; replace Jg7 := Aside0.mk ((hk_.2 g7 (blk_lt Jg7.out) Ng7.out).trans Jg7.out); replace Jg8 := Aside0.mk ((hk_.2 g8 (blk_lt Jg8.out) Ng8.out).trans Jg8.out); replace Jg12 := Aside0.mk ((hk_.2 g12 (blk_lt Jg12.out) Ng12.out).trans Jg12.out); replace Jg14 := Aside0.mk ((hk_.2 g14 (blk_lt Jg14.out) Ng14.out).trans Jg14.out); replace JF := Aside0.mk (JF.out.trans (hb_.mono NF.out)); replace JB := Aside0.mk (JB.out.trans (hb_.mono Ng.out)); have ca0 := (blk_cell Jg12.out 0).trans rfl; have ca1 := (blk_cell Jg12.out 1).trans rfl; have ca2 := (blk_cell Jg12.out 2).trans rfl; have cb0 := (blk_cell Jg7.out 0).trans rfl; have cb1 := (blk_cell Jg7.out 1).trans rfl; have cb2 := (blk_cell Jg7.out 2).trans rfl; have cc0 := (blk_cell Jg14.out 0).trans rfl; have cc1 := (blk_cell Jg14.out 1).trans rfl; have cc2 := (blk_cell Jg14.out 2).trans rfl; have cc3 := (blk_cell Jg14.out 3).trans rfl; have cc4 := (blk_cell Jg14.out 4).trans rfl; have cc5 := (blk_cell Jg14.out 5).trans rfl; have cd0 := (blk_cell Jg8.out 0).trans rfl; have cd1 := (blk_cell Jg8.out 1).trans rfl; have cd2 := (blk_cell Jg8.out 2).trans rfl; have cd3 := (blk_cell Jg8.out 3).trans rfl; have cd4 := (blk_cell Jg8.out 4).trans rfl; have cd5 := (blk_cell Jg8.out 5).trans rfl;clear hbox_ hk_ hb_))
    refine (awake44_any _ (HT.out.below JB.out)).mono ?_
    rintro ez wz ⟨rfl, hb⟩
    have HBf := Aside0.mk (below_step JB.out hb)
    go_wp2_with fail
    go_ret
    exact ⟨rfl, HBf.out⟩
end Go.Proofs.YtpigkgnmegpddaaDoor.Sh
