/-
MacMade, walked.
-/
import Derived.Test.YtpigkgnmegpddaaDoorMh
namespace Go.Proofs.YtpigkgnmegpddaaDoor.Sh
set_option linter.unusedVariables false
set_option linter.unusedSimpArgs false
open Go.RowKit Go.Proofs.YtpigkgnmegpddaaDoorW.PrintWords Go.Proofs.YtpigkgnmegpddaaDoorW.PrintLast Go.Proofs.YtpigkgnmegpddaaDoorW.PrintMore

/-- A row of which so many bytes are turned, the others nought. -/
def hz (k : Int) (kb : List Int) (i : Nat) : List Int := xr k (kb.take i) ++ List.replicate (64 - i) 0
theorem hz_length (k : Int) {kb : List Int} (h : kb.length = 64) {i : Nat} (hi : i ≤ 64) : (hz k kb i).length = 64 := by
  unfold hz
  rw [List.length_append, xr_length, List.length_take, List.length_replicate, h]
  omega
theorem hz_get (k : Int) {kb : List Int} (h : kb.length = 64) {i : Nat} (hi : i < 64) : (hz k kb i).getD i 0 = 0 := by
  unfold hz
  rw [List.getD_eq_getElem?_getD, List.getElem?_append_right (by rw [xr_length, List.length_take, h]; omega), List.getElem?_replicate]
  split <;> rfl
theorem hz_set (k : Int) {kb : List Int} (h : kb.length = 64) {i : Nat} (hi : i < 64) : (hz k kb i).set i (xo (kb.getD i 0) k) = hz k kb (i + 1) := by
  have hl : (xr k (kb.take i)).length = i := by rw [xr_length, List.length_take, h]; omega
  unfold hz
  rw [List.set_append_right _ _ (by omega), hl, Nat.sub_self, show 64 - i = (64 - (i + 1)) + 1 from by omega, List.replicate_succ, List.set_cons_zero, ← xr_snoc k kb i (by omega), List.append_assoc]
  rfl
theorem hz_all (k : Int) {kb : List Int} (h : kb.length = 64) : hz k kb 64 = xr k kb := by
  unfold hz
  rw [List.take_of_length_le (by omega), Nat.sub_self, List.replicate_zero, List.append_nil]
theorem set_get {l : List Int} {i : Nat} (x : Int) (hi : i < l.length) : (l.set i x).getD i 0 = x := by
  rw [List.getD_eq_getElem?_getD, List.getElem?_set_self hi]
  rfl
set_option maxRecDepth 100000 in
set_option maxHeartbeats 4000000 in
theorem made_law {A A2 : Option Addr} {n c n2 c2 : Nat} {key b : List Int} (w : World) (hT : Tab w) (hC : (Kd.int .u8).C w A n key) (hc : n ≤ c) (hby : Byt key) (hC2 : (Kd.int .u8).C w A2 n2 b) (hc2 : n2 ≤ c2) (hby2 : Byt b) :
    Calls Tryd.prog 9 #[.slice A n c, .slice A2 n2 c2] w fun e w' => e = .returned (.bool true) ∧ Below w.heap.size w w' := by
  have hu30 := Tryd.underlying30
  have hg30 := guard30
  have HT := Aside0.mk hT
  have H := Aside0.mk hC
  have H2 := Aside0.mk hC2
  have Hby := Aside0.mk hby
  have Hby2 := Aside0.mk hby2
  have Hn := Aside0.mk hC.1
  have Hn2 := Aside0.mk hC2.1
  have hnm := hC.2.1
  have hnm2 := hC2.2.1
  clear hT hC hby hC2 hby2
  by_cases h64 : 64 < n
  · go_enter Tryd.func9, Tryd.ntmps9
    go_wp2_with fail
    go_ret
    exact ⟨rfl, Below.refl _ _⟩
  by_cases h300 : 300 < n2
  · go_enter Tryd.func9, Tryd.ntmps9
    go_wp2_with fail
    go_ret
    exact ⟨rfl, Below.refl _ _⟩
  have Hm : Aside0 (key.length ≤ 1000000) := ⟨by rw [Hn.out]; omega⟩
  have Hm2 : Aside0 (b.length ≤ 1000000) := ⟨by rw [Hn2.out]; omega⟩
  obtain ⟨kb, hkb⟩ : ∃ kb, kb = kbl key := ⟨_, rfl⟩
  have Hkb := Aside0.mk hkb
  have Hkl : Aside0 (kb.length = 64) := ⟨by rw [hkb, kbl_length]⟩
  have Hkbb : Aside0 (Byt kb) := ⟨by rw [hkb]; exact kbl_byt Hby.out⟩
  have Hkc : Aside0 (kb = key ++ List.replicate (64 - key.length) 0) := ⟨by rw [hkb, kbl, kcut, if_neg (by rw [Hn.out]; exact h64)]⟩
  clear hkb
  go_enter Tryd.func9, Tryd.ntmps9
  go_wp2_with (first | ((with_reducible refine gate_dst (N := 5) rfl ?_); refine box_event ?hg (N := 5) ?hd (cs := v8 (List.replicate 64 0)) (t := 24) ?hr ?_; (case hd => rfl); (case hg => rfl); (case hr => first | (go_simp; done) | (go_simp; rfl)); intro g5 hg_ w1 hbox_ hb_; have H5 := Aside0.mk (show B8 w1 g5 24 (List.replicate 64 0) from hbox_); have HB1 := Aside0.mk hb_; have hg5 := Aside0.mk (show w.heap.size ≤ g5 from Nat.le_of_eq hg_.symm);clear hg_ hbox_ hb_) | ((with_reducible refine gate_dst (N := 6) rfl ?_); refine box_event ?hg (N := 6) ?hd (cs := v8 (List.replicate 64 0)) (t := 24) ?hr ?_; (case hd => rfl); (case hg => rfl); (case hr => first | (go_simp; done) | (go_simp; rfl)); intro g6 hg_ w2 hbox_ hb_; have H6 := Aside0.mk (show B8 w2 g6 24 (List.replicate 64 0) from hbox_); have H52 := Aside0.mk (show B8 w2 g5 24 (List.replicate 64 0) from blk_below H5.out hb_); have HB2 := Aside0.mk (below_step HB1.out hb_); have Hg := Aside0.mk (show w.heap.size ≤ g5 ∧ w.heap.size ≤ g6 ∧ g5 < g6 from by rw [hg_]; exact ⟨hg5.out, HB1.out.size, blk_lt H5.out⟩);clear hg_ hbox_ hb_))
  clear H5 HB1 hg5
  go_loopg [7] 64 (fun gk iv wr => ∃ i : Nat, i + gk = 64 ∧ iv = .int .i64 i ∧ Aside0 (B8 wr g5 24 (hz 54 kb i)) ∧ Aside0 (B8 wr g6 24 (hz 92 kb i)) ∧ Aside0 (Below w.heap.size w wr))
  case atStart => exact ⟨0, by omega, rfl, H52, H6, HB2⟩
  case round =>
    clear H52 H6 HB2
    obtain ⟨i, hi, rfl, HP, HQ, HB⟩ := hrel
    by_cases hlt : i < 64
    · obtain ⟨gq, rfl⟩ : ∃ gq, gk = gq + 1 := ⟨gk - 1, by omega⟩
      have p1 : (0 : Int) ≤ (i : Int) := by omega
      have p2 : (i : Int) < 64 := by omega
      have hne : g5 ≠ g6 := Nat.ne_of_lt Hg.out.2.2
      have hne2 : g6 ≠ g5 := Nat.ne_of_gt Hg.out.2.2
      have Hne := Aside0.mk hne
      by_cases hin : i < n
      · have hCr := Kd.C_below H.out HB.out
        obtain ⟨ad, rfl⟩ := C_some hCr (by omega)
        have hx := C_cell hCr rfl i hin
        obtain ⟨x, hxe⟩ : ∃ x, x = key.getD i 0 := ⟨_, rfl⟩
        rw [← hxe] at hx
        have Hxe : Aside0 (x = kb.getD i 0) := ⟨by rw [hxe, Hkc.out, List.getD_eq_getElem?_getD, List.getD_eq_getElem?_getD, List.getElem?_append_left (by rw [Hn.out]; exact hin)]⟩
        have p3 : (i : Int) < (n : Int) := by omega
        have hf5 := blk_frozen HP.out i
        have hf6 := blk_frozen HQ.out i
        have hc5 := (blk_cell HP.out i).trans (v8_get (l := hz 54 kb i) (by rw [hz_length _ Hkl.out (by omega)]; exact hlt))
        have hc6 := (blk_cell HQ.out i).trans (v8_get (l := hz 92 kb i) (by rw [hz_length _ Hkl.out (by omega)]; exact hlt))
        rw [hz_get _ Hkl.out hlt] at hc5 hc6
        clear hCr hxe
        go_wp2_with fail
        have hS : (fun W : World => Aside0 (W.cell? (ad.add i) = some (.int .u8 x))) wr.drew := ⟨hx⟩
        refine start_ (S := fun W : World => Aside0 (W.cell? (ad.add i) = some (.int .u8 x))) (ds := [11, 13]) #[false, false, false, false, false, false, false, false, false, false, false, false, false, false] (by kernel_rfl) rfl rfl hS ?_
        intro hS_
        refine pure_ (i := 0) (a' := ?a1_1) (v := .int .i64 i) #[true, false, false, false, false, false, false, false, false, false, false, false, false, false] rfl rfl (by kernel_rfl) (fun _ _ _ h => h) (Or.inl ⟨rfl, ?hy1_1⟩) ?ha1_1 ?rest1_1
        case hy1_1 => intro w; first | (go_simp; done) | (go_simp; with_reducible rfl) | (go_simp; rfl)
        case ha1_1 => go_simp; rfl
        refine pure_ (i := 1) (a' := ?a1_2) (v := .int .i64 i) #[true, true, false, false, false, false, false, false, false, false, false, false, false, false] rfl rfl (by kernel_rfl) (fun _ _ _ h => h) (Or.inl ⟨rfl, ?hy1_2⟩) ?ha1_2 ?rest1_2
        case hy1_2 => intro w; first | (go_simp; done) | (go_simp; with_reducible rfl) | (go_simp; rfl)
        case ha1_2 => go_simp; rfl
        refine pure_ (i := 2) (a' := ?a1_3) (v := .slice (some ad) n c) #[true, true, true, false, false, false, false, false, false, false, false, false, false, false] rfl rfl (by kernel_rfl) (fun _ _ _ h => h) (Or.inl ⟨rfl, ?hy1_3⟩) ?ha1_3 ?rest1_3
        case hy1_3 => intro w; first | (go_simp; done) | (go_simp; with_reducible rfl) | (go_simp; rfl)
        case ha1_3 => go_simp; rfl
        refine pure_ (i := 3) (a' := ?a1_4) (v := .int .i64 i) #[true, true, true, true, false, false, false, false, false, false, false, false, false, false] rfl rfl (by kernel_rfl) (fun _ _ _ h => h) (Or.inl ⟨rfl, ?hy1_4⟩) ?ha1_4 ?rest1_4
        case hy1_4 => intro w; first | (go_simp; done) | (go_simp; with_reducible rfl) | (go_simp; rfl)
        case ha1_4 => go_simp; rfl
        refine pure_ (i := 4) (a' := ?a1_5) (v := .pointer (some (ad.add i))) #[true, true, true, true, true, false, false, false, false, false, false, false, false, false] rfl rfl (by kernel_rfl) (fun _ _ _ h => h) (Or.inl ⟨rfl, ?hy1_5⟩) ?ha1_5 ?rest1_5
        case hy1_5 => intro w; first | (go_simp; done) | (go_simp; with_reducible rfl) | (go_simp; rfl)
        case ha1_5 => go_simp; rfl
        refine take_ (i := 5) (a' := ?a1_6) (v := .int .u8 x) #[true, true, true, true, true, true, false, false, false, false, false, false, false, false] rfl rfl (by kernel_rfl) (fun _ _ _ h => h) (yields_cell rfl (fun w h => by have h8 := h.out; (first | (go_simp; done) | (go_simp; with_reducible rfl) | (go_simp; rfl)))) hS_ ?ha1_6 ?rest1_6
        case ha1_6 => go_simp; rfl
        refine pure_ (i := 6) (a' := ?a1_7) (v := .slice (some ad) n c) #[true, true, true, true, true, true, true, false, false, false, false, false, false, false] rfl rfl (by kernel_rfl) (fun _ _ _ h => h) (Or.inl ⟨rfl, ?hy1_7⟩) ?ha1_7 ?rest1_7
        case hy1_7 => intro w; first | (go_simp; done) | (go_simp; with_reducible rfl) | (go_simp; rfl)
        case ha1_7 => go_simp; rfl
        refine pure_ (i := 7) (a' := ?a1_8) (v := .int .i64 i) #[true, true, true, true, true, true, true, true, false, false, false, false, false, false] rfl rfl (by kernel_rfl) (fun _ _ _ h => h) (Or.inl ⟨rfl, ?hy1_8⟩) ?ha1_8 ?rest1_8
        case hy1_8 => intro w; first | (go_simp; done) | (go_simp; with_reducible rfl) | (go_simp; rfl)
        case ha1_8 => go_simp; rfl
        refine pure_ (i := 8) (a' := ?a1_9) (v := .pointer (some (ad.add i))) #[true, true, true, true, true, true, true, true, true, false, false, false, false, false] rfl rfl (by kernel_rfl) (fun _ _ _ h => h) (Or.inl ⟨rfl, ?hy1_9⟩) ?ha1_9 ?rest1_9
        case hy1_9 => intro w; first | (go_simp; done) | (go_simp; with_reducible rfl) | (go_simp; rfl)
        case ha1_9 => go_simp; rfl
        refine take_ (i := 9) (a' := ?a1_10) (v := .int .u8 x) #[true, true, true, true, true, true, true, true, true, true, false, false, false, false] rfl rfl (by kernel_rfl) (fun _ _ _ h => h) (yields_cell rfl (fun w h => by have h8 := h.out; (first | (go_simp; done) | (go_simp; with_reducible rfl) | (go_simp; rfl)))) hS_ ?ha1_10 ?rest1_10
        case ha1_10 => go_simp; rfl
        refine pure_ (i := 10) (a' := ?a1_11) (v := .pointer (some ⟨g5, i, none⟩)) #[true, true, true, true, true, true, true, true, true, true, true, false, false, false] rfl rfl (by kernel_rfl) (fun _ _ _ h => h) (Or.inl ⟨rfl, ?hy1_11⟩) ?ha1_11 ?rest1_11
        case hy1_11 => intro w; first | (go_simp; done) | (go_simp; with_reducible rfl) | (go_simp; rfl)
        case ha1_11 => go_simp; rfl
        refine last_ (i := 11) #[true, true, true, true, true, true, true, true, true, true, true, true, false, false] rfl rfl (by kernel_rfl) (by decide) ?_
        intro K_ hK_
        unfold Shut at hK_
        refine skip_ (w1 := wr.drew.setCell ⟨g5, i, none⟩ (.int .u8 x)) rfl rfl (by (first | (go_simp; done) | (go_simp; rfl))) ?_; refine hK_ _ _ ?_; clear hK_
        refine pure_ (i := 12) (a' := ?a1_13) (v := .pointer (some ⟨g6, i, none⟩)) #[true, true, true, true, true, true, true, true, true, true, true, true, true, false] rfl rfl (by kernel_rfl) (fun _ _ _ h => h) (Or.inl ⟨rfl, ?hy1_13⟩) ?ha1_13 ?rest1_13
        case hy1_13 => intro w; first | (go_simp; done) | (go_simp; with_reducible rfl) | (go_simp; rfl)
        case ha1_13 => go_simp; rfl
        refine last_ (i := 13) #[true, true, true, true, true, true, true, true, true, true, true, true, true, true] rfl rfl (by kernel_rfl) (by decide) ?_
        intro K_ hK_
        unfold Shut at hK_
        refine skip_ (w1 := (wr.drew.setCell ⟨g5, i, none⟩ (.int .u8 x)).setCell ⟨g6, i, none⟩ (.int .u8 x)) rfl rfl (by (first | (go_simp; done) | (go_simp; rfl))) ?_; refine hK_ _ _ ?_; clear hK_
        refine done_ (by kernel_rfl) ?_
        obtain ⟨wq, hwq⟩ : ∃ wq, wq = (wr.drew.setCell ⟨g5, i, none⟩ (.int .u8 x)).setCell ⟨g6, i, none⟩ (.int .u8 x) := ⟨_, rfl⟩
        have HP1 : Aside0 (B8 wq g5 24 ((hz 54 kb i).set i x)) := ⟨by
          rw [hwq]
          have h1 : B8 wr.drew g5 24 (hz 54 kb i) := HP.out
          exact blk_far (p := ⟨g6, i, none⟩) (h1.set i x) Hne.out _⟩
        have HQ1 : Aside0 (B8 wq g6 24 ((hz 92 kb i).set i x)) := ⟨by
          rw [hwq]
          have h1 : B8 wr.drew g6 24 (hz 92 kb i) := HQ.out
          have h2 : B8 (wr.drew.setCell ⟨g5, i, none⟩ (.int .u8 x)) g6 24 (hz 92 kb i) := blk_far (p := ⟨g5, i, none⟩) h1 Hne.out.symm _
          exact h2.set i x⟩
        have HB1 : Aside0 (Below w.heap.size w wq) := ⟨by
          rw [hwq]
          exact ((below_drew HB.out).setCell (p := ⟨g5, i, none⟩) Hg.out.1 _).setCell (p := ⟨g6, i, none⟩) Hg.out.2.1 _⟩
        rw [← hwq]
        clear hwq hS hc5 hc6 hf5 hf6 hx HP HQ HB
        have HE : Aside0 ((hz 54 kb i).set i (xo x 54) = hz 54 kb (i + 1) ∧ (hz 92 kb i).set i (xo x 92) = hz 92 kb (i + 1)) := ⟨by rw [Hxe.out]; exact ⟨hz_set _ Hkl.out hlt, hz_set _ Hkl.out hlt⟩⟩
        obtain ⟨la, hla⟩ : ∃ la, la = (hz 54 kb i).set i x := ⟨_, rfl⟩
        obtain ⟨lb, hlb⟩ : ∃ lb, lb = (hz 92 kb i).set i x := ⟨_, rfl⟩
        rw [← hla] at HP1
        rw [← hlb] at HQ1
        have HL2 : Aside0 (la.length = 64 ∧ lb.length = 64 ∧ la.getD i 0 = x ∧ lb.getD i 0 = x ∧ la.set i (xo x 54) = hz 54 kb (i + 1) ∧ lb.set i (xo x 92) = hz 92 kb (i + 1)) := ⟨by
          have h1 := hz_length 54 Hkl.out (Nat.le_of_lt hlt)
          have h2 := hz_length 92 Hkl.out (Nat.le_of_lt hlt)
          rw [hla, hlb]
          exact ⟨by rw [List.length_set, h1], by rw [List.length_set, h2], set_get x (by rw [h1]; exact hlt), set_get x (by rw [h2]; exact hlt), by rw [List.set_set]; exact HE.out.1, by rw [List.set_set]; exact HE.out.2⟩⟩
        clear hla hlb HE
        have hf5 := blk_frozen HP1.out i
        have hf6 := blk_frozen HQ1.out i
        have hc5 := (blk_cell HP1.out i).trans (v8_get (l := la) (by rw [HL2.out.1]; exact hlt))
        have hc6 := (blk_cell HQ1.out i).trans (v8_get (l := lb) (by rw [HL2.out.2.1]; exact hlt))
        rw [HL2.out.2.2.1] at hc5
        rw [HL2.out.2.2.2.1] at hc6
        go_wp2_with fail
        have HP2 : Aside0 (B8 ((wq.setCell ⟨g5, i, none⟩ (.int .u8 (Go.bits .xor .u8 x 54))).setCell ⟨g6, i, none⟩ (.int .u8 (Go.bits .xor .u8 x 92))) g5 24 (hz 54 kb (i + 1))) := ⟨by
          rw [← HL2.out.2.2.2.2.1]
          exact blk_far (p := ⟨g6, i, none⟩) (HP1.out.set i _) Hne.out _⟩
        have HQ2 : Aside0 (B8 ((wq.setCell ⟨g5, i, none⟩ (.int .u8 (Go.bits .xor .u8 x 54))).setCell ⟨g6, i, none⟩ (.int .u8 (Go.bits .xor .u8 x 92))) g6 24 (hz 92 kb (i + 1))) := ⟨by
          rw [← HL2.out.2.2.2.2.2]
          have h2 : B8 (wq.setCell ⟨g5, i, none⟩ (.int .u8 (Go.bits .xor .u8 x 54))) g6 24 lb := blk_far (p := ⟨g5, i, none⟩) HQ1.out Hne.out.symm _
          exact h2.set i _⟩
        have HB2 : Aside0 (Below w.heap.size w ((wq.setCell ⟨g5, i, none⟩ (.int .u8 (Go.bits .xor .u8 x 54))).setCell ⟨g6, i, none⟩ (.int .u8 (Go.bits .xor .u8 x 92)))) := ⟨(HB1.out.setCell (p := ⟨g5, i, none⟩) Hg.out.1 _).setCell (p := ⟨g6, i, none⟩) Hg.out.2.1 _⟩
        go_roundg gq
        case measure => omega
        case rel => exact ⟨i + 1, by omega, by go_num, HP2, HQ2, HB2⟩
      · obtain ⟨x, hxe⟩ : ∃ x : Int, x = 0 := ⟨_, rfl⟩
        have Hx0 := Aside0.mk hxe
        clear hxe
        have Hxe : Aside0 (x = kb.getD i 0) := ⟨by rw [Hx0.out, Hkc.out, List.getD_eq_getElem?_getD, List.getElem?_append_right (by rw [Hn.out]; omega), List.getElem?_replicate]; split <;> rfl⟩
        have p3 : (n : Int) ≤ (i : Int) := by omega
        obtain ⟨wq, hwq⟩ : ∃ wq, wq = wr := ⟨_, rfl⟩
        obtain ⟨la, hla⟩ : ∃ la, la = hz 54 kb i := ⟨_, rfl⟩
        obtain ⟨lb, hlb⟩ : ∃ lb, lb = hz 92 kb i := ⟨_, rfl⟩
        have HL2 : Aside0 (la.length = 64 ∧ lb.length = 64 ∧ la.getD i 0 = x ∧ lb.getD i 0 = x ∧ la.set i (xo x 54) = hz 54 kb (i + 1) ∧ lb.set i (xo x 92) = hz 92 kb (i + 1)) := ⟨by
          rw [hla, hlb]
          refine ⟨hz_length _ Hkl.out (Nat.le_of_lt hlt), hz_length _ Hkl.out (Nat.le_of_lt hlt), by rw [hz_get _ Hkl.out hlt, Hx0.out], by rw [hz_get _ Hkl.out hlt, Hx0.out], ?_, ?_⟩
          · rw [Hxe.out]; exact hz_set _ Hkl.out hlt
          · rw [Hxe.out]; exact hz_set _ Hkl.out hlt⟩
        have HP1 : Aside0 (B8 wq g5 24 la) := ⟨by rw [hwq, hla]; exact HP.out⟩
        have HQ1 : Aside0 (B8 wq g6 24 lb) := ⟨by rw [hwq, hlb]; exact HQ.out⟩
        have HB1 : Aside0 (Below w.heap.size w wq) := ⟨by rw [hwq]; exact HB.out⟩
        rw [← hwq]
        clear hwq hla hlb HP HQ HB
        have hf5 := blk_frozen HP1.out i
        have hf6 := blk_frozen HQ1.out i
        have hc5 := (blk_cell HP1.out i).trans (v8_get (l := la) (by rw [HL2.out.1]; exact hlt))
        have hc6 := (blk_cell HQ1.out i).trans (v8_get (l := lb) (by rw [HL2.out.2.1]; exact hlt))
        rw [HL2.out.2.2.1] at hc5
        rw [HL2.out.2.2.2.1] at hc6
        go_wp2_with fail
        have HP2 : Aside0 (B8 ((wq.setCell ⟨g5, i, none⟩ (.int .u8 (Go.bits .xor .u8 x 54))).setCell ⟨g6, i, none⟩ (.int .u8 (Go.bits .xor .u8 x 92))) g5 24 (hz 54 kb (i + 1))) := ⟨by
          rw [← HL2.out.2.2.2.2.1]
          exact blk_far (p := ⟨g6, i, none⟩) (HP1.out.set i _) Hne.out _⟩
        have HQ2 : Aside0 (B8 ((wq.setCell ⟨g5, i, none⟩ (.int .u8 (Go.bits .xor .u8 x 54))).setCell ⟨g6, i, none⟩ (.int .u8 (Go.bits .xor .u8 x 92))) g6 24 (hz 92 kb (i + 1))) := ⟨by
          rw [← HL2.out.2.2.2.2.2]
          have h2 : B8 (wq.setCell ⟨g5, i, none⟩ (.int .u8 (Go.bits .xor .u8 x 54))) g6 24 lb := blk_far (p := ⟨g5, i, none⟩) HQ1.out Hne.out.symm _
          exact h2.set i _⟩
        have HB2 : Aside0 (Below w.heap.size w ((wq.setCell ⟨g5, i, none⟩ (.int .u8 (Go.bits .xor .u8 x 54))).setCell ⟨g6, i, none⟩ (.int .u8 (Go.bits .xor .u8 x 92)))) := ⟨(HB1.out.setCell (p := ⟨g5, i, none⟩) Hg.out.1 _).setCell (p := ⟨g6, i, none⟩) Hg.out.2.1 _⟩
        go_roundg gq
        case measure => omega
        case rel => exact ⟨i + 1, by omega, by go_num, HP2, HQ2, HB2⟩
    · have hi64 : i = 64 := by omega
      subst hi64
      rw [hz_all _ Hkl.out] at HP HQ
      go_wp2_with fail
      refine (sum_two (W := wr) (xs := xr 54 kb) (ys := b) (HT.out.below HB.out) (row_read (S := fun _ => False) HP.out (fun h => h) (by rw [xr_length, Hkl.out]) (by decide)) (Nat.le_refl _) (Rd.came H2.out HB.out (fun _ hk => hk.elim)) hc2 (xr_byt (by decide) Hkbb.out) Hby2.out (by rw [xr_length, Hkl.out]; have := Hm2.out; omega) rfl).mono ?_
      rintro e w6 ⟨rfl, hb6⟩
      obtain ⟨s, hs⟩ : ∃ s, s = sum (xr 54 kb ++ b) := ⟨_, rfl⟩
      have Hsl : Aside0 (s.length = 32 ∧ Byt s) := ⟨by rw [hs]; exact ⟨rfl, sum_byt _⟩⟩
      obtain ⟨bs, hbs⟩ : ∃ bs, bs = tag key b := ⟨_, rfl⟩
      have Hbs1 : Aside0 (tag key [b].flatten = bs) := ⟨by rw [hbs]; simp⟩
      have Hbs2 : Aside0 (sum [xr 92 kb, s].flatten = bs) := ⟨by rw [hbs, hs, show [xr 92 kb, sum (xr 54 kb ++ b)].flatten = xr 92 kb ++ sum (xr 54 kb ++ b) from by simp, Hkb.out]; rfl⟩
      have heq := fun w => heq30 (bs := bs) (by rw [hbs]; rfl) w
      rw [← hs]
      have HQ6 := Aside0.mk (show B8 w6 g6 24 (xr 92 kb) from blk_below HQ.out hb6)
      have HB6 := Aside0.mk (below_step HB.out hb6)
      clear hs hbs hb6 HP HQ HB
      go_wp2_with (first | ((with_reducible refine gate_dst (N := 8) rfl ?_); refine box_event ?hg (N := 8) ?hd (cs := v8 (List.replicate 32 0)) (t := 30) ?hr ?_; (case hd => rfl); (case hg => rfl); (case hr => first | (go_simp; done) | (go_simp; rfl)); intro g8 hg_ w7 hbox_ hb_; have H8 := Aside0.mk hbox_; have HQ7 := Aside0.mk (show B8 w7 g6 24 (xr 92 kb) from blk_below HQ6.out hb_); have HB7 := Aside0.mk (below_step HB6.out hb_); have Hg8 := Aside0.mk (show w.heap.size ≤ g8 ∧ g6 < g8 from by rw [hg_]; exact ⟨HB6.out.size, blk_lt HQ6.out⟩);clear hg_ hbox_ hb_) | ((with_reducible refine gate_store (t := 30) (p := 8) rfl ?_); refine store_row ?hg (ty := 30) (p := 8) (v := ?vr_1) ?ho ?hd (g := g8) (t := 30) (old := v8 (List.replicate 32 0)) (cells := v8 s) ?hx ?hy H8.out (size30 Hsl.out.1) (by rw [v8_size, v8_size, Hsl.out.1, List.length_replicate]) (v8_one _) ?_; (case hd => rfl); (case hg => rfl); (case ho => rfl); (case hx => rfl); (case hy => rfl); intro w8 hbox_ hk_ hb_; have H9 := Aside0.mk (show B8 w8 g8 30 s from hbox_); have HQ8 := Aside0.mk (show B8 w8 g6 24 (xr 92 kb) from (hb_.block g6 Hg8.out.2).trans HQ7.out); have HB8 := Aside0.mk (HB7.out.trans (hb_.mono Hg8.out.1));clear hbox_ hk_ hb_))
      have HT8 := Aside0.mk (HT.out.below HB8.out)
      have HC8 := Aside0.mk (Kd.C_below H.out HB8.out)
      have HCb8 := Aside0.mk (Kd.C_below H2.out HB8.out)
      have HX6 := Aside0.mk (row_read (S := fun _ => False) HQ8.out (fun h => h) (n := 64) (by rw [xr_length, Hkl.out]) (by decide)).now
      have HXs := Aside0.mk (row_read (S := fun _ => False) H9.out (fun h => h) (n := 32) Hsl.out.1 (by decide)).now
      have Hbyp : Aside0 (∀ p ∈ [xr 92 kb, s], Byt p) := ⟨fun p hp => by
        simp only [List.mem_cons, List.not_mem_nil, or_false] at hp
        rcases hp with rfl | rfl
        · exact xr_byt (by decide) Hkbb.out
        · exact Hsl.out.2⟩
      have Hlp : Aside0 ((xr 92 kb).length + s.length ≤ 1000000000) := ⟨by rw [xr_length, Hkl.out, Hsl.out.1]; decide⟩
      have Hb0 : Aside0 (Below w8.heap.size w8 w8.drew) := ⟨below_drew (Below.refl _ _)⟩
      clear H8 HQ7 HB7 HQ6 HB6 HQ8 H9
      refine start_ (S := fun _ => True) (ds := []) #[false, false, false, false, false, false, false, false, false, false, false, false, false] (by kernel_rfl) rfl rfl trivial ?_
      intro hS_
      refine pure_ (i := 0) (a' := ?at1) (v := .slice A n c) #[true, false, false, false, false, false, false, false, false, false, false, false, false] rfl rfl (by kernel_rfl) (fun _ _ _ h => h) (Or.inl ⟨rfl, ?hyt1⟩) ?hat1 ?restt1
      case hyt1 => intro w; first | (go_simp; done) | (go_simp; with_reducible rfl) | (go_simp; rfl)
      case hat1 => go_simp; rfl
      refine pure_ (i := 1) (a' := ?at2) (v := .slice A2 n2 c2) #[true, true, false, false, false, false, false, false, false, false, false, false, false] rfl rfl (by kernel_rfl) (fun _ _ _ h => h) (Or.inl ⟨rfl, ?hyt2⟩) ?hat2 ?restt2
      case hyt2 => intro w; first | (go_simp; done) | (go_simp; with_reducible rfl) | (go_simp; rfl)
      case hat2 => go_simp; rfl
      refine pure_ (i := 4) (a' := ?at3) (v := .slice (some ⟨g6, 0, none⟩) 64 64) #[true, true, false, false, true, false, false, false, false, false, false, false, false] rfl rfl (by kernel_rfl) (fun _ _ _ h => h) (Or.inl ⟨rfl, ?hyt3⟩) ?hat3 ?restt3
      case hyt3 => intro w; first | (go_simp; done) | (go_simp; with_reducible rfl) | (go_simp; rfl)
      case hat3 => go_simp; rfl
      refine pure_ (i := 5) (a' := ?at4) (v := .slice (some ⟨g8, 0, none⟩) 32 32) #[true, true, false, false, true, true, false, false, false, false, false, false, false] rfl rfl (by kernel_rfl) (fun _ _ _ h => h) (Or.inl ⟨rfl, ?hyt4⟩) ?hat4 ?restt4
      case hyt4 => intro w; first | (go_simp; done) | (go_simp; with_reducible rfl) | (go_simp; rfl)
      case hat4 => go_simp; rfl
      refine two_ (i := 2) (j := 6) #[true, true, true, false, true, true, false, false, false, false, false, false, false] #[true, true, false, false, true, true, true, false, false, false, false, false, false] rfl rfl rfl rfl (by kernel_rfl) (by decide) (by decide) ?xt5 ?yt5
      case xt5 =>
        intro K_ hK_
        unfold Shut at hK_
        obtain ⟨b1, hb1⟩ : ∃ b, b = (w8.drew).heap.size := ⟨_, rfl⟩
        obtain ⟨wx1, hx1⟩ : ∃ wx, wx = (w8.drew).alloc (.cells #[.slice A2 n2 c2] 27) := ⟨_, rfl⟩
        have Hb1 := Aside0.mk (show Below w8.heap.size w8 wx1 from by rw [hx1]; exact below_alloc Hb0.out _)
        have HR1 := Aside0.mk (show Rp (fun _ => False) wx1 (some ⟨b1, 0, none⟩) 1 [b] from by rw [hx1, hb1]; exact parts_one (heap_alloc_new _ _) (fun h => h) (Rd.came HCb8.out (below_alloc Hb0.out _) (fun _ hk => hk.elim)) hc2)
        refine value_ (v := .slice (some ⟨b1, 0, none⟩) 1 1) (w1 := wx1) rfl rfl (by subst hx1; subst hb1; (first | (go_simp; done) | (go_simp; rfl))) ?_
        clear hx1 hb1
        refine hK_ _ _ trivial (fun hS_ => ?_)
        clear hK_
        refine norm_ (a' := ?at6) ?hat6 ?restt6
        case hat6 => go_simp; rfl
        refine two_ (i := 3) (j := 6) #[true, true, true, true, true, true, false, false, false, false, false, false, false] #[true, true, true, false, true, true, true, false, false, false, false, false, false] rfl rfl rfl rfl (by kernel_rfl) (by decide) (by decide) ?xt7 ?yt7
        case xt7 =>
          intro K_ hK_
          unfold Shut at hK_
          refine goes_ Tryd.func33 (by kernel_rfl) (by kernel_rfl) #[.slice A n c, .slice (some ⟨b1, 0, none⟩) 1 1] rfl rfl rfl (by go_simp) ?_
          refine (tag_any (ps := [b]) wx1 (HT8.out.below Hb1.out) (Kd.C_below HC8.out Hb1.out) hc Hby.out Hm.out HR1.out (fun p hp => by rw [List.mem_singleton.1 hp]; exact Hby2.out) (by have := Hm2.out; simpa using this)).mono ?_
          rintro e wx2 ⟨rfl, hb6⟩
          rw [Hbs1.out]
          have Hb2 := Aside0.mk (below_step Hb1.out hb6)
          clear hb6
          refine ⟨_, rfl, hK_ _ _ trivial (fun hS_ => ?_)⟩
          clear hK_
          refine norm_ (a' := ?at8) ?hat8 ?restt8
          case hat8 => go_simp; rfl
          refine one_ (i := 6) #[true, true, true, true, true, true, true, false, false, false, false, false, false] rfl rfl (by kernel_rfl) (by decide) ?_
          intro K_ hK_
          unfold Shut at hK_
          obtain ⟨b3, hb3⟩ : ∃ b, b = (wx2).heap.size := ⟨_, rfl⟩
          obtain ⟨wx3, hx3⟩ : ∃ wx, wx = (wx2).alloc (.cells #[.slice (some ⟨g6, 0, none⟩) 64 64, .slice (some ⟨g8, 0, none⟩) 32 32] 27) := ⟨_, rfl⟩
          have Hb3 := Aside0.mk (show Below w8.heap.size w8 wx3 from by rw [hx3]; exact below_alloc Hb2.out _)
          have HR3 := Aside0.mk (show Rp (fun _ => False) wx3 (some ⟨b3, 0, none⟩) 2 [xr 92 kb, s] from by rw [hx3, hb3]; exact parts_two (heap_alloc_new _ _) (fun h => h) (Rd.came HX6.out (below_alloc Hb2.out _) (fun _ hk => hk.elim)) (Nat.le_refl _) (Rd.came HXs.out (below_alloc Hb2.out _) (fun _ hk => hk.elim)) (Nat.le_refl _))
          refine value_ (v := .slice (some ⟨b3, 0, none⟩) 2 2) (w1 := wx3) rfl rfl (by subst hx3; subst hb3; (first | (go_simp; done) | (go_simp; rfl))) ?_
          clear hx3 hb3
          refine hK_ _ _ trivial (fun hS_ => ?_)
          clear hK_
          refine norm_ (a' := ?at10) ?hat10 ?restt10
          case hat10 => go_simp; rfl
          refine one_ (i := 7) #[true, true, true, true, true, true, true, true, false, false, false, false, false] rfl rfl (by kernel_rfl) (by decide) ?_
          intro K_ hK_
          unfold Shut at hK_
          refine goes_ Tryd.func24 (by kernel_rfl) (by kernel_rfl) #[.slice (some ⟨b3, 0, none⟩) 2 2] rfl rfl rfl (by go_simp) ?_
          refine (sum_any (ps := [xr 92 kb, s]) wx3 (HT8.out.below Hb3.out) HR3.out Hbyp.out (by have := Hlp.out; simpa using this)).mono ?_
          rintro e wx4 ⟨rfl, hb6⟩
          rw [Hbs2.out]
          have Hb4 := Aside0.mk (below_step Hb3.out hb6)
          clear hb6
          refine ⟨_, rfl, hK_ _ _ trivial (fun hS_ => ?_)⟩
          clear hK_
          refine norm_ (a' := ?at12) ?hat12 ?restt12
          case hat12 => go_simp; rfl
          refine pure_ (i := 8) (a' := ?at13) (v := .bool true) #[true, true, true, true, true, true, true, true, true, false, false, false, false] rfl rfl (by kernel_rfl) (fun _ _ _ h => h) (Or.inl ⟨rfl, ?hyt13⟩) ?hat13 ?restt13
          case hyt13 => intro w; first | (go_simp; done) | (go_simp; with_reducible rfl) | (go_simp; rfl)
          case hat13 => go_simp; rfl
          refine pure_ (i := 9) (a' := ?at14) (v := .bool true) #[true, true, true, true, true, true, true, true, true, true, false, false, false] rfl rfl (by kernel_rfl) (fun _ _ _ h => h) (Or.inl ⟨rfl, ?hyt14⟩) ?hat14 ?restt14
          case hyt14 => intro w; first | (go_simp; done) | (go_simp; with_reducible rfl) | (go_simp; rfl)
          case hat14 => go_simp; rfl
          refine one_ (i := 10) #[true, true, true, true, true, true, true, true, true, true, true, false, false] rfl rfl (by kernel_rfl) (by decide) ?_
          intro K_ hK_
          unfold Shut at hK_
          refine goes_ Tryd.func36 (by kernel_rfl) (by kernel_rfl) #[] rfl rfl rfl (by go_simp) ?_
          refine (awake03_any _ (HT8.out.below Hb4.out)).mono ?_
          rintro e wx5 ⟨rfl, hb6⟩
          have Hb5 := Aside0.mk (below_step Hb4.out hb6)
          clear hb6
          refine ⟨_, rfl, hK_ _ _ trivial (fun hS_ => ?_)⟩
          clear hK_
          refine norm_ (a' := ?at16) ?hat16 ?restt16
          case hat16 => go_simp; rfl
          refine pure_ (i := 11) (a' := ?at17) (v := .bool true) #[true, true, true, true, true, true, true, true, true, true, true, true, false] rfl rfl (by kernel_rfl) (fun _ _ _ h => h) (Or.inl ⟨rfl, ?hyt17⟩) ?hat17 ?restt17
          case hyt17 => intro w; first | (go_simp; done) | (go_simp; with_reducible rfl) | (go_simp; rfl)
          case hat17 => go_simp; rfl
          refine pure_ (i := 12) (a' := ?at18) (v := .bool true) #[true, true, true, true, true, true, true, true, true, true, true, true, true] rfl rfl (by kernel_rfl) (fun _ _ _ h => h) (Or.inl ⟨rfl, ?hyt18⟩) ?hat18 ?restt18
          case hyt18 => intro w; first | (go_simp; done) | (go_simp; with_reducible rfl) | (go_simp; rfl)
          case hat18 => go_simp; rfl
          refine done_ (by kernel_rfl) ?_
          have HBf := Aside0.mk (HB8.out.trans (Hb5.out.mono HB8.out.size))
          go_wp2_with fail
          go_ret
          exact ⟨rfl, HBf.out⟩
        case yt7 =>
          intro K_ hK_
          unfold Shut at hK_
          obtain ⟨b6, hb6⟩ : ∃ b, b = (wx1).heap.size := ⟨_, rfl⟩
          obtain ⟨wx6, hx6⟩ : ∃ wx, wx = (wx1).alloc (.cells #[.slice (some ⟨g6, 0, none⟩) 64 64, .slice (some ⟨g8, 0, none⟩) 32 32] 27) := ⟨_, rfl⟩
          have Hb6 := Aside0.mk (show Below w8.heap.size w8 wx6 from by rw [hx6]; exact below_alloc Hb1.out _)
          have HR6 := Aside0.mk (show Rp (fun _ => False) wx6 (some ⟨b6, 0, none⟩) 2 [xr 92 kb, s] from by rw [hx6, hb6]; exact parts_two (heap_alloc_new _ _) (fun h => h) (Rd.came HX6.out (below_alloc Hb1.out _) (fun _ hk => hk.elim)) (Nat.le_refl _) (Rd.came HXs.out (below_alloc Hb1.out _) (fun _ hk => hk.elim)) (Nat.le_refl _))
          refine value_ (v := .slice (some ⟨b6, 0, none⟩) 2 2) (w1 := wx6) rfl rfl (by subst hx6; subst hb6; (first | (go_simp; done) | (go_simp; rfl))) ?_
          have HRm := Aside0.mk (HR1.out.move (show Below (wx1).heap.size (wx1) wx6 from by rw [hx6]; exact below_alloc (Below.refl _ _) _))
          clear hx6 hb6
          refine hK_ _ _ trivial (fun hS_ => ?_)
          clear hK_
          refine norm_ (a' := ?at20) ?hat20 ?restt20
          case hat20 => go_simp; rfl
          refine one_ (i := 3) #[true, true, true, true, true, true, true, false, false, false, false, false, false] rfl rfl (by kernel_rfl) (by decide) ?_
          intro K_ hK_
          unfold Shut at hK_
          refine goes_ Tryd.func33 (by kernel_rfl) (by kernel_rfl) #[.slice A n c, .slice (some ⟨b1, 0, none⟩) 1 1] rfl rfl rfl (by go_simp) ?_
          refine (tag_any (ps := [b]) wx6 (HT8.out.below Hb6.out) (Kd.C_below HC8.out Hb6.out) hc Hby.out Hm.out HRm.out (fun p hp => by rw [List.mem_singleton.1 hp]; exact Hby2.out) (by have := Hm2.out; simpa using this)).mono ?_
          rintro e wx7 ⟨rfl, hb6⟩
          rw [Hbs1.out]
          have Hb7 := Aside0.mk (below_step Hb6.out hb6)
          have HRn := Aside0.mk (HR6.out.move hb6)
          clear hb6
          refine ⟨_, rfl, hK_ _ _ trivial (fun hS_ => ?_)⟩
          clear hK_
          refine norm_ (a' := ?at22) ?hat22 ?restt22
          case hat22 => go_simp; rfl
          refine one_ (i := 7) #[true, true, true, true, true, true, true, true, false, false, false, false, false] rfl rfl (by kernel_rfl) (by decide) ?_
          intro K_ hK_
          unfold Shut at hK_
          refine goes_ Tryd.func24 (by kernel_rfl) (by kernel_rfl) #[.slice (some ⟨b6, 0, none⟩) 2 2] rfl rfl rfl (by go_simp) ?_
          refine (sum_any (ps := [xr 92 kb, s]) wx7 (HT8.out.below Hb7.out) HRn.out Hbyp.out (by have := Hlp.out; simpa using this)).mono ?_
          rintro e wx8 ⟨rfl, hb6⟩
          rw [Hbs2.out]
          have Hb8 := Aside0.mk (below_step Hb7.out hb6)
          clear hb6
          refine ⟨_, rfl, hK_ _ _ trivial (fun hS_ => ?_)⟩
          clear hK_
          refine norm_ (a' := ?at24) ?hat24 ?restt24
          case hat24 => go_simp; rfl
          refine pure_ (i := 8) (a' := ?at25) (v := .bool true) #[true, true, true, true, true, true, true, true, true, false, false, false, false] rfl rfl (by kernel_rfl) (fun _ _ _ h => h) (Or.inl ⟨rfl, ?hyt25⟩) ?hat25 ?restt25
          case hyt25 => intro w; first | (go_simp; done) | (go_simp; with_reducible rfl) | (go_simp; rfl)
          case hat25 => go_simp; rfl
          refine pure_ (i := 9) (a' := ?at26) (v := .bool true) #[true, true, true, true, true, true, true, true, true, true, false, false, false] rfl rfl (by kernel_rfl) (fun _ _ _ h => h) (Or.inl ⟨rfl, ?hyt26⟩) ?hat26 ?restt26
          case hyt26 => intro w; first | (go_simp; done) | (go_simp; with_reducible rfl) | (go_simp; rfl)
          case hat26 => go_simp; rfl
          refine one_ (i := 10) #[true, true, true, true, true, true, true, true, true, true, true, false, false] rfl rfl (by kernel_rfl) (by decide) ?_
          intro K_ hK_
          unfold Shut at hK_
          refine goes_ Tryd.func36 (by kernel_rfl) (by kernel_rfl) #[] rfl rfl rfl (by go_simp) ?_
          refine (awake03_any _ (HT8.out.below Hb8.out)).mono ?_
          rintro e wx9 ⟨rfl, hb6⟩
          have Hb9 := Aside0.mk (below_step Hb8.out hb6)
          clear hb6
          refine ⟨_, rfl, hK_ _ _ trivial (fun hS_ => ?_)⟩
          clear hK_
          refine norm_ (a' := ?at28) ?hat28 ?restt28
          case hat28 => go_simp; rfl
          refine pure_ (i := 11) (a' := ?at29) (v := .bool true) #[true, true, true, true, true, true, true, true, true, true, true, true, false] rfl rfl (by kernel_rfl) (fun _ _ _ h => h) (Or.inl ⟨rfl, ?hyt29⟩) ?hat29 ?restt29
          case hyt29 => intro w; first | (go_simp; done) | (go_simp; with_reducible rfl) | (go_simp; rfl)
          case hat29 => go_simp; rfl
          refine pure_ (i := 12) (a' := ?at30) (v := .bool true) #[true, true, true, true, true, true, true, true, true, true, true, true, true] rfl rfl (by kernel_rfl) (fun _ _ _ h => h) (Or.inl ⟨rfl, ?hyt30⟩) ?hat30 ?restt30
          case hyt30 => intro w; first | (go_simp; done) | (go_simp; with_reducible rfl) | (go_simp; rfl)
          case hat30 => go_simp; rfl
          refine done_ (by kernel_rfl) ?_
          have HBf := Aside0.mk (HB8.out.trans (Hb9.out.mono HB8.out.size))
          go_wp2_with fail
          go_ret
          exact ⟨rfl, HBf.out⟩
      case yt5 =>
        intro K_ hK_
        unfold Shut at hK_
        obtain ⟨b10, hb10⟩ : ∃ b, b = (w8.drew).heap.size := ⟨_, rfl⟩
        obtain ⟨wx10, hx10⟩ : ∃ wx, wx = (w8.drew).alloc (.cells #[.slice (some ⟨g6, 0, none⟩) 64 64, .slice (some ⟨g8, 0, none⟩) 32 32] 27) := ⟨_, rfl⟩
        have Hb10 := Aside0.mk (show Below w8.heap.size w8 wx10 from by rw [hx10]; exact below_alloc Hb0.out _)
        have HR10 := Aside0.mk (show Rp (fun _ => False) wx10 (some ⟨b10, 0, none⟩) 2 [xr 92 kb, s] from by rw [hx10, hb10]; exact parts_two (heap_alloc_new _ _) (fun h => h) (Rd.came HX6.out (below_alloc Hb0.out _) (fun _ hk => hk.elim)) (Nat.le_refl _) (Rd.came HXs.out (below_alloc Hb0.out _) (fun _ hk => hk.elim)) (Nat.le_refl _))
        refine value_ (v := .slice (some ⟨b10, 0, none⟩) 2 2) (w1 := wx10) rfl rfl (by subst hx10; subst hb10; (first | (go_simp; done) | (go_simp; rfl))) ?_
        clear hx10 hb10
        refine hK_ _ _ trivial (fun hS_ => ?_)
        clear hK_
        refine norm_ (a' := ?at32) ?hat32 ?restt32
        case hat32 => go_simp; rfl
        refine one_ (i := 2) #[true, true, true, false, true, true, true, false, false, false, false, false, false] rfl rfl (by kernel_rfl) (by decide) ?_
        intro K_ hK_
        unfold Shut at hK_
        obtain ⟨b11, hb11⟩ : ∃ b, b = (wx10).heap.size := ⟨_, rfl⟩
        obtain ⟨wx11, hx11⟩ : ∃ wx, wx = (wx10).alloc (.cells #[.slice A2 n2 c2] 27) := ⟨_, rfl⟩
        have Hb11 := Aside0.mk (show Below w8.heap.size w8 wx11 from by rw [hx11]; exact below_alloc Hb10.out _)
        have HR11 := Aside0.mk (show Rp (fun _ => False) wx11 (some ⟨b11, 0, none⟩) 1 [b] from by rw [hx11, hb11]; exact parts_one (heap_alloc_new _ _) (fun h => h) (Rd.came HCb8.out (below_alloc Hb10.out _) (fun _ hk => hk.elim)) hc2)
        refine value_ (v := .slice (some ⟨b11, 0, none⟩) 1 1) (w1 := wx11) rfl rfl (by subst hx11; subst hb11; (first | (go_simp; done) | (go_simp; rfl))) ?_
        have HRm := Aside0.mk (HR10.out.move (show Below (wx10).heap.size (wx10) wx11 from by rw [hx11]; exact below_alloc (Below.refl _ _) _))
        clear hx11 hb11
        refine hK_ _ _ trivial (fun hS_ => ?_)
        clear hK_
        refine norm_ (a' := ?at34) ?hat34 ?restt34
        case hat34 => go_simp; rfl
        refine one_ (i := 3) #[true, true, true, true, true, true, true, false, false, false, false, false, false] rfl rfl (by kernel_rfl) (by decide) ?_
        intro K_ hK_
        unfold Shut at hK_
        refine goes_ Tryd.func33 (by kernel_rfl) (by kernel_rfl) #[.slice A n c, .slice (some ⟨b11, 0, none⟩) 1 1] rfl rfl rfl (by go_simp) ?_
        refine (tag_any (ps := [b]) wx11 (HT8.out.below Hb11.out) (Kd.C_below HC8.out Hb11.out) hc Hby.out Hm.out HR11.out (fun p hp => by rw [List.mem_singleton.1 hp]; exact Hby2.out) (by have := Hm2.out; simpa using this)).mono ?_
        rintro e wx12 ⟨rfl, hb6⟩
        rw [Hbs1.out]
        have Hb12 := Aside0.mk (below_step Hb11.out hb6)
        have HRn := Aside0.mk (HRm.out.move hb6)
        clear hb6
        refine ⟨_, rfl, hK_ _ _ trivial (fun hS_ => ?_)⟩
        clear hK_
        refine norm_ (a' := ?at36) ?hat36 ?restt36
        case hat36 => go_simp; rfl
        refine one_ (i := 7) #[true, true, true, true, true, true, true, true, false, false, false, false, false] rfl rfl (by kernel_rfl) (by decide) ?_
        intro K_ hK_
        unfold Shut at hK_
        refine goes_ Tryd.func24 (by kernel_rfl) (by kernel_rfl) #[.slice (some ⟨b10, 0, none⟩) 2 2] rfl rfl rfl (by go_simp) ?_
        refine (sum_any (ps := [xr 92 kb, s]) wx12 (HT8.out.below Hb12.out) HRn.out Hbyp.out (by have := Hlp.out; simpa using this)).mono ?_
        rintro e wx13 ⟨rfl, hb6⟩
        rw [Hbs2.out]
        have Hb13 := Aside0.mk (below_step Hb12.out hb6)
        clear hb6
        refine ⟨_, rfl, hK_ _ _ trivial (fun hS_ => ?_)⟩
        clear hK_
        refine norm_ (a' := ?at38) ?hat38 ?restt38
        case hat38 => go_simp; rfl
        refine pure_ (i := 8) (a' := ?at39) (v := .bool true) #[true, true, true, true, true, true, true, true, true, false, false, false, false] rfl rfl (by kernel_rfl) (fun _ _ _ h => h) (Or.inl ⟨rfl, ?hyt39⟩) ?hat39 ?restt39
        case hyt39 => intro w; first | (go_simp; done) | (go_simp; with_reducible rfl) | (go_simp; rfl)
        case hat39 => go_simp; rfl
        refine pure_ (i := 9) (a' := ?at40) (v := .bool true) #[true, true, true, true, true, true, true, true, true, true, false, false, false] rfl rfl (by kernel_rfl) (fun _ _ _ h => h) (Or.inl ⟨rfl, ?hyt40⟩) ?hat40 ?restt40
        case hyt40 => intro w; first | (go_simp; done) | (go_simp; with_reducible rfl) | (go_simp; rfl)
        case hat40 => go_simp; rfl
        refine one_ (i := 10) #[true, true, true, true, true, true, true, true, true, true, true, false, false] rfl rfl (by kernel_rfl) (by decide) ?_
        intro K_ hK_
        unfold Shut at hK_
        refine goes_ Tryd.func36 (by kernel_rfl) (by kernel_rfl) #[] rfl rfl rfl (by go_simp) ?_
        refine (awake03_any _ (HT8.out.below Hb13.out)).mono ?_
        rintro e wx14 ⟨rfl, hb6⟩
        have Hb14 := Aside0.mk (below_step Hb13.out hb6)
        clear hb6
        refine ⟨_, rfl, hK_ _ _ trivial (fun hS_ => ?_)⟩
        clear hK_
        refine norm_ (a' := ?at42) ?hat42 ?restt42
        case hat42 => go_simp; rfl
        refine pure_ (i := 11) (a' := ?at43) (v := .bool true) #[true, true, true, true, true, true, true, true, true, true, true, true, false] rfl rfl (by kernel_rfl) (fun _ _ _ h => h) (Or.inl ⟨rfl, ?hyt43⟩) ?hat43 ?restt43
        case hyt43 => intro w; first | (go_simp; done) | (go_simp; with_reducible rfl) | (go_simp; rfl)
        case hat43 => go_simp; rfl
        refine pure_ (i := 12) (a' := ?at44) (v := .bool true) #[true, true, true, true, true, true, true, true, true, true, true, true, true] rfl rfl (by kernel_rfl) (fun _ _ _ h => h) (Or.inl ⟨rfl, ?hyt44⟩) ?hat44 ?restt44
        case hyt44 => intro w; first | (go_simp; done) | (go_simp; with_reducible rfl) | (go_simp; rfl)
        case hat44 => go_simp; rfl
        refine done_ (by kernel_rfl) ?_
        have HBf := Aside0.mk (HB8.out.trans (Hb14.out.mono HB8.out.size))
        go_wp2_with fail
        go_ret
        exact ⟨rfl, HBf.out⟩
end Go.Proofs.YtpigkgnmegpddaaDoor.Sh
