/-
mac.Make, walked.
-/
import Derived.Test.YtpigkgnmegpddaaDoorLa
import Derived.Test.YtpigkgnmegpddaaDoorMp
import Derived.BigRegion
namespace Go.Proofs.YtpigkgnmegpddaaDoor.Sh
set_option linter.unusedVariables false
set_option linter.unusedSimpArgs false
open Go.RowKit Go.Proofs.YtpigkgnmegpddaaDoorW.PrintWords Go.Proofs.YtpigkgnmegpddaaDoorW.PrintLast Go.Proofs.YtpigkgnmegpddaaDoorW.PrintMore

/-- A place where the walk stops. -/
def Hold (p : Prop) : Prop := p
theorem hold_ {p : Prop} (h : Hold p) : p := h
/-- A key that lies in block g. -/
def Kk (W : World) (g : Nat) (kb : List Int) : Prop := B8 W g 95 (xr 54 kb ++ xr 92 kb)
theorem splice_map (zs xs : List Int) (off : Nat) : splice (zs.map (Value.int .u8)) off (xs.map (Value.int .u8)) = (zs.take off ++ xs ++ zs.drop (off + xs.length)).map (Value.int .u8) := by
  simp [splice, List.map_take, List.map_drop]
/-- While the two blocks are turned: so many bytes are done. -/
def turnedK (kb : List Int) (i : Nat) : List Int := (xr 54 (kb.take i) ++ kb.drop i) ++ (xr 92 (kb.take i) ++ kb.drop i)
def turnedH (kb : List Int) (i : Nat) : List Int := (xr 54 (kb.take (i + 1)) ++ kb.drop (i + 1)) ++ (xr 92 (kb.take i) ++ kb.drop i)
theorem half_length (k : Int) (kb : List Int) (i : Nat) (h : kb.length = 64) : (xr k (kb.take i) ++ kb.drop i).length = 64 := by
  simp [xr_length, h]
  omega
theorem turnedK_length {kb : List Int} (h : kb.length = 64) (i : Nat) : (turnedK kb i).length = 128 := by
  unfold turnedK
  rw [List.length_append, half_length _ _ _ h, half_length _ _ _ h]
theorem turnedH_length {kb : List Int} (h : kb.length = 64) (i : Nat) : (turnedH kb i).length = 128 := by
  unfold turnedH
  rw [List.length_append, half_length _ _ _ h, half_length _ _ _ h]
theorem half_get (k : Int) {kb : List Int} {i : Nat} (h : kb.length = 64) (hi : i < 64) : (xr k (kb.take i) ++ kb.drop i).getD i 0 = kb.getD i 0 := by
  rw [List.getD_eq_getElem?_getD, List.getElem?_append_right (by simp [xr_length, h]; omega)]
  simp only [xr_length, List.length_take, h, List.getElem?_drop]
  rw [show i + (i - min i 64) = i from by omega, List.getD_eq_getElem?_getD]
theorem half_set (k : Int) {kb : List Int} {i : Nat} (h : kb.length = 64) (hi : i < 64) : (xr k (kb.take i) ++ kb.drop i).set i (xo (kb.getD i 0) k) = xr k (kb.take (i + 1)) ++ kb.drop (i + 1) := by
  have hl : (xr k (kb.take i)).length = i := by simp [xr_length, h]; omega
  have hik : i < kb.length := by omega
  rw [List.set_append_right _ _ (by omega), hl, Nat.sub_self, List.drop_eq_getElem_cons hik, List.set_cons_zero, List.take_succ_eq_append_getElem hik]
  simp only [xr, List.map_append, List.map_cons, List.map_nil, List.append_assoc, List.cons_append, List.nil_append]
  rw [List.getD_eq_getElem?_getD, List.getElem?_eq_getElem hik]
  rfl
theorem turnedK_get {kb : List Int} (h : kb.length = 64) {i : Nat} (hi : i < 64) : (turnedK kb i).getD i 0 = kb.getD i 0 := by
  unfold turnedK
  rw [List.getD_eq_getElem?_getD, List.getElem?_append_left (by rw [half_length _ _ _ h]; exact hi), ← List.getD_eq_getElem?_getD]
  exact half_get 54 h hi
theorem turnedK_set {kb : List Int} (h : kb.length = 64) {i : Nat} (hi : i < 64) : (turnedK kb i).set i (xo (kb.getD i 0) 54) = turnedH kb i := by
  unfold turnedK turnedH
  rw [List.set_append_left _ _ (by rw [half_length _ _ _ h]; exact hi), half_set 54 h hi]
theorem turnedH_get {kb : List Int} (h : kb.length = 64) {i : Nat} (hi : i < 64) : (turnedH kb i).getD (64 + i) 0 = kb.getD i 0 := by
  unfold turnedH
  rw [List.getD_eq_getElem?_getD, List.getElem?_append_right (by rw [half_length _ _ _ h]; omega), half_length _ _ _ h, show 64 + i - 64 = i from by omega, ← List.getD_eq_getElem?_getD]
  exact half_get 92 h hi
theorem turnedH_set {kb : List Int} (h : kb.length = 64) {i : Nat} (hi : i < 64) : (turnedH kb i).set (64 + i) (xo (kb.getD i 0) 92) = turnedK kb (i + 1) := by
  unfold turnedK turnedH
  rw [List.set_append_right _ _ (by rw [half_length _ _ _ h]; omega), half_length _ _ _ h, show 64 + i - 64 = i from by omega, half_set 92 h hi]
theorem turnedK_zero (kb : List Int) : turnedK kb 0 = kb ++ kb := by simp [turnedK, xr]
theorem turnedK_all {kb : List Int} (h : kb.length = 64) : turnedK kb 64 = xr 54 kb ++ xr 92 kb := by
  unfold turnedK
  rw [List.take_of_length_le (by omega), List.drop_eq_nil_of_le (by omega), List.append_nil, List.append_nil]
theorem copy_one (kc : List Int) (h : kc.length ≤ 64) : (List.replicate 128 (0 : Int)).take 0 ++ kc ++ (List.replicate 128 0).drop (0 + kc.length) = (kc ++ List.replicate (64 - kc.length) 0) ++ List.replicate 64 0 := by
  rw [List.take_zero, List.nil_append, List.drop_replicate, List.append_assoc, List.replicate_append_replicate]
  congr 2
  omega
theorem copy_two (kc : List Int) (h : kc.length ≤ 64) : ((kc ++ List.replicate (64 - kc.length) (0 : Int)) ++ List.replicate 64 0).take 64 ++ kc ++ ((kc ++ List.replicate (64 - kc.length) 0) ++ List.replicate 64 0).drop (64 + kc.length) = (kc ++ List.replicate (64 - kc.length) 0) ++ (kc ++ List.replicate (64 - kc.length) 0) := by
  have hl : (kc ++ List.replicate (64 - kc.length) (0 : Int)).length = 64 := by rw [List.length_append, List.length_replicate]; omega
  rw [List.take_left' hl, ← List.drop_drop, List.drop_left' hl, List.drop_replicate, List.append_assoc]
theorem info5s : (Tryd.prog.info? 5).map (·.size) = some 1 := by kernel_rfl
/-- What is copied. -/
theorem copy_src {W : World} {A : Option Addr} {n : Nat} {xs : List Int} (h : (Kd.int .u8).C W A n xs) : 0 < (xs.map (Value.int .u8)).length → ∃ ad, A = some ad ∧ ∀ j v, (xs.map (Value.int .u8))[j]? = some v → W.cell? (ad.add j) = some v := fun hp => by
  have hn := h.1
  obtain ⟨ad, rfl⟩ := C_some h (by simp at hp; omega)
  refine ⟨ad, rfl, fun j v hv => ?_⟩
  have hj : j < xs.length := by have := (List.getElem?_eq_some_iff.1 hv).1; simpa using this
  rw [C_cell h rfl j (by omega), ← hv]
  simp [List.getD_eq_getElem?_getD, hj]
theorem ints_one (xs : List Int) : ∀ v ∈ xs.map (Value.int .u8), v.oneCell' = true := by
  intro v hv
  obtain ⟨x, _, rfl⟩ := List.mem_map.1 hv
  rfl
theorem C_block_lt {W : World} {A : Option Addr} {n : Nat} {xs : List Int} (h : (Kd.int .u8).C W A n xs) : ∀ ad, A = some ad → 0 < n → ad.block ≠ W.heap.size := fun ad he hp e => by
  have h1 := World.block_lt_of_cell? _ _ (C_cell h he 0 hp)
  rw [add_block] at h1
  omega
set_option maxRecDepth 100000 in
set_option maxHeartbeats 4000000 in
theorem make_any {A : Option Addr} {n c : Nat} {key : List Int} (w : World) (hT : Tab w) (hC : (Kd.int .u8).C w A n key) (hc : n ≤ c) (hby : Byt key) (hm : key.length ≤ 1000000000) :
    Calls Tryd.prog 34 #[.slice A n c] w fun e w' => ∃ g, e = .returned (.pointer (some ⟨g, 0, none⟩)) ∧ Kk w' g (kbl key) ∧ w.heap.size ≤ g ∧ Below w.heap.size w w' := by
  have hu30 := Tryd.underlying30
  obtain rfl := hC.1
  have hnm := hC.2.1
  have H := Aside0.mk hC
  have HT := Aside0.mk hT
  have Hby := Aside0.mk hby
  clear hC hT hby
  obtain ⟨kb, hkb⟩ : ∃ kb, kb = kbl key := ⟨_, rfl⟩
  have Hkl : Aside0 (kb.length = 64) := ⟨by rw [hkb, kbl_length]⟩
  rw [← hkb]
  by_cases h64 : 64 < key.length
  · obtain ⟨kc, hkc⟩ : ∃ kc, kc = kcut key := ⟨_, rfl⟩
    have hkc2 : kc = sum key := by rw [hkc, kcut, if_pos h64]
    have Hkb : Aside0 (kb = kc ++ List.replicate (64 - kc.length) 0) := ⟨by rw [hkb, hkc, kbl]⟩
    have Hkn : Aside0 (kc.length = 32) := ⟨by rw [hkc2]; rfl⟩
    have Hkn64 : Aside0 (32 ≤ 64) := ⟨by omega⟩
    have Hkc := Aside0.mk hkc2
    clear hkb hkc hkc2
    go_enter Tryd.func34, Tryd.ntmps34
    go_wp2_with fail
    refine (sum_one (xs := key) HT.out H.out hc Hby.out hm rfl).mono ?_
    rintro e w2 ⟨rfl, hb2⟩
    rw [← Hkc.out]
    have HB2 := Aside0.mk hb2
    clear hb2
    obtain ⟨w0, hw0⟩ : ∃ w0 : World, True := ⟨w2, trivial⟩
    clear hw0 w0
    go_wp2_with (first | ((with_reducible refine gate_dst (N := 3) rfl ?_); refine box_event ?hg (N := 3) ?hd (cs := v8 (List.replicate 32 0)) (t := 30) ?hr ?_; (case hd => rfl); (case hg => rfl); (case hr => first | (go_simp; done) | (go_simp; rfl)); intro g3 hg_ w3 hbox_ hb_; have H3 := Aside0.mk hbox_; have HB3 := Aside0.mk (below_step HB2.out hb_); have Hg3 := Aside0.mk (show w.heap.size ≤ g3 from by rw [hg_]; exact HB2.out.size);clear hg_ hbox_ hb_) | ((with_reducible refine gate_store (t := 30) (p := 3) rfl ?_); refine store_row ?hg (ty := 30) (p := 3) (v := ?vr_1) ?ho ?hd (g := g3) (t := 30) (old := v8 (List.replicate 32 0)) (cells := v8 kc) ?hx ?hy H3.out (size30 Hkn.out) (by rw [v8_size, v8_size, Hkn.out, List.length_replicate]) (v8_one _) ?_; (case hd => rfl); (case hg => rfl); (case ho => rfl); (case hx => rfl); (case hy => rfl); intro w0 hbox_ hk_ hb_; have HR := Aside0.mk hbox_; have HB := Aside0.mk (HB3.out.trans (hb_.mono Hg3.out)); have HC := Aside0.mk (Rd.block (S := fun _ => False) (o := 0) hbox_ (fun h => h) Hkn.out (by omega) (fun j hj => by rw [Nat.zero_add]; exact v8_get (l := kc) (by rw [Hkn.out]; exact hj))).now;clear hbox_ hk_ hb_) | ((with_reducible refine gate_dst (N := 13) rfl ?_); refine hold_ ?_))
    unfold Hold
    clear HB2 HB3 H3 HR
    go_wp2_with (first | ((with_reducible refine gate_dst (N := 14) rfl ?_); refine box_event ?hg (N := 14) ?hd (cs := v8 (List.replicate 128 0)) (t := 95) ?hr ?_; (case hd => rfl); (case hg => rfl); (case hr => first | (go_simp; done) | (go_simp; rfl)); intro g hg_ wk hbox_ hb_; have HK := Aside0.mk hbox_; have HBk := Aside0.mk (below_step HB.out hb_); have Hbk := Aside0.mk hb_; have Hg := Aside0.mk (show w.heap.size ≤ g ∧ g = w0.heap.size from ⟨by rw [hg_]; exact HB.out.size, hg_⟩);clear hg_ hbox_ hb_) | ((with_reducible refine gate_builtin (b := .copy) (xs := #[.tmp 18, .tmp 19]) rfl ?_); refine hold_ ?_))
    unfold Hold
    refine wpList_copy_splice rfl (.tmp 18) (.tmp 19) 27 27 rfl 5 Tryd.underlying27 info5s (some ⟨g, 0, none⟩) (some ⟨g3, 0, none⟩) 64 64 32 32 rfl rfl g 0 ((List.replicate 128 (0 : Int)).map (Value.int .u8)) 95 HK.out (kc.map (Value.int .u8)) (by rw [List.length_map, Hkn.out]; exact (Nat.min_eq_left Hkn64.out).symm) (fun hp => ⟨rfl, copy_src (Kd.C_below HC.out Hbk.out) hp⟩) (by simp; have := Hkn64.out; have := Hkn.out; omega) (ints_one kc) g wk (Below.refl _ _) (Nat.le_refl _) ?_
    intro w5 h5 hb5
    have H5 : Aside0 (B8 w5 g 95 ((kc ++ List.replicate (64 - kc.length) 0) ++ List.replicate 64 0)) := ⟨by
      have h := h5.out
      rw [splice_map, copy_one kc (by rw [Hkn.out]; exact Hkn64.out)] at h
      exact h⟩
    have HC5 : Aside0 ((Kd.int .u8).C w5 (some ⟨g3, 0, none⟩) 32 kc) := ⟨(Kd.heap_int .u8).C (fun k hk => (hb5.block k (by rw [Hg.out.2]; exact hk)).trans (Hbk.out.block k hk)) HC.out⟩
    have HB5 := Aside0.mk (HBk.out.trans (hb5.mono Hg.out.1))
    clear h5 hb5 HK HBk
    go_wp2_with (first | ((with_reducible refine gate_builtin (b := .copy) (xs := #[.tmp 24, .tmp 25]) rfl ?_); refine hold_ ?_))
    unfold Hold
    refine wpList_copy_splice rfl (.tmp 24) (.tmp 25) 27 27 rfl 5 Tryd.underlying27 info5s (some ⟨g, 64, none⟩) (some ⟨g3, 0, none⟩) 64 64 32 32 rfl rfl g 64 (((kc ++ List.replicate (64 - kc.length) 0) ++ List.replicate 64 0 : List Int).map (Value.int .u8)) 95 (show w5.heap[g]? = some (.cells (((kc ++ List.replicate (64 - kc.length) 0) ++ List.replicate 64 0 : List Int).map (Value.int .u8)).toArray 95 (0, 0)) from H5.out) (kc.map (Value.int .u8)) (by rw [List.length_map, Hkn.out]; exact (Nat.min_eq_left Hkn64.out).symm) (fun hp => ⟨rfl, copy_src HC5.out hp⟩) (by simp; have := Hkn64.out; have := Hkn.out; omega) (ints_one kc) g w5 (Below.refl _ _) (Nat.le_refl _) ?_
    intro w6 h6 hb6
    have H6 : Aside0 (B8 w6 g 95 (turnedK kb 0)) := ⟨by
      have h := h6.out
      rw [splice_map, copy_two kc (by rw [Hkn.out]; exact Hkn64.out)] at h
      rw [turnedK_zero, Hkb.out]
      exact h⟩
    have HB6 := Aside0.mk (HB5.out.trans (hb6.mono Hg.out.1))
    clear h6 hb6 H5 HB5 HC5 Hbk HC HB
    go_wp2_with fail
    go_loopg [27] 64 (fun gk iv wr => ∃ i : Nat, i + gk = 64 ∧ iv = .int .i64 i ∧ Aside0 (B8 wr g 95 (turnedK kb i)) ∧ Aside0 (Below w.heap.size w wr))
    case atStart => exact ⟨0, by omega, rfl, H6, HB6⟩
    case round =>
      clear H6 HB6
      obtain ⟨i, hi, rfl, HK, HB⟩ := hrel
      by_cases hlt : i < 64
      · obtain ⟨gq, rfl⟩ : ∃ gq, gk = gq + 1 := ⟨gk - 1, by omega⟩
        have hx := (blk_cell HK.out i).trans (v8_get (l := turnedK kb i) (by rw [turnedK_length Hkl.out]; omega))
        rw [turnedK_get Hkl.out hlt] at hx
        have hf := blk_frozen HK.out i
        obtain ⟨x, hxe⟩ : ∃ x, x = kb.getD i 0 := ⟨_, rfl⟩
        rw [← hxe] at hx
        have Hxe := Aside0.mk hxe
        clear hxe
        have p1 : (0 : Int) ≤ (i : Int) := by omega
        have p2 : (i : Int) < 64 := by omega
        go_wp2_with fail
        go_region
        have HK7 : Aside0 (B8 (wr.setCell ⟨g, i, none⟩ (.int .u8 (Go.bits .xor .u8 x 54))).drew g 95 (turnedH kb i)) := ⟨by
          have h := HK.out.set i (xo (kb.getD i 0) 54)
          rw [turnedK_set Hkl.out hlt, ← Hxe.out] at h
          exact h⟩
        have HB7 : Aside0 (Below w.heap.size w (wr.setCell ⟨g, i, none⟩ (.int .u8 (Go.bits .xor .u8 x 54))).drew) := ⟨below_drew (HB.out.setCell (p := ⟨g, i, none⟩) Hg.out.1 _)⟩
        obtain ⟨w7, hw7⟩ : ∃ w7, w7 = (wr.setCell ⟨g, i, none⟩ (.int .u8 (Go.bits .xor .u8 x 54))).drew := ⟨_, rfl⟩
        rw [← hw7] at HK7 HB7 ⊢
        clear hw7 HK HB hx hf
        have hx := (blk_cell HK7.out (64 + i)).trans (v8_get (l := turnedH kb i) (by rw [turnedH_length Hkl.out]; omega))
        rw [turnedH_get Hkl.out hlt, ← Hxe.out] at hx
        have hf := blk_frozen HK7.out (64 + i)
        go_wp2_with fail
        go_region
        have HK8 : Aside0 (B8 (w7.setCell ⟨g, 64 + i, none⟩ (.int .u8 (Go.bits .xor .u8 x 92))).drew g 95 (turnedK kb (i + 1))) := ⟨by
          have h := HK7.out.set (64 + i) (xo (kb.getD i 0) 92)
          rw [turnedH_set Hkl.out hlt, ← Hxe.out] at h
          exact h⟩
        have HB8 : Aside0 (Below w.heap.size w (w7.setCell ⟨g, 64 + i, none⟩ (.int .u8 (Go.bits .xor .u8 x 92))).drew) := ⟨below_drew (HB7.out.setCell (p := ⟨g, 64 + i, none⟩) Hg.out.1 _)⟩
        clear HK7 HB7 hx hf
        go_wp2_with fail
        go_roundg gq
        case measure => omega
        case rel => exact ⟨i + 1, by omega, by go_num, HK8, HB8⟩
      · have hi64 : i = 64 := by omega
        subst hi64
        go_wp2_with fail
        go_ret
        exact ⟨g, rfl, by unfold Kk; rw [← turnedK_all Hkl.out]; exact HK.out, Hg.out.1, HB.out⟩
  · have hkc2 : kcut key = key := by rw [kcut, if_neg h64]
    obtain ⟨kc, hkc⟩ : ∃ kc, kc = key := ⟨_, rfl⟩
    have Hkb : Aside0 (kb = kc ++ List.replicate (64 - kc.length) 0) := ⟨by rw [hkb, kbl, hkc2, hkc]⟩
    obtain ⟨n, hn⟩ : ∃ n, n = key.length := ⟨_, rfl⟩
    have Hkn : Aside0 (kc.length = n) := ⟨by rw [hkc, hn]⟩
    have Hkn64 : Aside0 (n ≤ 64) := ⟨by omega⟩
    have HC : Aside0 ((Kd.int .u8).C w A n kc) := ⟨by rw [hkc, hn]; exact H.out⟩
    have HB : Aside0 (Below w.heap.size w w) := ⟨Below.refl _ _⟩
    have hn64 : n ≤ 64 := by omega
    rw [← hn] at hnm ⊢
    clear hkb hkc2 hkc hn h64 H
    go_enter Tryd.func34, Tryd.ntmps34
    go_wp2_with (first | ((with_reducible refine gate_dst (N := 13) rfl ?_); refine hold_ ?_))
    unfold Hold
    go_wp2_with (first | ((with_reducible refine gate_dst (N := 14) rfl ?_); refine box_event ?hg (N := 14) ?hd (cs := v8 (List.replicate 128 0)) (t := 95) ?hr ?_; (case hd => rfl); (case hg => rfl); (case hr => first | (go_simp; done) | (go_simp; rfl)); intro g hg_ wk hbox_ hb_; have HK := Aside0.mk hbox_; have HBk := Aside0.mk (below_step HB.out hb_); have Hbk := Aside0.mk hb_; have Hg := Aside0.mk (show w.heap.size ≤ g ∧ g = w.heap.size from ⟨by rw [hg_]; exact HB.out.size, hg_⟩);clear hg_ hbox_ hb_) | ((with_reducible refine gate_builtin (b := .copy) (xs := #[.tmp 18, .tmp 19]) rfl ?_); refine hold_ ?_))
    unfold Hold
    refine wpList_copy_splice rfl (.tmp 18) (.tmp 19) 27 27 rfl 5 Tryd.underlying27 info5s (some ⟨g, 0, none⟩) A 64 64 n c rfl rfl g 0 ((List.replicate 128 (0 : Int)).map (Value.int .u8)) 95 HK.out (kc.map (Value.int .u8)) (by rw [List.length_map, Hkn.out]; exact (Nat.min_eq_left Hkn64.out).symm) (fun hp => ⟨rfl, copy_src (Kd.C_below HC.out Hbk.out) hp⟩) (by simp; have := Hkn64.out; have := Hkn.out; omega) (ints_one kc) g wk (Below.refl _ _) (Nat.le_refl _) ?_
    intro w5 h5 hb5
    have H5 : Aside0 (B8 w5 g 95 ((kc ++ List.replicate (64 - kc.length) 0) ++ List.replicate 64 0)) := ⟨by
      have h := h5.out
      rw [splice_map, copy_one kc (by rw [Hkn.out]; exact Hkn64.out)] at h
      exact h⟩
    have HC5 : Aside0 ((Kd.int .u8).C w5 A n kc) := ⟨(Kd.heap_int .u8).C (fun k hk => (hb5.block k (by rw [Hg.out.2]; exact hk)).trans (Hbk.out.block k hk)) HC.out⟩
    have HB5 := Aside0.mk (HBk.out.trans (hb5.mono Hg.out.1))
    clear h5 hb5 HK HBk
    go_wp2_with (first | ((with_reducible refine gate_builtin (b := .copy) (xs := #[.tmp 24, .tmp 25]) rfl ?_); refine hold_ ?_))
    unfold Hold
    refine wpList_copy_splice rfl (.tmp 24) (.tmp 25) 27 27 rfl 5 Tryd.underlying27 info5s (some ⟨g, 64, none⟩) A 64 64 n c rfl rfl g 64 (((kc ++ List.replicate (64 - kc.length) 0) ++ List.replicate 64 0 : List Int).map (Value.int .u8)) 95 (show w5.heap[g]? = some (.cells (((kc ++ List.replicate (64 - kc.length) 0) ++ List.replicate 64 0 : List Int).map (Value.int .u8)).toArray 95 (0, 0)) from H5.out) (kc.map (Value.int .u8)) (by rw [List.length_map, Hkn.out]; exact (Nat.min_eq_left Hkn64.out).symm) (fun hp => ⟨rfl, copy_src HC5.out hp⟩) (by simp; have := Hkn64.out; have := Hkn.out; omega) (ints_one kc) g w5 (Below.refl _ _) (Nat.le_refl _) ?_
    intro w6 h6 hb6
    have H6 : Aside0 (B8 w6 g 95 (turnedK kb 0)) := ⟨by
      have h := h6.out
      rw [splice_map, copy_two kc (by rw [Hkn.out]; exact Hkn64.out)] at h
      rw [turnedK_zero, Hkb.out]
      exact h⟩
    have HB6 := Aside0.mk (HB5.out.trans (hb6.mono Hg.out.1))
    clear h6 hb6 H5 HB5 HC5 Hbk HC HB
    go_wp2_with fail
    go_loopg [27] 64 (fun gk iv wr => ∃ i : Nat, i + gk = 64 ∧ iv = .int .i64 i ∧ Aside0 (B8 wr g 95 (turnedK kb i)) ∧ Aside0 (Below w.heap.size w wr))
    case atStart => exact ⟨0, by omega, rfl, H6, HB6⟩
    case round =>
      clear H6 HB6
      obtain ⟨i, hi, rfl, HK, HB⟩ := hrel
      by_cases hlt : i < 64
      · obtain ⟨gq, rfl⟩ : ∃ gq, gk = gq + 1 := ⟨gk - 1, by omega⟩
        have hx := (blk_cell HK.out i).trans (v8_get (l := turnedK kb i) (by rw [turnedK_length Hkl.out]; omega))
        rw [turnedK_get Hkl.out hlt] at hx
        have hf := blk_frozen HK.out i
        obtain ⟨x, hxe⟩ : ∃ x, x = kb.getD i 0 := ⟨_, rfl⟩
        rw [← hxe] at hx
        have Hxe := Aside0.mk hxe
        clear hxe
        have p1 : (0 : Int) ≤ (i : Int) := by omega
        have p2 : (i : Int) < 64 := by omega
        go_wp2_with fail
        go_region
        have HK7 : Aside0 (B8 (wr.setCell ⟨g, i, none⟩ (.int .u8 (Go.bits .xor .u8 x 54))).drew g 95 (turnedH kb i)) := ⟨by
          have h := HK.out.set i (xo (kb.getD i 0) 54)
          rw [turnedK_set Hkl.out hlt, ← Hxe.out] at h
          exact h⟩
        have HB7 : Aside0 (Below w.heap.size w (wr.setCell ⟨g, i, none⟩ (.int .u8 (Go.bits .xor .u8 x 54))).drew) := ⟨below_drew (HB.out.setCell (p := ⟨g, i, none⟩) Hg.out.1 _)⟩
        obtain ⟨w7, hw7⟩ : ∃ w7, w7 = (wr.setCell ⟨g, i, none⟩ (.int .u8 (Go.bits .xor .u8 x 54))).drew := ⟨_, rfl⟩
        rw [← hw7] at HK7 HB7 ⊢
        clear hw7 HK HB hx hf
        have hx := (blk_cell HK7.out (64 + i)).trans (v8_get (l := turnedH kb i) (by rw [turnedH_length Hkl.out]; omega))
        rw [turnedH_get Hkl.out hlt, ← Hxe.out] at hx
        have hf := blk_frozen HK7.out (64 + i)
        go_wp2_with fail
        go_region
        have HK8 : Aside0 (B8 (w7.setCell ⟨g, 64 + i, none⟩ (.int .u8 (Go.bits .xor .u8 x 92))).drew g 95 (turnedK kb (i + 1))) := ⟨by
          have h := HK7.out.set (64 + i) (xo (kb.getD i 0) 92)
          rw [turnedH_set Hkl.out hlt, ← Hxe.out] at h
          exact h⟩
        have HB8 : Aside0 (Below w.heap.size w (w7.setCell ⟨g, 64 + i, none⟩ (.int .u8 (Go.bits .xor .u8 x 92))).drew) := ⟨below_drew (HB7.out.setCell (p := ⟨g, 64 + i, none⟩) Hg.out.1 _)⟩
        clear HK7 HB7 hx hf
        go_wp2_with fail
        go_roundg gq
        case measure => omega
        case rel => exact ⟨i + 1, by omega, by go_num, HK8, HB8⟩
      · have hi64 : i = 64 := by omega
        subst hi64
        go_wp2_with fail
        go_ret
        exact ⟨g, rfl, by unfold Kk; rw [← turnedK_all Hkl.out]; exact HK.out, Hg.out.1, HB.out⟩
end Go.Proofs.YtpigkgnmegpddaaDoor.Sh
