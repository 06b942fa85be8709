/-
The sum so far: (*Hash).Sum.
-/
import Derived.Test.YtpigkgnmegpddaaDoorSh
import Derived.Test.YtpigkgnmegpddaaDoorSi
namespace Go.Proofs.YtpigkgnmegpddaaDoor.Sh
set_option linter.unusedVariables false
set_option linter.unusedSimpArgs false
open Go.RowKit Go.Proofs.YtpigkgnmegpddaaDoorW.PrintWords Go.Proofs.YtpigkgnmegpddaaDoorW.PrintLast Go.Proofs.YtpigkgnmegpddaaDoorW.PrintMore

theorem size30 {l : List Int} (h : l.length = 32) : (Tryd.prog.info? 30).map (·.size) = some (v8 l).size := by
  rw [v8_size, h]
  kernel_rfl
theorem mod_go (n i : Nat) : (i < noughts n → (n + 1 + i + 8) % 64 ≠ 0) ∧ (i = noughts n → (n + 1 + i + 8) % 64 = 0) := by
  unfold noughts
  omega
theorem len8_step (m j q : Nat) (h : j < 8) (hq : q = 7 - j) : (len8 (8 * m)).take j ++ [8 * (m : Int) / 2 ^ (8 * q) % 256] = (len8 (8 * m)).take (j + 1) := by
  subst hq
  have e : ∀ k : Nat, 8 * (m : Int) / 2 ^ k % 256 = ((8 * m / 2 ^ k % 256 : Nat) : Int) := fun k => by simp
  rw [e]
  have : j = 0 ∨ j = 1 ∨ j = 2 ∨ j = 3 ∨ j = 4 ∨ j = 5 ∨ j = 6 ∨ j = 7 := by omega
  rcases this with rfl | rfl | rfl | rfl | rfl | rfl | rfl | rfl
  · rfl
  · rfl
  · rfl
  · rfl
  · rfl
  · rfl
  · rfl
  · simp only [len8, Nat.sub_self, Nat.mul_zero, Nat.pow_zero, Nat.div_one]; rfl
/-- Memory beside Sum's work: the result's cells, the bytes', the hash's. -/
structure Sm (w wr : World) (base g : Nat) (v : Value) (h : Hv) (g2 g3 : Nat) (bs : List Int) : Prop where
  h : Hh wr base g v h
  b2 : B8 wr g2 30 (List.replicate 32 0)
  b3 : B8 wr g3 30 bs
  l2 : w.heap.size ≤ g2
  l3 : w.heap.size ≤ g3
  n23 : g2 ≠ g3
  lg : g < w.heap.size
  lv : ∀ k, v.ownBlock = some k → k < w.heap.size
  bel : Below w.heap.size w wr
theorem Sm.below {w wr w' : World} {base g : Nat} {v : Value} {h : Hv} {g2 g3 : Nat} {bs : List Int} (H : Sm w wr base g v h g2 g3 bs) (hb : Below wr.heap.size wr w') : Sm w w' base g v h g2 g3 bs :=
  ⟨H.h.below hb, (hb.block g2 (blk_lt H.b2)).trans H.b2, (hb.block g3 (blk_lt H.b3)).trans H.b3, H.l2, H.l3, H.n23, H.lg, H.lv, H.bel.trans (hb.mono H.bel.size)⟩
/-- Memory while the bytes of the sum are laid. -/
structure So (w wr : World) (g2 g3 ge : Nat) (bs : List Int) (s : S8) (v : Value) (m : Nat) : Prop where
  b2 : B8 wr g2 30 (List.replicate 32 0)
  b3 : B8 wr g3 30 bs
  be : wr.heap[ge]? = some (.cells (hc s v m) 93 (0, 0))
  l2 : w.heap.size ≤ g2
  l3 : w.heap.size ≤ g3
  n23 : g2 ≠ g3
  n3e : g3 < ge
  bel : Below w.heap.size w wr
theorem So.end_get {w wr : World} {g2 g3 ge : Nat} {bs : List Int} {s : S8} {v : Value} {m : Nat} (H : So w wr g2 g3 ge bs s v m) (i : Nat) (hi : i < 8) : wr.cell? ⟨ge, i, none⟩ = some (.int .u32 (num (s.list.getD i 0))) := by
  rw [blk_cell H.be i]
  match i, hi with
  | 0, _ => rfl
  | 1, _ => rfl
  | 2, _ => rfl
  | 3, _ => rfl
  | 4, _ => rfl
  | 5, _ => rfl
  | 6, _ => rfl
  | 7, _ => rfl
theorem v8_set (l : List Int) (i : Nat) (x : Int) : (v8 l).setIfInBounds i (.int .u8 x) = v8 (l.set i x) := by
  apply Array.toList_inj.1
  simp [v8, List.map_set]
theorem B8.set {W : World} {g : Nat} {t : TypeId} {l : List Int} (h : B8 W g t l) (i : Nat) (x : Int) : B8 (W.setCell ⟨g, i, none⟩ (.int .u8 x)) g t (l.set i x) := by
  unfold B8
  rw [blk_set h i _, v8_set]
theorem So.set {w wr : World} {g2 g3 ge : Nat} {bs : List Int} {s : S8} {v : Value} {m : Nat} (H : So w wr g2 g3 ge bs s v m) (i : Nat) (x : Int) : So w (wr.setCell ⟨g3, i, none⟩ (.int .u8 x)) g2 g3 ge (bs.set i x) s v m :=
  ⟨blk_far (p := ⟨g3, i, none⟩) H.b2 H.n23 _, H.b3.set i x, blk_far (p := ⟨g3, i, none⟩) H.be (Nat.ne_of_gt H.n3e) _, H.l2, H.l3, H.n23, H.n3e, H.bel.setCell (p := ⟨g3, i, none⟩) H.l3 _⟩
theorem bytes_ext {bs : List Int} {s : S8} (h : bs.length = 32) (k : ∀ j, j < 32 → bs.getD j 0 = s.bytes.getD j 0) : bs = s.bytes := by
  apply List.ext_getElem
  · rw [h]; rfl
  · intro j h1 h2
    have h3 := k j (by omega)
    rw [List.getD_eq_getElem?_getD, List.getD_eq_getElem?_getD, List.getElem?_eq_getElem h1, List.getElem?_eq_getElem h2] at h3
    exact h3
set_option maxRecDepth 100000 in
set_option maxHeartbeats 4000000 in
theorem hsum_any {base g : Nat} {v : Value} {h : Hv} (w : World) (hH : Hh w base g v h) (hT : Tab w) (hl : h.r.length < 64) (hm : h.m ≤ 1000000000) :
    Calls Tryd.prog 29 #[.pointer (some ⟨g, 0, none⟩)] w fun e w' => e = .returned (.agg (v8 h.sum)) ∧ Below w.heap.size w w' := by
  have hu30 := Tryd.underlying30
  have hu23 := Tryd.underlying23
  have H := Aside0.mk hH
  have HT := Aside0.mk hT
  have Hl := Aside0.mk hl
  have hlt := hH.lt
  clear hH hT hl
  obtain ⟨s, r, m⟩ := h
  simp only at hm
  obtain ⟨A0, c0, rfl, hl0⟩ := H.out.slice
  go_enter Tryd.func29, Tryd.ntmps29
  go_wp2_with (first | ((with_reducible refine gate_dst (N := 2) rfl ?_); refine box_event ?hg (N := 2) ?hd (cs := v8 (List.replicate 32 0)) (t := 30) ?hr ?_; (case hd => rfl); (case hg => rfl); (case hr => first | (go_simp; done) | (go_simp; rfl)); intro g2 hg_ w1 hbox_ hb_; have H2 := Aside0.mk hbox_; have HB := Aside0.mk hb_; have Hg2 := Aside0.mk (show w.heap.size ≤ g2 from Nat.le_of_eq hg_.symm);clear hg_ hbox_ hb_) | ((with_reducible refine gate_dst (N := 3) rfl ?_); refine box_event ?hg (N := 3) ?hd (cs := v8 (List.replicate 32 0)) (t := 30) ?hr ?_; (case hd => rfl); (case hg => rfl); (case hr => first | (go_simp; done) | (go_simp; rfl)); intro g3 hg_ w2 hbox_ hb_; have HS := Aside0.mk (show Sm w w2 base g (.slice A0 r.length c0) ⟨s, r, m⟩ g2 g3 (List.replicate 32 0) from ⟨(H.out.below HB.out).below hb_, blk_below H2.out hb_, hbox_, Hg2.out, by rw [hg_]; exact HB.out.size, by rw [hg_]; exact Nat.ne_of_lt (blk_lt H2.out), hlt, fun k hk => H.out.lt_all k (.inr hk), below_step HB.out hb_⟩); clear H2 HB Hg2; have hc8 : w2.cell? ⟨g, 8, none⟩ = some (.slice A0 r.length c0) := (blk_cell HS.out.h.b 8).trans rfl;clear hg_ hbox_ hb_) | ((with_reducible refine gate_dst (N := 11) rfl ?_); refine lit_none (w0 := w2) (w2.heap.size) ?hg (N := 11) ?hd ?hr (Below.refl _ _) (Nat.le_refl _) ?_; (case hd => rfl); (case hg => rfl); (case hr => first | (go_simp; done) | (go_simp; rfl)); intro v3 w3 ho_ hb_; have HO3 := Aside0.mk ho_; have HB3 := Aside0.mk hb_; clear ho_ hb_; clear hc8; have hc8 : w3.cell? ⟨g, 8, none⟩ = some (.slice A0 r.length c0) := (blk_cell (HS.out.h.below HB3.out).b 8).trans rfl) | ((with_reducible refine gate_builtin (b := .append) (xs := #[.tmp 11, .tmp 15]) rfl ?_); at_builtin; refine append_row (w0 := w2) rfl (.tmp 11) (.tmp 15) rfl (w2.heap.size) (v3) ([]) (r) (A0) (r.length) (c0) rfl rfl (HO3.out) ((Kd.Q_reads' (HS.out.h.below HB3.out).q).2.2) (HB3.out) (HB3.out.size) (by have := Hl.out; simp only at this; simp; omega) ?_; intro v4 w4 ho_ hb_; have HO4 := Aside0.mk ho_; have HB4 := Aside0.mk hb_; clear ho_ hb_; clear hc8) | ((with_reducible refine gate_builtin (b := .append) (xs := #[.tmp 17, .tmp 18]) rfl ?_); at_builtin; refine append_one (w0 := w2) rfl (.tmp 17) (.tmp 18) rfl (w2.heap.size) (v4) ([] ++ r) (128) rfl rfl (HO4.out) (HB4.out) (HB4.out.size) (by have := Hl.out; simp only at this; simp; omega) ?_; intro v5 w5 ho_ hb_; have HO5 := Aside0.mk ho_; have HB5 := Aside0.mk hb_; clear ho_ hb_; ))
  have HO6 : Aside0 (Own w5 w2.heap.size v5 (r ++ 128 :: List.replicate 0 0)) := ⟨HO5.out⟩
  clear HO3 HO4 HO5 HB3 HB4
  go_loopg [4] (noughts r.length) (fun gk x wr => ∃ i : Nat, i + gk = noughts r.length ∧ Aside0 (Own wr w2.heap.size x (r ++ 128 :: List.replicate i 0)) ∧ Aside0 (Below w2.heap.size w2 wr))
  case atStart => exact ⟨0, by omega, HO6, HB5⟩
  case round =>
    clear HO6 HB5
    obtain ⟨i, hi, HO, HB⟩ := hrel
    obtain ⟨Ax, cx, rfl⟩ := Kd.R_slice HO.out
    have hll : (r ++ 128 :: List.replicate i 0).length = r.length + 1 + i := by simp; omega
    obtain ⟨L, hL⟩ : ∃ L, L = (r ++ 128 :: List.replicate i 0).length := ⟨_, rfl⟩
    rw [← hL] at HO ⊢
    have hL2 : L = r.length + 1 + i := by rw [hL, hll]
    have HL := Aside0.mk hL2
    have hno : noughts r.length < 64 := by unfold noughts; omega
    have hLb : L ≤ 200 := by have := Hl.out; (try simp only at this); omega
    have HLx := Aside0.mk hL
    clear hL hll hL2
    by_cases hlt : i < noughts r.length
    · have ht : (((L : Int) + 8) % 64 != 0) = true := by
        have := HL.out
        have hm := mod_go r.length i
        simp only [bne_iff_ne, ne_eq]
        omega
      obtain ⟨gq, rfl⟩ : ∃ gq, gk = gq + 1 := ⟨gk - 1, by omega⟩
      go_wp2_with (first | ((with_reducible refine gate_builtin (b := .append) (xs := #[.tmp 25, .tmp 26]) rfl ?_); at_builtin; refine append_one (w0 := w2) rfl (.tmp 25) (.tmp 26) rfl (w2.heap.size) (.slice Ax L cx) (r ++ 128 :: List.replicate i 0) (0) rfl rfl (HO.out) (HB.out) (HB.out.size) (by have := HLx.out; omega) ?_; intro v7 w7 ho_ hb_; have HO7 := Aside0.mk ho_; have HB7 := Aside0.mk hb_; clear ho_ hb_; ))
      go_roundg gq
      case measure => omega
      case rel =>
        refine ⟨i + 1, by omega, ⟨?_⟩, HB7⟩
        have := HO7.out
        rwa [List.append_assoc, List.cons_append, ← List.replicate_succ'] at this
    · have hie : i = noughts r.length := by omega
      have ht : (((L : Int) + 8) % 64 != 0) = false := by
        have := HL.out
        have hm := mod_go r.length i
        simp only [bne_eq_false_iff_eq]
        omega
      go_wp2_with fail
      obtain ⟨P, hP⟩ : ∃ P, P = r ++ 128 :: List.replicate (noughts r.length) 0 := ⟨_, rfl⟩
      have HP := Aside0.mk hP
      have HOP : Aside0 (Own wr w2.heap.size (.slice Ax L cx) P) := ⟨by rw [hP, ← hie]; exact HO.out⟩
      have HPl : Aside0 (P.length ≤ 200) := ⟨by rw [hP, ← hie, ← HLx.out]; exact hLb⟩
      clear hP HO
      go_loopg [4, 5] 8 (fun gk x y wr => ∃ j : Nat, j + gk = 8 ∧ y = .int .i64 (7 - (j : Int)) ∧ Aside0 (Own wr w2.heap.size x (P ++ (len8 (8 * m)).take j)) ∧ Aside0 (Below w2.heap.size w2 wr))
      case atStart => exact ⟨0, by omega, by simp, ⟨by rw [List.take_zero, List.append_nil]; exact HOP.out⟩, HB⟩
      case round =>
        clear HOP HB
        obtain ⟨j, hj, rfl, HO, HB⟩ := hrel
        obtain ⟨Ay, cy, rfl⟩ := Kd.R_slice HO.out
        obtain ⟨M, hM⟩ : ∃ M, M = (P ++ (len8 (8 * m)).take j).length := ⟨_, rfl⟩
        rw [← hM] at HO ⊢
        have hMb : M ≤ 300 := by
          rw [hM, List.length_append, List.length_take]
          have := HPl.out
          have : (len8 (8 * m)).length = 8 := rfl
          omega
        have HMx := Aside0.mk hM
        clear hM
        by_cases hlt : j < 8
        · obtain ⟨gq, rfl⟩ : ∃ gq, gk = gq + 1 := ⟨gk - 1, by omega⟩
          obtain ⟨q, hq⟩ : ∃ q : Nat, (7 - (j : Int)) = (q : Int) := ⟨7 - j, by omega⟩
          rw [hq]
          have Hq := Aside0.mk hq
          clear hq
          have hq7 : q ≤ 7 := by have := Hq.out; omega
          have hc9 : wr.cell? ⟨g, 9, none⟩ = some (.int .u64 (m : Int)) := (blk_cell (HS.out.h.below HB.out).b 9).trans rfl
          go_wp2_with (first | ((with_reducible refine gate_builtin (b := .append) (xs := #[.tmp 32, .tmp 42]) rfl ?_); at_builtin; refine append_one (w0 := w2) rfl (.tmp 32) (.tmp 42) rfl (w2.heap.size) (.slice Ay M cy) (P ++ (len8 (8 * m)).take j) (8 * (m : Int) / 2 ^ (8 * q) % 256) rfl rfl (HO.out) (HB.out) (HB.out.size) (by have := HMx.out; omega) ?_; intro v8 w8 ho_ hb_; have HO8 := Aside0.mk ho_; have HB8 := Aside0.mk hb_; clear ho_ hb_; ))
          go_roundg gq
          case measure => omega
          case rel =>
            refine ⟨j + 1, by omega, ?_, ⟨?_⟩, HB8⟩
            · have hq8 : (q : Int) - 1 = 7 - ((j + 1 : Nat) : Int) := by have := Hq.out; omega
              rw [hq8]
            have := HO8.out
            rwa [List.append_assoc, len8_step m j q hlt (by have := Hq.out; omega)] at this
        · have hj8 : j = 8 := by omega
          subst hj8
          rw [show (7 - ((8 : Nat) : Int)) = -1 from rfl]
          have hc : ∀ i, i < 8 → wr.cell? ⟨g, i, none⟩ = some (.int .u32 (num (s.list.getD i 0))) := fun i hi => by
            rw [blk_cell (HS.out.h.below HB.out).b i]
            match i, hi with
            | 0, _ => rfl
            | 1, _ => rfl
            | 2, _ => rfl
            | 3, _ => rfl
            | 4, _ => rfl
            | 5, _ => rfl
            | 6, _ => rfl
            | 7, _ => rfl
          clear hc
          have HT9 : Aside0 ((r ++ Hv.tail ⟨s, r, m⟩) = P ++ (len8 (8 * m)).take 8) := ⟨by rw [HP.out]; show r ++ 128 :: (List.replicate (noughts r.length) 0 ++ len8 (8 * m)) = _; rw [List.append_assoc]; rfl⟩
          have Hrg : Aside0 (wr.rangeAt g 0 (v32 s.list).toList) := ⟨range_block (HS.out.h.below HB.out).b _ ⟨[.slice A0 r.length c0, .int .u64 (m : Int)], rfl⟩⟩
          go_wp2_with (first | ((with_reducible refine gate_dst (N := 47) rfl ?_); refine load_mid ?hg (N := 47) ?hd 23 (.tmp 46) ?ho g 0 ?hx (#[.int .u32 (num s.a), .int .u32 (num s.b), .int .u32 (num s.c), .int .u32 (num s.d), .int .u32 (num s.e), .int .u32 (num s.f), .int .u32 (num s.g), .int .u32 (num s.h)]) _ Hrg.out hu23 rfl (by kernel_rfl) ?_; (case hg => rfl); (case hd => rfl); (case ho => rfl); (case hx => rfl)) | ((with_reducible refine gate_dst (N := 49) rfl ?_); refine box_event ?hg (N := 49) ?hd (cs := hc s (.slice none 0 0) 0) (t := 93) ?hr ?_; (case hd => rfl); (case hg => rfl); (case hr => first | (go_simp; done) | (go_simp; rfl)); intro ge hg_ w9 hbox_ hb_; have HE := Aside0.mk hbox_; have HB9 := Aside0.mk hb_; have Hge := Aside0.mk hg_;clear hg_ hbox_ hb_))
          obtain ⟨T, hT⟩ : ∃ T, T = P ++ (len8 (8 * m)).take 8 := ⟨_, rfl⟩
          rw [← hT] at HO HT9 HMx
          have HTb : Aside0 (Byt T) := ⟨by rw [← HT9.out]; exact H.out.byt.append (Byt.cons (by omega) (by omega) ((Byt.replicate _).append (len8_byt _)))⟩
          clear hT
          have hge : ge = wr.heap.size := Hge.out
          have hge9 : ge < w9.heap.size := blk_lt HE.out
          have HTab : Aside0 (Tab (w9.alloc (.cells #[.slice Ay M cy] 27))) := ⟨(((HT.out.below HS.out.bel).below HB.out).below HB9.out).below (below_alloc (Below.refl _ _) _)⟩
          have hOwn : Own (w9.alloc (.cells #[.slice Ay M cy] 27)) w2.heap.size (.slice Ay M cy) T := Kd.R_alloc (Kd.R_below HO.out HB9.out) _
          have hRd : Rd (Fv ge (.slice none 0 0)) (w9.alloc (.cells #[.slice Ay M cy] 27)) Ay M T := Rd.own hOwn (fun k hk hf => by
            have h1 := Kd.R_lt HO.out k hk
            rcases hf with rfl | hf
            · omega
            · cases hf)
          have hHe : Hh (w9.alloc (.cells #[.slice Ay M cy] 27)) ge ge (.slice none 0 0) ⟨s, [], 0⟩ := ⟨((below_alloc (Below.refl _ _) _).block ge hge9).trans HE.out, Kd.Q_nil _ _ _ _ _, Nat.le_refl _, Byt.nil⟩
          have hMc := (Kd.R_reads' HO.out).2.1
          refine (write_any (ps := [T]) _ hHe HTab.out (by have := HT.out.t.2.2; have := HS.out.bel.size; have := HB.out.size; omega) (parts_one (heap_alloc_new _ _) (fun hf => by rcases hf with hf | hf; omega; cases hf) hRd hMc) (fun p hp => by rw [List.mem_singleton.1 hp]; exact HTb.out) (by show (0 : Nat) < 64; omega) (by have := HMx.out; simp; omega)).mono ?_
          rintro e w10 ⟨v', rfl, hW⟩
          have HWr := Aside0.mk hW
          clear hW hOwn hRd hHe HTab
          have HB10 : Aside0 (Below wr.heap.size wr w10) := ⟨by
            have h1 := HWr.out.bel
            rw [hge] at h1
            exact (HB9.out.alloc HB9.out.size _).trans h1⟩
          have HS10 := Aside0.mk ((HS.out.below HB.out).below HB10.out)
          have HF : Aside0 (([T].foldl Hv.put ⟨s, [], 0⟩).s.bytes = Hv.sum ⟨s, r, m⟩) := ⟨by
            show (Hv.put ⟨s, [], 0⟩ T).s.bytes = (Hv.put ⟨s, r, m⟩ (Hv.tail ⟨s, r, m⟩)).s.bytes
            rw [← HT9.out]
            rfl⟩
          obtain ⟨hf, hhf⟩ : ∃ x, x = [T].foldl Hv.put ⟨s, [], 0⟩ := ⟨_, rfl⟩
          rw [← hhf] at HF HWr
          have HSo : Aside0 (So w w10 g2 g3 ge (List.replicate 32 0) hf.s v' hf.m) := ⟨⟨HS10.out.b2, HS10.out.b3, HWr.out.h.b, HS10.out.l2, HS10.out.l3, by have := blk_lt HS10.out.b2; exact HS10.out.n23, by rw [hge]; have := blk_lt (HS.out.below HB.out).b3; omega, HS10.out.bel⟩⟩
          obtain ⟨hs', hr', hm'⟩ := hf
          clear hhf hge hge9 HS10 HB10 HWr HT9 HTb HE HB9 Hge HO HB HMx HP HPl HLx HL HS HT H Hl hMc Hrg hlt
          go_wp2_with fail
          go_loopg [54] 32 (fun gk iv wr => ∃ (i : Nat) (bs : List Int), i + gk = 32 ∧ iv = .int .i64 i ∧ Aside0 (So w wr g2 g3 ge bs hs' v' hm') ∧ Aside0 (bs.length = 32 ∧ ∀ j, j < i → bs.getD j 0 = hs'.bytes.getD j 0))
          case atStart => exact ⟨0, _, by omega, rfl, HSo, ⟨by simp, fun j hj => by omega⟩⟩
          case round =>
            clear HSo
            obtain ⟨i, bs, hi, rfl, HS, HV⟩ := hrel
            by_cases hlt : i < 32
            · obtain ⟨gq, rfl⟩ : ∃ gq, gk = gq + 1 := ⟨gk - 1, by omega⟩
              have hx := HS.out.end_get (i / 4) (by omega)
              obtain ⟨x, hxe⟩ : ∃ x, x = hs'.list.getD (i / 4) 0 := ⟨_, rfl⟩
              rw [← hxe] at hx
              have Hxe := Aside0.mk hxe
              clear hxe
              have hb3 := (blk_cell HS.out.b3 i).trans (v8_get (l := bs) (by rw [HV.out.1]; exact hlt))
              have hf3 := blk_frozen HS.out.b3 i
              have p1 : (0 : Int) ≤ (i : Int) := by omega
              have p2 : (i : Int) < 32 := by omega
              go_wp2_with fail
              have hval : num x / 2 ^ (24 - 8 * (i % 4)) % 256 = hs'.bytes.getD i 0 := by
                rw [byte_at hs' i hlt, ← Hxe.out]
                unfold num
                simp
              rw [hval]
              have HS2 := Aside0.mk (HS.out.set i (hs'.bytes.getD i 0))
              have HV2 : Aside0 ((bs.set i (hs'.bytes.getD i 0)).length = 32 ∧ ∀ j, j < i + 1 → (bs.set i (hs'.bytes.getD i 0)).getD j 0 = hs'.bytes.getD j 0) := ⟨by
                refine ⟨by rw [List.length_set]; exact HV.out.1, fun j hj => ?_⟩
                have hlen := HV.out.1
                by_cases hji : j = i
                · subst hji
                  rw [List.getD_eq_getElem?_getD, List.getElem?_set_self (by omega), Option.getD_some]
                · rw [List.getD_eq_getElem?_getD, List.getElem?_set_ne (by omega), ← List.getD_eq_getElem?_getD, HV.out.2 j (by omega)]⟩
              clear HS HV hx hb3 hf3 hval
              go_roundg gq
              case measure => omega
              case rel => exact ⟨i + 1, _, by omega, by go_num, HS2, HV2⟩
            · have hi32 : i = 32 := by omega
              subst hi32
              have hbs : bs = hs'.bytes := bytes_ext HV.out.1 HV.out.2
              subst hbs
              have hl32 : hs'.bytes.length = 32 := rfl
              obtain ⟨bs, hbs⟩ : ∃ bs, bs = hs'.bytes := ⟨_, rfl⟩
              rw [← hbs] at HS hl32 HF
              have Hl32 := Aside0.mk hl32
              clear hl32 hbs HV
              go_wp2_with (first | ((with_reducible refine gate_dst (N := 73) rfl ?_); refine wpList_load_row rfl 30 (.tmp 3) rfl g3 rfl 30 (v8 bs) (0, 0) _ HS.out.b3 hu30 rfl (size30 Hl32.out) ?_) | ((with_reducible refine gate_store (t := 30) (p := 2) rfl ?_); refine store_row ?hg (ty := 30) (p := 2) (v := ?vr_1) ?ho ?hd (g := g2) (t := 30) (old := v8 (List.replicate 32 0)) (cells := v8 bs) ?hx ?hy HS.out.b2 (size30 Hl32.out) (by rw [v8_size, v8_size, Hl32.out, List.length_replicate]) (v8_one _) ?_; (case hd => rfl); (case hg => rfl); (case ho => rfl); (case hx => rfl); (case hy => rfl); intro w12 hbox_ hk_ hb_; have HR := Aside0.mk hbox_; have HBf := Aside0.mk (HS.out.bel.trans (hb_.mono HS.out.l2));clear hbox_ hk_ hb_))
              refine bodyPost_ret (results_cell_row rfl _ _ g2 30 (v8 bs) (0, 0) _ rfl HR.out Tryd.underlying30 rfl (size30 Hl32.out)) rfl ?_
              exact ⟨by rw [HF.out], HBf.out⟩
end Go.Proofs.YtpigkgnmegpddaaDoor.Sh
