/-
ShaChain, walked.
-/
import Derived.Test.YtpigkgnmegpddaaDoorLa
namespace Go.Proofs.YtpigkgnmegpddaaDoor.Sh
set_option linter.unusedVariables false
set_option linter.unusedSimpArgs false
open Go.RowKit Go.Proofs.YtpigkgnmegpddaaDoorW.PrintWords Go.Proofs.YtpigkgnmegpddaaDoorW.PrintLast Go.Proofs.YtpigkgnmegpddaaDoorW.PrintMore

theorem len8_small (n : Nat) (h : n ≤ 600) : len8 (8 * n) = [0, 0, 0, 0, 0, 0, (n : Int) * 8 / 256, (n : Int) * 8 % 256] := by
  have e : ∀ k : Nat, 16 ≤ k → 8 * n / 2 ^ k = 0 := fun k hk => Nat.div_eq_of_lt (Nat.lt_of_lt_of_le (by omega) (Nat.pow_le_pow_right (by omega) hk))
  unfold len8
  rw [e 56 (by omega), e 48 (by omega), e 40 (by omega), e 32 (by omega), e 24 (by omega), e 16 (by omega)]
  have h1 : ((8 * n / 2 ^ 8 % 256 : Nat) : Int) = (n : Int) * 8 / 256 := by omega
  have h2 : ((8 * n % 256 : Nat) : Int) = (n : Int) * 8 % 256 := by omega
  rw [h1, h2]
  rfl
/-- A place where the walk stops. -/
def Stop (p : Prop) : Prop := p
theorem stop_ {p : Prop} (h : Stop p) : p := h
theorem lit8_at {a b c d e f g h : Int} (j : Nat) (hj : j < 8) : (#[Value.int .u8 a, .int .u8 b, .int .u8 c, .int .u8 d, .int .u8 e, .int .u8 f, .int .u8 g, .int .u8 h] : Array Value)[0 + j]? = some (.int .u8 ([a, b, c, d, e, f, g, h].getD j 0)) := by
  match j, hj with
  | 0, _ => rfl
  | 1, _ => rfl
  | 2, _ => rfl
  | 3, _ => rfl
  | 4, _ => rfl
  | 5, _ => rfl
  | 6, _ => rfl
  | 7, _ => rfl
theorem lit8_C (W : World) (a b c d e f g h : Int) : (Kd.int .u8).C (W.alloc (.cells #[Value.int .u8 a, .int .u8 b, .int .u8 c, .int .u8 d, .int .u8 e, .int .u8 f, .int .u8 g, .int .u8 h] 5)) (some ⟨W.heap.size, 0, none⟩) 8 [a, b, c, d, e, f, g, h] :=
  (Rd.block (S := fun _ => False) (o := 0) (n := 8) (xs := [a, b, c, d, e, f, g, h]) (heap_alloc_new W _) (fun h => h) rfl (by omega) lit8_at).now
/-- Memory while the law brings its words on. -/
structure Sy (w wr : World) (g5 : Nat) (s : S8) (v : Value) (xs : List Int) : Prop where
  b5 : B32 wr g5 23 s.list
  own : Own wr w.heap.size v xs
  l5 : w.heap.size ≤ g5
  bel : Below w.heap.size w wr
theorem Sy.below {w wr w' : World} {g5 : Nat} {s : S8} {v : Value} {xs : List Int} (H : Sy w wr g5 s v xs) (hb : Below wr.heap.size wr w') : Sy w w' g5 s v xs :=
  ⟨(hb.block g5 (blk_lt H.b5)).trans H.b5, Kd.R_below H.own hb, H.l5, H.bel.trans (hb.mono H.bel.size)⟩
theorem v8_set' (l : List Int) (i : Nat) (x : Int) : (v8 l).setIfInBounds i (.int .u8 x) = v8 (l.set i x) := v8_set l i x
/-- .. and while a block is filled. -/
structure St (w wr : World) (g5 g7 : Nat) (s : S8) (v : Value) (xs bs : List Int) : Prop where
  s : Sy w wr g5 s v xs
  b7 : B8 wr g7 24 bs
  l7 : w.heap.size ≤ g7
  n57 : g5 < g7
theorem St.set {w wr : World} {g5 g7 : Nat} {s : S8} {v : Value} {xs bs : List Int} (H : St w wr g5 g7 s v xs bs) (i : Nat) (x : Int) : St w (wr.setCell ⟨g7, i, none⟩ (.int .u8 x)) g5 g7 s v xs (bs.set i x) :=
  ⟨⟨blk_far (p := ⟨g7, i, none⟩) H.s.b5 (Nat.ne_of_lt H.n57) _, Kd.R_mono (Kd.R_far (p := ⟨g7, i, none⟩) (Kd.R_types H.s.own H.b7 (by decide)) (fun k hk => hk.2) _) (fun _ _ => trivial), H.s.l5, H.s.bel.setCell (p := ⟨g7, i, none⟩) H.l7 _⟩, H.b7.set i x, H.l7, H.n57⟩
set_option maxRecDepth 100000 in
set_option maxHeartbeats 4000000 in
theorem chain_law {A : Option Addr} {n c : Nat} {r : List Int} (w : World) (hT : Tab w) (HR : (Kd.int .u8).C w A n r) (hc : n ≤ c) (hby : Byt r) :
    Calls Tryd.prog 7 #[.slice A n c] w fun e w' => e = .returned (.bool true) ∧ Below w.heap.size w w' := by
  have hu30 := Tryd.underlying30
  have hu23 := Tryd.underlying23
  have hu24 := Tryd.underlying24
  obtain rfl := HR.1
  have hnm := HR.2.1
  have H := Aside0.mk HR
  have Hby := Aside0.mk hby
  have HT := Aside0.mk hT
  clear HR hby hT
  by_cases h600 : 600 < r.length
  · go_enter Tryd.func7, Tryd.ntmps7
    go_wp2_with fail
    go_ret
    exact ⟨rfl, Below.refl _ _⟩
  have hm : r.length ≤ 600 := by omega
  clear h600
  go_enter Tryd.func7, Tryd.ntmps7
  go_wp2_with (first | ((with_reducible refine gate_dst (N := 14) rfl ?_); refine lit_none (w0 := w) (w.heap.size) ?hg (N := 14) ?hd ?hr (Below.refl _ _) (Nat.le_refl _) ?_; (case hd => rfl); (case hg => rfl); (case hr => first | (go_simp; done) | (go_simp; rfl)); intro v3 w3 ho_ hb_; have HO3 := Aside0.mk ho_; have HB3 := Aside0.mk hb_; clear ho_ hb_; ) | ((with_reducible refine gate_builtin (b := .append) (xs := #[.tmp 14, .tmp 15]) rfl ?_); at_builtin; refine append_row (w0 := w) rfl (.tmp 14) (.tmp 15) rfl (w.heap.size) (v3) ([]) (r) (A) (r.length) (c) rfl rfl (HO3.out) (Kd.C_below H.out HB3.out) (HB3.out) (HB3.out.size) (by simp; omega) ?_; intro v4 w4 ho_ hb_; have HO4 := Aside0.mk ho_; have HB4 := Aside0.mk hb_; clear ho_ hb_; ) | ((with_reducible refine gate_builtin (b := .append) (xs := #[.tmp 16, .tmp 17]) rfl ?_); at_builtin; refine append_one (w0 := w) rfl (.tmp 16) (.tmp 17) rfl (w.heap.size) (v4) ([] ++ r) (128) rfl rfl (HO4.out) (HB4.out) (HB4.out.size) (by simp; omega) ?_; intro v5 w5 ho_ hb_; have HO5 := Aside0.mk ho_; have HB5 := Aside0.mk hb_; clear ho_ hb_; ))
  have HO6 : Aside0 (Own w5 w.heap.size v5 (r ++ 128 :: List.replicate 0 0)) := ⟨HO5.out⟩
  clear HO3 HO4 HO5 HB3 HB4
  go_loopg [3] (noughts r.length) (fun gk x wr => ∃ i : Nat, i + gk = noughts r.length ∧ Aside0 (Own wr w.heap.size x (r ++ 128 :: List.replicate i 0)) ∧ Aside0 (Below w.heap.size w wr))
  case atStart => exact ⟨0, by omega, HO6, HB5⟩
  case round =>
    clear HO6 HB5
    obtain ⟨i, hi, HO, HB⟩ := hrel
    obtain ⟨Ax, cx, rfl⟩ := Kd.R_slice HO.out
    have hll : (r ++ 128 :: List.replicate i 0).length = r.length + 1 + i := by simp; omega
    obtain ⟨L, hL⟩ : ∃ L, L = (r ++ 128 :: List.replicate i 0).length := ⟨_, rfl⟩
    rw [← hL] at HO ⊢
    have hL2 : L = r.length + 1 + i := by rw [hL, hll]
    have HL := Aside0.mk hL2
    have hno : noughts r.length < 64 := by unfold noughts; omega
    have hLb : L ≤ 1000000200 := by omega
    have HLx := Aside0.mk hL
    clear hL hll hL2
    by_cases hlt : i < noughts r.length
    · have ht : ((L : Int) % 64 != 56) = true := by
        have := HL.out
        have hm := mod_ref r.length i
        simp only [bne_iff_ne, ne_eq]
        omega
      obtain ⟨gq, rfl⟩ : ∃ gq, gk = gq + 1 := ⟨gk - 1, by omega⟩
      go_wp2_with (first | ((with_reducible refine gate_builtin (b := .append) (xs := #[.tmp 23, .tmp 24]) rfl ?_); at_builtin; refine append_one (w0 := w) rfl (.tmp 23) (.tmp 24) rfl (w.heap.size) (.slice Ax L cx) (r ++ 128 :: List.replicate i 0) (0) rfl rfl (HO.out) (HB.out) (HB.out.size) (by have := HLx.out; omega) ?_; intro v7 w7 ho_ hb_; have HO7 := Aside0.mk ho_; have HB7 := Aside0.mk hb_; clear ho_ hb_; ))
      go_roundg gq
      case measure => omega
      case rel =>
        refine ⟨i + 1, by omega, ⟨?_⟩, HB7⟩
        have := HO7.out
        rwa [List.append_assoc, List.cons_append, ← List.replicate_succ'] at this
    · have hie : i = noughts r.length := by omega
      have ht : ((L : Int) % 64 != 56) = false := by
        have := HL.out
        have hm := mod_ref r.length i
        simp only [bne_eq_false_iff_eq]
        omega
      obtain ⟨P, hP⟩ : ∃ P, P = r ++ 128 :: List.replicate (noughts r.length) 0 := ⟨_, rfl⟩
      have HP := Aside0.mk hP
      have HOP : Aside0 (Own wr w.heap.size (.slice Ax L cx) P) := ⟨by rw [hP, ← hie]; exact HO.out⟩
      have HPl : Aside0 (P.length = L) := ⟨by rw [hP, ← hie, ← HLx.out]⟩
      clear hP HO
      obtain ⟨y1, hy1⟩ : ∃ y : Int, y = (r.length : Int) * 8 / 256 := ⟨_, rfl⟩
      obtain ⟨y2, hy2⟩ : ∃ y : Int, y = (r.length : Int) * 8 % 256 := ⟨_, rfl⟩
      have Hy : Aside0 (len8 (8 * r.length) = [0, 0, 0, 0, 0, 0, (r.length : Int) * 8 / 256, (r.length : Int) * 8 % 256]) := ⟨len8_small _ hm⟩
      clear hy1 hy2
      have hb0 := HB.out.size
      have Hlim : Aside0 (P.length + 8 ≤ 140737488355328) := ⟨by have := HPl.out; omega⟩
      go_wp2_with (first | ((with_reducible refine gate_builtin (b := .append) (xs := #[.tmp 30, .tmp 36]) rfl ?_); at_builtin; refine stop_ ?_))
      unfold Stop
      refine append_row (w0 := w) rfl (.tmp 30) (.tmp 36) rfl (w.heap.size) (.slice Ax L cx) (P) (len8 (8 * r.length)) (some ⟨wr.heap.size, 0, none⟩) (8) (8) rfl rfl (Kd.R_alloc HOP.out _) (by rw [Hy.out]; exact lit8_C _ _ _ _ _ _ _ _ _) (below_step HB.out (below_alloc (Below.refl _ _) _)) (Nat.le_trans hb0 (below_alloc (Below.refl _ _) _).size) Hlim.out ?_
      intro v7 w7 ho7 hb7
      have HO7 := Aside0.mk ho7
      have HB7 := Aside0.mk hb7
      clear ho7 hb7 HOP HB hb0 Hlim
      obtain ⟨T, hT⟩ : ∃ T, T = P ++ len8 (8 * r.length) := ⟨_, rfl⟩
      have HT9 : Aside0 (T = r ++ pad r.length) := ⟨by rw [hT, HP.out]; show _ = r ++ 128 :: (List.replicate (noughts r.length) 0 ++ len8 (8 * r.length)); rw [List.append_assoc]; rfl⟩
      rw [← hT] at HO7
      have HTb : Aside0 (Byt T) := ⟨by rw [HT9.out]; exact Hby.out.append (pad_byt _)⟩
      clear hT
      obtain ⟨A7, c7, rfl⟩ := Kd.R_slice HO7.out
      obtain ⟨M, hM⟩ : ∃ M, M = T.length := ⟨_, rfl⟩
      rw [← hM] at HO7 ⊢
      have HM := Aside0.mk hM
      have hMb : M ≤ 1000 := by rw [hM, HT9.out, List.length_append]; have := pad_mod r.length; simp only [pad, List.length_cons, List.length_append, List.length_replicate, len8, List.length_nil]; unfold noughts; omega
      have hM64 : M % 64 = 0 := by
        have h1 := pad_mod r.length
        rw [← List.length_append, ← HT9.out, ← hM] at h1
        exact h1
      obtain ⟨N, hN⟩ : ∃ N, M = 64 * N := ⟨M / 64, by omega⟩
      have HN := Aside0.mk hN
      clear hM hM64 hN
      go_wp2_with (first | ((with_reducible refine gate_dst (N := 5) rfl ?_); refine box_event ?hg (N := 5) ?hd (cs := v32 (List.replicate 8 0)) (t := 23) ?hr ?_; (case hd => rfl); (case hg => rfl); (case hr => first | (go_simp; done) | (go_simp; rfl)); intro g5 hg_ w8 hbox_ hb_; have H5 := Aside0.mk hbox_; have HO8 := Aside0.mk (Kd.R_below HO7.out hb_); have HB8 := Aside0.mk (below_step HB7.out hb_); have K5 := Aside0.mk (show w.heap.size ≤ g5 from by rw [hg_]; exact HB7.out.size);clear hg_ hbox_ hb_) | ((with_reducible refine gate_store (t := 23) (p := 5) rfl ?_); refine store_row ?hg (ty := 23) (p := 5) (v := ?vr_1) ?ho ?hd (g := g5) (t := 23) (old := v32 (List.replicate 8 0)) (cells := v32 first.list) ?hx ?hy H5.out (size23 rfl) rfl (v32_one _) ?_; (case hd => rfl); (case hg => rfl); (case ho => rfl); (case hx => rfl); (case hy => rfl); intro w9 hbox_ hk_ hb_; have HS := Aside0.mk (show Sy w w9 g5 first (.slice A7 M c7) T from ⟨hbox_, Kd.R_mono (Kd.R_kept (Kd.R_types HO8.out H5.out (by decide)) hk_ (fun k hk => hk.2)) (fun _ _ => trivial), K5.out, HB8.out.trans (hb_.mono K5.out)⟩);clear hbox_ hk_ hb_))
      clear H5 HO8 HB8 K5 HO7 HB7
      go_loopg [6] N (fun gk iv wr => ∃ i : Nat, i + gk = N ∧ iv = .int .i64 ((64 * i : Nat) : Int) ∧ Aside0 (Sy w wr g5 (chain i first T) (.slice A7 M c7) T))
      case atStart => exact ⟨0, by omega, rfl, HS⟩
      case round =>
        clear HS
        obtain ⟨i, hi, rfl, HS⟩ := hrel
        by_cases hlt : i < N
        · obtain ⟨gq, rfl⟩ : ∃ gq, gk = gq + 1 := ⟨gk - 1, by omega⟩
          have hiM : 64 * i + 64 ≤ M := by have := HN.out; omega
          obtain ⟨at_, hat⟩ : ∃ a : Nat, a = 64 * i := ⟨_, rfl⟩
          rw [← hat]
          have Hat := Aside0.mk hat
          have hatM : at_ + 64 ≤ M := by omega
          clear hat
          have p1 : (0 : Int) ≤ (at_ : Int) := by omega
          have p2 : (at_ : Int) < (M : Int) := by omega
          obtain ⟨s, hs⟩ : ∃ s, s = chain i first T := ⟨_, rfl⟩
          have Hs := Aside0.mk hs
          rw [← hs] at HS
          clear hs
          go_wp2_with (first | ((with_reducible refine gate_dst (N := 7) rfl ?_); refine box_event ?hg (N := 7) ?hd (cs := v8 (List.replicate 64 0)) (t := 24) ?hr ?_; (case hd => rfl); (case hg => rfl); (case hr => first | (go_simp; done) | (go_simp; rfl)); intro g7 hg_ w10 hbox_ hb_; have H7 := Aside0.mk hbox_; have HS10 := Aside0.mk (HS.out.below hb_); have K7 := Aside0.mk (show w.heap.size ≤ g7 ∧ g5 < g7 from by rw [hg_]; exact ⟨HS.out.bel.size, blk_lt HS.out.b5⟩);clear hg_ hbox_ hb_))
          have HSt : Aside0 (St w w10 g5 g7 s (.slice A7 M c7) T (List.replicate 64 0)) := ⟨⟨HS10.out, H7.out, K7.out.1, K7.out.2⟩⟩
          clear H7 HS10 K7 HS
          go_loopg [8] 64 (fun gk iv wr => ∃ (k : Nat) (bs : List Int), k + gk = 64 ∧ iv = .int .i64 k ∧ Aside0 (St w wr g5 g7 s (.slice A7 M c7) T bs) ∧ Aside0 (bs.length = 64 ∧ ∀ j, j < k → bs.getD j 0 = T.getD (at_ + j) 0))
          case atStart => exact ⟨0, _, by omega, rfl, HSt, ⟨by simp, fun j hj => by omega⟩⟩
          case round =>
            clear HSt
            obtain ⟨k, bs, hk, rfl, HS, HV⟩ := hrel
            by_cases hk64 : k < 64
            · obtain ⟨gp, rfl⟩ : ∃ gp, gk = gp + 1 := ⟨gk - 1, by omega⟩
              have hCT : (Kd.int .u8).C wr A7 M T := by rw [HM.out]; exact (Kd.R_reads' HS.out.s.own).2.2
              obtain ⟨ad, rfl⟩ := C_some hCT (by omega)
              have hx := C_cell hCT rfl (at_ + k) (by omega)
              obtain ⟨x, hxe⟩ : ∃ x, x = T.getD (at_ + k) 0 := ⟨_, rfl⟩
              rw [← hxe] at hx
              have Hxe := Aside0.mk hxe
              have hb7 := (blk_cell HS.out.b7 k).trans (v8_get (l := bs) (by rw [HV.out.1]; exact hk64))
              have hf7 := blk_frozen HS.out.b7 k
              have q1 : (0 : Int) ≤ (k : Int) := by omega
              have q2 : (k : Int) < 64 := by omega
              have q3 : (at_ : Int) + (k : Int) < (M : Int) := by omega
              clear hCT hxe
              go_wp2_with fail
              have HS2 := Aside0.mk (HS.out.set k x)
              have HV2 : Aside0 ((bs.set k x).length = 64 ∧ ∀ j, j < k + 1 → (bs.set k x).getD j 0 = T.getD (at_ + j) 0) := ⟨by
                refine ⟨by rw [List.length_set]; exact HV.out.1, fun j hj => ?_⟩
                have hlen := HV.out.1
                by_cases hji : j = k
                · subst hji
                  rw [List.getD_eq_getElem?_getD, List.getElem?_set_self (by omega), Option.getD_some, Hxe.out]
                · rw [List.getD_eq_getElem?_getD, List.getElem?_set_ne (by omega), ← List.getD_eq_getElem?_getD, HV.out.2 j (by omega)]⟩
              clear HS HV hx hb7 hf7
              go_roundg gp
              case measure => omega
              case rel => exact ⟨k + 1, _, by omega, by go_num, HS2, HV2⟩
            · have hk64' : k = 64 := by omega
              subst hk64'
              have hbs : bs = (T.drop at_).take 64 := by
                have hl2 : ((T.drop at_).take 64).length = 64 := by rw [List.length_take, List.length_drop, ← HM.out]; omega
                apply List.ext_getElem (by rw [HV.out.1, hl2])
                intro j h1 h2
                have h3 := HV.out.2 j (by omega)
                rw [List.getD_eq_getElem?_getD, List.getElem?_eq_getElem h1] at h3
                have h4 : T.getD (at_ + j) 0 = ((T.drop at_).take 64)[j] := by
                  rw [List.getElem_take, List.getElem_drop, List.getD_eq_getElem?_getD, List.getElem?_eq_getElem (by rw [← HM.out]; omega)]
                  rfl
                rw [← h4, ← h3]
                rfl
              have Hbl : Aside0 (bs.length = 64 ∧ Byt bs) := ⟨HV.out.1, by rw [hbs]; exact (HTb.out.drop _).take _⟩
              have Hnx : Aside0 (step s bs = chain (i + 1) first T) := ⟨by rw [chain_succ, ← Hs.out, ← Hat.out, ← hbs]⟩
              clear hbs HV
              go_wp2_with (first | ((with_reducible refine gate_dst (N := 57) rfl ?_); refine wpList_load_row rfl 23 (.tmp 5) rfl g5 rfl 23 (v32 s.list) (0, 0) _ HS.out.s.b5 hu23 rfl (size23 rfl) ?_) | ((with_reducible refine gate_dst (N := 58) rfl ?_); refine wpList_load_row rfl 24 (.tmp 7) rfl g7 rfl 24 (v8 bs) (0, 0) _ HS.out.b7 hu24 rfl (size24 Hbl.out.1) ?_))
              refine (step_any s bs Hbl.out.1 Hbl.out.2 _ (HT.out.below HS.out.s.bel).t).mono ?_
              rintro e w11 ⟨rfl, hb11⟩
              have HS11 := Aside0.mk (HS.out.s.below hb11)
              clear hb11 HS
              obtain ⟨s', hs'⟩ : ∃ s', s' = step s bs := ⟨_, rfl⟩
              rw [← hs'] at Hnx ⊢
              clear hs'
              go_wp2_with (first | ((with_reducible refine gate_store (t := 23) (p := 5) rfl ?_); refine store_row ?hg (ty := 23) (p := 5) (v := ?vr_2) ?ho ?hd (g := g5) (t := 23) (old := v32 s.list) (cells := v32 s'.list) ?hx ?hy HS11.out.b5 (size23 rfl) rfl (v32_one _) ?_; (case hd => rfl); (case hg => rfl); (case ho => rfl); (case hx => rfl); (case hy => rfl); intro w12 hbox_ hk_ hb_; have HS12 := Aside0.mk (show Sy w w12 g5 s' (.slice A7 M c7) T from ⟨hbox_, Kd.R_mono (Kd.R_kept (Kd.R_types HS11.out.own HS11.out.b5 (by decide)) hk_ (fun k hk => hk.2)) (fun _ _ => trivial), HS11.out.l5, HS11.out.bel.trans (hb_.mono HS11.out.l5)⟩);clear hbox_ hk_ hb_))
              rw [Hnx.out] at HS12
              go_roundg gq
              case measure => omega
              case rel => exact ⟨i + 1, by omega, by have := Hat.out; go_num, HS12⟩
        · have hiN : i = N := by omega
          subst hiN
          have hM64 : M = 64 * i := HN.out
          rw [← hM64]
          obtain ⟨s, hs⟩ : ∃ s, s = chain i first T := ⟨_, rfl⟩
          have HF : Aside0 (s.bytes = sum r) := ⟨by
            rw [hs]
            unfold sum
            rw [← HT9.out, ← List.length_append, ← HT9.out, ← HM.out, HN.out, Nat.mul_div_cancel_left _ (by decide)]⟩
          rw [← hs] at HS
          clear hs hM64 hlt
          go_wp2_with fail
          refine (sum_one (xs := r) (HT.out.below HS.out.bel) (Kd.C_below H.out HS.out.bel) hc Hby.out (by omega) rfl).mono ?_
          rintro e w13 ⟨rfl, hb13⟩
          rw [← HF.out]
          have HS13 := Aside0.mk (HS.out.below hb13)
          have hl32 : s.bytes.length = 32 := rfl
          have Hl32 := Aside0.mk hl32
          clear hb13 HS HN HT9 HTb HM HP HPl HLx HL hl32
          go_wp2_with (first | ((with_reducible refine gate_dst (N := 9) rfl ?_); refine box_event ?hg (N := 9) ?hd (cs := v8 (List.replicate 32 0)) (t := 30) ?hr ?_; (case hd => rfl); (case hg => rfl); (case hr => first | (go_simp; done) | (go_simp; rfl)); intro g9 hg_ w14 hbox_ hb_; have H9 := Aside0.mk hbox_; have HS14 := Aside0.mk (HS13.out.below hb_); have K9 := Aside0.mk (show w.heap.size ≤ g9 ∧ g5 < g9 from by rw [hg_]; exact ⟨HS13.out.bel.size, blk_lt HS13.out.b5⟩);clear hg_ hbox_ hb_) | ((with_reducible refine gate_store (t := 30) (p := 9) rfl ?_); refine store_row ?hg (ty := 30) (p := 9) (v := ?vr_3) ?ho ?hd (g := g9) (t := 30) (old := v8 (List.replicate 32 0)) (cells := v8 s.bytes) ?hx ?hy H9.out (size30 Hl32.out) (by rw [v8_size, v8_size, Hl32.out, List.length_replicate]) (v8_one _) ?_; (case hd => rfl); (case hg => rfl); (case ho => rfl); (case hx => rfl); (case hy => rfl); intro w15 hbox_ hk_ hb_; have H10 := Aside0.mk hbox_; have H5 := Aside0.mk (show B32 w15 g5 23 s.list from (hk_.2 g5 (blk_lt HS14.out.b5) (Nat.ne_of_lt K9.out.2)).trans HS14.out.b5); have HB15 := Aside0.mk (HS14.out.bel.trans (hb_.mono K9.out.1));clear hbox_ hk_ hb_))
          clear H9 HS14 K9 HS13
          go_loopg [10] 32 (fun gk iv wr => ∃ (i q : Nat), i + gk = 32 ∧ iv = .int .i64 i ∧ wr = w15.drewN q)
          case atStart => exact ⟨0, 0, by omega, rfl, rfl⟩
          case round =>
            obtain ⟨i, m, hi, rfl, rfl⟩ := hrel
            by_cases hlt : i < 32
            · obtain ⟨gq, rfl⟩ : ∃ gq, gk = gq + 1 := ⟨gk - 1, by omega⟩
              obtain ⟨w16, hw16⟩ : ∃ w16, w16 = w15.drewN m := ⟨_, rfl⟩
              have hx : w16.cell? ⟨g5, i / 4, none⟩ = some (.int .u32 (num (s.list.getD (i / 4) 0))) := by rw [hw16]; exact H5.out.get (i / 4) (by show i / 4 < 8; omega)
              have hy : w16.cell? ⟨g9, i, none⟩ = some (.int .u8 (s.bytes.getD i 0)) := by rw [hw16]; exact B8.get (t := 30) H10.out i (by rw [Hl32.out]; exact hlt)
              rw [← hw16]
              have Hw16 := Aside0.mk hw16
              clear hw16
              obtain ⟨x, hxe⟩ : ∃ x, x = s.list.getD (i / 4) 0 := ⟨_, rfl⟩
              obtain ⟨y, hye⟩ : ∃ y, y = s.bytes.getD i 0 := ⟨_, rfl⟩
              rw [← hxe] at hx
              rw [← hye] at hy
              have p1 : (0 : Int) ≤ (i : Int) := by omega
              have p2 : (i : Int) < 32 := by omega
              have Hxy : Aside0 (num x / 2 ^ (24 - 8 * (i % 4)) % 256 = y) := ⟨by
                rw [hye, byte_at s i hlt, ← hxe]
                unfold num
                simp⟩
              clear hxe hye
              go_wp2_with fail
              have hne : (y != num x / 2 ^ (24 - 8 * (i % 4)) % 256) = false := by rw [Hxy.out]; simp
              go_quiet (fail)
              go_wp2_with fail
              go_roundg gq
              case measure => omega
              case rel =>
                refine ⟨i + 1, m + nq, by omega, by go_num, ?_⟩
                rw [Hw16.out, World.drewN_drewN]
            · have hi32 : i = 32 := by omega
              subst hi32
              have HB16 : Aside0 (Below w.heap.size w (w15.drewN m)) := ⟨pw_below_drewN HB15.out m⟩
              go_wp2_with fail
              refine (awake_any _ (HT.out.below HB16.out)).mono ?_
              rintro e w17 ⟨rfl, hb17⟩
              have HB17 := Aside0.mk (below_step HB16.out hb17)
              clear hb17 HB16
              go_wp2_with fail
              go_ret
              exact ⟨rfl, HB17.out⟩
end Go.Proofs.YtpigkgnmegpddaaDoor.Sh
