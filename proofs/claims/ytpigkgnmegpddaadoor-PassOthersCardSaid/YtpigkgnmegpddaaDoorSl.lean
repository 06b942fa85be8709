/-
The reference's Sum.
-/
import Derived.Test.YtpigkgnmegpddaaDoorSk
import Derived.Test.YtpigkgnmegpddaaDoorSf
namespace Go.Proofs.YtpigkgnmegpddaaDoor.Sh
set_option linter.unusedVariables false
set_option linter.unusedSimpArgs false
open Go.RowKit Go.Proofs.YtpigkgnmegpddaaDoorW.PrintWords Go.Proofs.YtpigkgnmegpddaaDoorW.PrintLast Go.Proofs.YtpigkgnmegpddaaDoorW.PrintMore

theorem mod_ref (n i : Nat) : (i < noughts n → (n + 1 + i) % 64 ≠ 56) ∧ (i = noughts n → (n + 1 + i) % 64 = 56) := by
  unfold noughts
  omega
/-- Memory while the reference brings its words on. -/
structure Sz (w wr : World) (g2 g6 : Nat) (s : S8) (v : Value) (xs : List Int) : Prop where
  b2 : B8 wr g2 30 (List.replicate 32 0)
  b6 : B32 wr g6 23 s.list
  own : Own wr w.heap.size v xs
  l2 : w.heap.size ≤ g2
  l6 : w.heap.size ≤ g6
  n26 : g2 ≠ g6
  bel : Below w.heap.size w wr
theorem Sz.below {w wr w' : World} {g2 g6 : Nat} {s : S8} {v : Value} {xs : List Int} (H : Sz w wr g2 g6 s v xs) (hb : Below wr.heap.size wr w') : Sz w w' g2 g6 s v xs :=
  ⟨(hb.block g2 (blk_lt H.b2)).trans H.b2, (hb.block g6 (blk_lt H.b6)).trans H.b6, Kd.R_below H.own hb, H.l2, H.l6, H.n26, H.bel.trans (hb.mono H.bel.size)⟩
theorem Sz.stored {w wr : World} {g2 g6 : Nat} {s : S8} {v : Value} {xs : List Int} (H : Sz w wr g2 g6 s v xs) (s' : S8) : Sz w (wr.setCells g6 0 (v32 s'.list).toList) g2 g6 s' v xs := by
  obtain ⟨cur, h1, h2, h3⟩ := setCells_row (v32 s'.list).toList 0 wr _ H.b6 (by show 0 + 8 ≤ 8; omega)
  obtain ⟨t1, t2, t3, t4⟩ := setCells_same g6 (v32 s'.list).toList 0 wr
  have hcur : cur = v32 s'.list := Array.toList_inj.1 (by rw [h3]; rfl)
  subst hcur
  have hfar : ∀ k, k ≠ g6 → (wr.setCells g6 0 (v32 s'.list).toList).heap[k]? = wr.heap[k]? := fun k hk => setCells_far _ _ k hk
  refine ⟨(hfar g2 H.n26).trans H.b2, h1, ?_, H.l2, H.l6, H.n26, ?_⟩
  · exact Kd.R_mono (Kd.R_step (Kd.R_types H.own H.b6 (by decide)) (fun k hk _ => hfar k hk.2)) (fun _ _ => trivial)
  · exact H.bel.trans ⟨t1, t2, t3, by rw [t4]; exact Nat.le_refl _, fun k hk => hfar k (by have := H.l6; omega)⟩
/-- Memory while the reference lays the bytes of the sum. -/
structure Sq (w wr : World) (g2 g8 g6 : Nat) (bs : List Int) (s : S8) : Prop where
  b2 : B8 wr g2 30 (List.replicate 32 0)
  b8 : B8 wr g8 30 bs
  b6 : B32 wr g6 23 s.list
  l2 : w.heap.size ≤ g2
  l8 : w.heap.size ≤ g8
  n28 : g2 ≠ g8
  n68 : g6 < g8
  bel : Below w.heap.size w wr
theorem Sq.set {w wr : World} {g2 g8 g6 : Nat} {bs : List Int} {s : S8} (H : Sq w wr g2 g8 g6 bs s) (i : Nat) (x : Int) : Sq w (wr.setCell ⟨g8, i, none⟩ (.int .u8 x)) g2 g8 g6 (bs.set i x) s :=
  ⟨blk_far (p := ⟨g8, i, none⟩) H.b2 H.n28 _, H.b8.set i x, blk_far (p := ⟨g8, i, none⟩) H.b6 (Nat.ne_of_lt H.n68) _, H.l2, H.l8, H.n28, H.n68, H.bel.setCell (p := ⟨g8, i, none⟩) H.l8 _⟩
set_option maxRecDepth 100000 in
set_option maxHeartbeats 4000000 in
theorem refsum_any {A : Option Addr} {n c : Nat} {r : List Int} (w : World) (HR : (Kd.int .u8).C w A n r) (hby : Byt r) (hm : r.length ≤ 1000000000) :
    Calls Tryd.prog 25 #[.slice A n c] w fun e w' => e = .returned (.agg (v8 (sum r))) ∧ Below w.heap.size w w' := by
  have hu30 := Tryd.underlying30
  have hu23 := Tryd.underlying23
  obtain rfl := HR.1
  have H := Aside0.mk HR
  have Hby := Aside0.mk hby
  clear HR hby
  go_enter Tryd.func25, Tryd.ntmps25
  go_wp2_with (first | ((with_reducible refine gate_dst (N := 2) rfl ?_); refine box_event ?hg (N := 2) ?hd (cs := v8 (List.replicate 32 0)) (t := 30) ?hr ?_; (case hd => rfl); (case hg => rfl); (case hr => first | (go_simp; done) | (go_simp; rfl)); intro g2 hg_ w1 hbox_ hb_; have H2 := Aside0.mk hbox_; have HB1 := Aside0.mk hb_; have Hg2 := Aside0.mk (show w.heap.size ≤ g2 from Nat.le_of_eq hg_.symm);clear hg_ hbox_ hb_) | ((with_reducible refine gate_dst (N := 10) rfl ?_); refine lit_none (w0 := w1) (w1.heap.size) ?hg (N := 10) ?hd ?hr (Below.refl _ _) (Nat.le_refl _) ?_; (case hd => rfl); (case hg => rfl); (case hr => first | (go_simp; done) | (go_simp; rfl)); intro v3 w3 ho_ hb_; have HO3 := Aside0.mk ho_; have HB3 := Aside0.mk hb_; clear ho_ hb_; ) | ((with_reducible refine gate_builtin (b := .append) (xs := #[.tmp 10, .tmp 11]) rfl ?_); at_builtin; refine append_row (w0 := w1) rfl (.tmp 10) (.tmp 11) rfl (w1.heap.size) (v3) ([]) (r) (A) (r.length) (c) rfl rfl (HO3.out) (Kd.C_below (Kd.C_below H.out HB1.out) HB3.out) (HB3.out) (HB3.out.size) (by simp; omega) ?_; intro v4 w4 ho_ hb_; have HO4 := Aside0.mk ho_; have HB4 := Aside0.mk hb_; clear ho_ hb_; ) | ((with_reducible refine gate_builtin (b := .append) (xs := #[.tmp 12, .tmp 13]) rfl ?_); at_builtin; refine append_one (w0 := w1) rfl (.tmp 12) (.tmp 13) rfl (w1.heap.size) (v4) ([] ++ r) (128) rfl rfl (HO4.out) (HB4.out) (HB4.out.size) (by simp; omega) ?_; intro v5 w5 ho_ hb_; have HO5 := Aside0.mk ho_; have HB5 := Aside0.mk hb_; clear ho_ hb_; ))
  have HO6 : Aside0 (Own w5 w1.heap.size v5 (r ++ 128 :: List.replicate 0 0)) := ⟨HO5.out⟩
  clear HO3 HO4 HO5 HB3 HB4
  go_loopg [3] (noughts r.length) (fun gk x wr => ∃ i : Nat, i + gk = noughts r.length ∧ Aside0 (Own wr w1.heap.size x (r ++ 128 :: List.replicate i 0)) ∧ Aside0 (Below w1.heap.size w1 wr))
  case atStart => exact ⟨0, by omega, HO6, HB5⟩
  case round =>
    clear HO6 HB5
    obtain ⟨i, hi, HO, HB⟩ := hrel
    obtain ⟨Ax, cx, rfl⟩ := Kd.R_slice HO.out
    have hll : (r ++ 128 :: List.replicate i 0).length = r.length + 1 + i := by simp; omega
    obtain ⟨L, hL⟩ : ∃ L, L = (r ++ 128 :: List.replicate i 0).length := ⟨_, rfl⟩
    rw [← hL] at HO ⊢
    have hL2 : L = r.length + 1 + i := by rw [hL, hll]
    have HL := Aside0.mk hL2
    have hno : noughts r.length < 64 := by unfold noughts; omega
    have hLb : L ≤ 1000000200 := by omega
    have HLx := Aside0.mk hL
    clear hL hll hL2
    by_cases hlt : i < noughts r.length
    · have ht : ((L : Int) % 64 != 56) = true := by
        have := HL.out
        have hm := mod_ref r.length i
        simp only [bne_iff_ne, ne_eq]
        omega
      obtain ⟨gq, rfl⟩ : ∃ gq, gk = gq + 1 := ⟨gk - 1, by omega⟩
      go_wp2_with (first | ((with_reducible refine gate_builtin (b := .append) (xs := #[.tmp 19, .tmp 20]) rfl ?_); at_builtin; refine append_one (w0 := w1) rfl (.tmp 19) (.tmp 20) rfl (w1.heap.size) (.slice Ax L cx) (r ++ 128 :: List.replicate i 0) (0) rfl rfl (HO.out) (HB.out) (HB.out.size) (by have := HLx.out; omega) ?_; intro v7 w7 ho_ hb_; have HO7 := Aside0.mk ho_; have HB7 := Aside0.mk hb_; clear ho_ hb_; ))
      go_roundg gq
      case measure => omega
      case rel =>
        refine ⟨i + 1, by omega, ⟨?_⟩, HB7⟩
        have := HO7.out
        rwa [List.append_assoc, List.cons_append, ← List.replicate_succ'] at this
    · have hie : i = noughts r.length := by omega
      have ht : ((L : Int) % 64 != 56) = false := by
        have := HL.out
        have hm := mod_ref r.length i
        simp only [bne_eq_false_iff_eq]
        omega
      go_wp2_with fail
      obtain ⟨P, hP⟩ : ∃ P, P = r ++ 128 :: List.replicate (noughts r.length) 0 := ⟨_, rfl⟩
      have HP := Aside0.mk hP
      have HOP : Aside0 (Own wr w1.heap.size (.slice Ax L cx) P) := ⟨by rw [hP, ← hie]; exact HO.out⟩
      have HPl : Aside0 (P.length ≤ 1000000200) := ⟨by rw [hP, ← hie, ← HLx.out]; exact hLb⟩
      clear hP HO
      go_loopg [3, 5] 8 (fun gk x y wr => ∃ j : Nat, j + gk = 8 ∧ y = .int .i64 (7 - (j : Int)) ∧ Aside0 (Own wr w1.heap.size x (P ++ (len8 (8 * r.length)).take j)) ∧ Aside0 (Below w1.heap.size w1 wr))
      case atStart => exact ⟨0, by omega, by simp, ⟨by rw [List.take_zero, List.append_nil]; exact HOP.out⟩, HB⟩
      case round =>
        clear HOP HB
        obtain ⟨j, hj, rfl, HO, HB⟩ := hrel
        obtain ⟨Ay, cy, rfl⟩ := Kd.R_slice HO.out
        obtain ⟨M, hM⟩ : ∃ M, M = (P ++ (len8 (8 * r.length)).take j).length := ⟨_, rfl⟩
        rw [← hM] at HO ⊢
        have hMb : M ≤ 1000000300 := by
          rw [hM, List.length_append, List.length_take]
          have := HPl.out
          have : (len8 (8 * r.length)).length = 8 := rfl
          omega
        have HMx := Aside0.mk hM
        clear hM
        by_cases hlt : j < 8
        · obtain ⟨gq, rfl⟩ : ∃ gq, gk = gq + 1 := ⟨gk - 1, by omega⟩
          obtain ⟨q, hq⟩ : ∃ q : Nat, (7 - (j : Int)) = (q : Int) := ⟨7 - j, by omega⟩
          rw [hq]
          have Hq := Aside0.mk hq
          clear hq
          have hq7 : q ≤ 7 := by have := Hq.out; omega
          go_wp2_with (first | ((with_reducible refine gate_builtin (b := .append) (xs := #[.tmp 30, .tmp 37]) rfl ?_); at_builtin; refine append_one (w0 := w1) rfl (.tmp 30) (.tmp 37) rfl (w1.heap.size) (.slice Ay M cy) (P ++ (len8 (8 * r.length)).take j) (8 * (r.length : Int) / 2 ^ (8 * q) % 256) rfl rfl (HO.out) (HB.out) (HB.out.size) (by have := HMx.out; omega) ?_; intro v8 w8 ho_ hb_; have HO8 := Aside0.mk ho_; have HB8 := Aside0.mk hb_; clear ho_ hb_; ))
          go_roundg gq
          case measure => omega
          case rel =>
            refine ⟨j + 1, by omega, ?_, ⟨?_⟩, HB8⟩
            · have hq8 : (q : Int) - 1 = 7 - ((j + 1 : Nat) : Int) := by have := Hq.out; omega
              rw [hq8]
            have := HO8.out
            rwa [List.append_assoc, len8_step r.length j q hlt (by have := Hq.out; omega)] at this
        · have hj8 : j = 8 := by omega
          subst hj8
          rw [show (7 - ((8 : Nat) : Int)) = -1 from rfl]
          obtain ⟨T, hT⟩ : ∃ T, T = P ++ (len8 (8 * r.length)).take 8 := ⟨_, rfl⟩
          have HT9 : Aside0 (T = r ++ pad r.length) := ⟨by rw [hT, HP.out]; show _ = r ++ 128 :: (List.replicate (noughts r.length) 0 ++ len8 (8 * r.length)); rw [List.append_assoc]; rfl⟩
          rw [← hT] at HO HMx
          have HTb : Aside0 (Byt T) := ⟨by rw [HT9.out]; exact Hby.out.append (pad_byt _)⟩
          have hM64 : M % 64 = 0 := by
            have h1 := pad_mod r.length
            rw [← List.length_append, ← HT9.out, ← HMx.out] at h1
            exact h1
          obtain ⟨N, hN⟩ : ∃ N, M = 64 * N := ⟨M / 64, by omega⟩
          have HN := Aside0.mk hN
          clear hT hM64 hN
          go_wp2_with fail
          refine (first_any _).mono ?_
          rintro e w9 ⟨rfl, hb9⟩
          have HO9 := Aside0.mk (Kd.R_below HO.out hb9)
          have HBx : Aside0 (Below w.heap.size w w9) := ⟨below_step (HB1.out.trans (HB.out.mono HB1.out.size)) hb9⟩
          have H29 : Aside0 (B8 w9 g2 30 (List.replicate 32 0)) := ⟨blk_below ((HB.out.block g2 (blk_lt H2.out)).trans H2.out) hb9⟩
          have hb19 : w.heap.size ≤ w1.heap.size := HB1.out.size
          have Hbx := Aside0.mk hb19
          clear hb9 hb19 HB HO HB1 H2
          go_wp2_with (first | ((with_reducible refine gate_dst (N := 6) rfl ?_); refine box_event ?hg (N := 6) ?hd (cs := v32 (List.replicate 8 0)) (t := 23) ?hr ?_; (case hd => rfl); (case hg => rfl); (case hr => first | (go_simp; done) | (go_simp; rfl)); intro g6 hg_ w10 hbox_ hb_; have H6 := Aside0.mk hbox_; have H210 := Aside0.mk (blk_below H29.out hb_); have HO10 := Aside0.mk (Kd.R_lower (Kd.R_below HO9.out hb_) Hbx.out); have HB10 := Aside0.mk (below_step HBx.out hb_); have K6 := Aside0.mk (show w.heap.size ≤ g6 ∧ g2 ≠ g6 from by rw [hg_]; exact ⟨HBx.out.size, Nat.ne_of_lt (blk_lt H29.out)⟩);clear hg_ hbox_ hb_) | ((with_reducible refine gate_store (t := 23) (p := 6) rfl ?_); refine store_row ?hg (ty := 23) (p := 6) (v := ?vr_1) ?ho ?hd (g := g6) (t := 23) (old := v32 (List.replicate 8 0)) (cells := v32 first.list) ?hx ?hy H6.out (size23 rfl) rfl (v32_one _) ?_; (case hd => rfl); (case hg => rfl); (case ho => rfl); (case hx => rfl); (case hy => rfl); intro w11 hbox_ hk_ hb_; have HS := Aside0.mk (show Sz w w11 g2 g6 first (.slice Ay M cy) T from ⟨(hk_.2 g2 (blk_lt H210.out) K6.out.2).trans H210.out, hbox_, Kd.R_mono (Kd.R_kept (Kd.R_types HO10.out H6.out (by decide)) hk_ (fun k hk => hk.2)) (fun _ _ => trivial), Hg2.out, K6.out.1, K6.out.2, HB10.out.trans (hb_.mono K6.out.1)⟩);clear hbox_ hk_ hb_))
          clear H6 H210 HO10 HB10 K6 HO9 HBx H29
          go_loopg [7] N (fun gk iv wr => ∃ i : Nat, i + gk = N ∧ iv = .int .i64 ((64 * i : Nat) : Int) ∧ Aside0 (Sz w wr g2 g6 (chain i first T) (.slice Ay M cy) T))
          case atStart => exact ⟨0, by omega, rfl, HS⟩
          case round =>
            clear HS
            obtain ⟨i, hi, rfl, HS⟩ := hrel
            by_cases hlt : i < N
            · obtain ⟨gq, rfl⟩ : ∃ gq, gk = gq + 1 := ⟨gk - 1, by omega⟩
              obtain ⟨wo, hwo⟩ : ∃ wo, wo = wr := ⟨_, rfl⟩
              subst hwo
              have hiM : 64 * i + 64 ≤ M := by have := HN.out; omega
              obtain ⟨at_, hat⟩ : ∃ a : Nat, a = 64 * i := ⟨_, rfl⟩
              rw [← hat]
              have Hat := Aside0.mk hat
              have hatM : at_ + 64 ≤ M := by omega
              clear hat
              have p1 : (0 : Int) ≤ (at_ : Int) := by omega
              have p2 : (at_ : Int) < (M : Int) := by omega
              obtain ⟨s, hs⟩ : ∃ s, s = chain i first T := ⟨_, rfl⟩
              have Hs := Aside0.mk hs
              rw [← hs] at HS
              clear hs
              have hMc := (Kd.R_reads' HS.out.own).2.1
              have hCT : (Kd.int .u8).C wo Ay M T := by rw [HMx.out]; exact (Kd.R_reads' HS.out.own).2.2
              obtain ⟨A', hcut, hC'⟩ := cut_bytes hCT hMc at_ 64 hatM
              replace hcut : ∀ W : World, (Instr.slice 27 (.slice Ay M cy) (some (.int .i64 at_)) (some (.int .i64 ((at_ : Int) + 64))) none).run Tryd.prog W = .ok (.slice A' 64 (cy - at_)) W := hcut
              have Hcut := Aside0.mk hcut
              have HC' := Aside0.mk hC'
              clear hcut hC' hCT hMc
              have e64 : IntKind.i64.wrap ((at_ : Int) + 64) = (at_ : Int) + 64 := IntWalk.i64_in _ (by omega)
              have hS : Aside0 (wo.drew.rangeAt g6 0 (v32 s.list).toList) := ⟨(World.rangeAt_drew _ _ _ _).2 (range_block HS.out.b6 _ ⟨[], by rw [List.append_nil]⟩)⟩
              have hTl : Aside0 (((T.drop at_).take 64).length = 64 ∧ Byt ((T.drop at_).take 64)) := ⟨by rw [List.length_take, List.length_drop, ← HMx.out]; omega, (HTb.out.drop _).take _⟩
              go_wp2_with fail
              refine start_ (S := fun W => Aside0 (W.rangeAt g6 0 (v32 s.list).toList)) (ds := [6, 7]) #[false, false, false, false, false, false, false, false] (by kernel_rfl) rfl rfl hS ?_
              intro hS_
              refine take_ (i := 0) (a' := ?a1_1) (v := .agg (v32 s.list)) #[true, false, false, false, false, false, false, false] rfl rfl (by kernel_rfl) (fun _ _ _ h => h) (yields_row rfl 23 (.tmp 6) rfl g6 0 rfl (v32 s.list) _ (fun w h => h.out) hu23 rfl (size23 rfl)) hS_ ?ha1_1 ?rest1_1
              case ha1_1 => go_simp; rfl
              refine pure_ (i := 1) (a' := ?a1_2) (v := .slice Ay M cy) #[true, true, false, false, false, false, false, false] rfl rfl (by kernel_rfl) (fun _ _ _ h => h) (Or.inl ⟨rfl, ?hy1_2⟩) ?ha1_2 ?rest1_2
              case hy1_2 => intro w; first | (go_simp; done) | (go_simp; with_reducible rfl) | (go_simp; rfl)
              case ha1_2 => go_simp; rfl
              refine pure_ (i := 2) (a' := ?a1_3) (v := .int .i64 at_) #[true, true, true, false, false, false, false, false] rfl rfl (by kernel_rfl) (fun _ _ _ h => h) (Or.inl ⟨rfl, ?hy1_3⟩) ?ha1_3 ?rest1_3
              case hy1_3 => intro w; first | (go_simp; done) | (go_simp; with_reducible rfl) | (go_simp; rfl)
              case ha1_3 => go_simp; rfl
              refine pure_ (i := 3) (a' := ?a1_4) (v := .int .i64 at_) #[true, true, true, true, false, false, false, false] rfl rfl (by kernel_rfl) (fun _ _ _ h => h) (Or.inl ⟨rfl, ?hy1_4⟩) ?ha1_4 ?rest1_4
              case hy1_4 => intro w; first | (go_simp; done) | (go_simp; with_reducible rfl) | (go_simp; rfl)
              case ha1_4 => go_simp; rfl
              refine pure_ (i := 4) (a' := ?a1_5) (v := .int .i64 ((at_ : Int) + 64)) #[true, true, true, true, true, false, false, false] rfl rfl (by kernel_rfl) (fun _ _ _ h => h) (Or.inl ⟨rfl, ?hy1_5⟩) ?ha1_5 ?rest1_5
              case hy1_5 => intro w; first | (go_simp; done) | (go_simp; with_reducible rfl) | (go_simp; rfl)
              case ha1_5 => go_simp; rfl
              refine pure_ (i := 5) (a' := ?a1_6) (v := .slice A' 64 (cy - at_)) #[true, true, true, true, true, true, false, false] rfl rfl (by kernel_rfl) (fun _ _ _ h => h) ?hy1_6 ?ha1_6 ?rest1_6
              case hy1_6 => exact yields_cut rfl (.tmp 47) (.tmp 48) (.tmp 50) rfl rfl rfl rfl Hcut.out
              case ha1_6 => go_simp; rfl
              refine last_ (i := 6) #[true, true, true, true, true, true, true, false] rfl rfl (by kernel_rfl) (by decide) ?_
              intro K_ hK_
              unfold Shut at hK_
              refine goes_ Tryd.func22 (by kernel_rfl) (by kernel_rfl) #[.agg (v32 s.list), .slice A' 64 (cy - at_)] rfl rfl rfl (by go_simp) ?_; refine (refstep_any s ((T.drop at_).take 64) hTl.out.1 hTl.out.2 _ (Kd.C_drew HC'.out)).mono ?_; rintro e w12 ⟨rfl, hb12⟩; have HS12 := Aside0.mk (HS.out.below (show Below wo.heap.size wo w12 from ⟨hb12.os, hb12.tape, hb12.output, hb12.size, hb12.block⟩)); clear hb12; refine ⟨_, rfl, hK_ _ _ ?_⟩; clear hK_
              refine last_ (i := 7) #[true, true, true, true, true, true, true, true] rfl rfl (by kernel_rfl) (by decide) ?_
              intro K_ hK_
              unfold Shut at hK_
              refine skip_ rfl rfl (run_store_row 23 (.tmp 6) (.tmp 52) rfl g6 0 (v32 (step s ((T.drop at_).take 64)).list) rfl rfl (there_block HS12.out.b6 0 _ (by show 0 + 8 ≤ 8; omega)) (size23 rfl) (v32_one _)) ?_; refine hK_ _ _ ?_; clear hK_
              refine done_ (by kernel_rfl) ?_
              have HS13 := Aside0.mk (HS12.out.stored (step s ((T.drop at_).take 64)))
              have Hnx : Aside0 (step s ((T.drop at_).take 64) = chain (i + 1) first T) := ⟨by rw [chain_succ, ← Hs.out, Hat.out]⟩
              rw [Hnx.out] at HS13
              obtain ⟨w13, hw13⟩ : ∃ w13, w13 = w12.setCells g6 0 (v32 (step s ((T.drop at_).take 64)).list).toList := ⟨_, rfl⟩
              rw [Hnx.out] at hw13
              rw [Hnx.out, ← hw13]
              rw [← hw13] at HS13
              clear hw13 HS12 HS hS e64 Hcut HC'
              go_wp2_with fail
              go_roundg gq
              case measure => omega
              case rel => exact ⟨i + 1, by omega, by have := Hat.out; go_num, HS13⟩
            · have hiN : i = N := by omega
              subst hiN
              have hM64 : M = 64 * i := HN.out
              rw [← hM64]
              obtain ⟨s, hs⟩ : ∃ s, s = chain i first T := ⟨_, rfl⟩
              have HF : Aside0 (s.bytes = sum r) := ⟨by
                rw [hs]
                unfold sum
                rw [← HT9.out, ← List.length_append, ← HT9.out, ← HMx.out, HN.out, Nat.mul_div_cancel_left _ (by decide)]⟩
              rw [← hs] at HS
              clear hs hM64 hlt
              go_wp2_with (first | ((with_reducible refine gate_dst (N := 8) rfl ?_); refine box_event ?hg (N := 8) ?hd (cs := v8 (List.replicate 32 0)) (t := 30) ?hr ?_; (case hd => rfl); (case hg => rfl); (case hr => first | (go_simp; done) | (go_simp; rfl)); intro g8 hg_ w14 hbox_ hb_; have HS8 := Aside0.mk (show Sq w w14 g2 g8 g6 (List.replicate 32 0) s from ⟨(HS.out.below hb_).b2, hbox_, (HS.out.below hb_).b6, HS.out.l2, by rw [hg_]; exact HS.out.bel.size, by rw [hg_]; exact Nat.ne_of_lt (blk_lt HS.out.b2), by rw [hg_]; exact blk_lt HS.out.b6, (HS.out.below hb_).bel⟩);clear hg_ hbox_ hb_))
              clear HS HN HT9 HTb HMx HP HPl HLx HL
              go_loopg [9] 32 (fun gk iv wr => ∃ (i : Nat) (bs : List Int), i + gk = 32 ∧ iv = .int .i64 i ∧ Aside0 (Sq w wr g2 g8 g6 bs s) ∧ Aside0 (bs.length = 32 ∧ ∀ j, j < i → bs.getD j 0 = s.bytes.getD j 0))
              case atStart => exact ⟨0, _, by omega, rfl, HS8, ⟨by simp, fun j hj => by omega⟩⟩
              case round =>
                clear HS8
                obtain ⟨i, bs, hi, rfl, HS, HV⟩ := hrel
                by_cases hlt : i < 32
                · obtain ⟨gq, rfl⟩ : ∃ gq, gk = gq + 1 := ⟨gk - 1, by omega⟩
                  have hx := HS.out.b6.get (i / 4) (by show i / 4 < 8; omega)
                  obtain ⟨x, hxe⟩ : ∃ x, x = s.list.getD (i / 4) 0 := ⟨_, rfl⟩
                  rw [← hxe] at hx
                  have Hxe := Aside0.mk hxe
                  clear hxe
                  have hb3 := (blk_cell HS.out.b8 i).trans (v8_get (l := bs) (by rw [HV.out.1]; exact hlt))
                  have hf3 := blk_frozen HS.out.b8 i
                  have p1 : (0 : Int) ≤ (i : Int) := by omega
                  have p2 : (i : Int) < 32 := by omega
                  go_wp2_with fail
                  have hval : num x / 2 ^ (24 - 8 * (i % 4)) % 256 = s.bytes.getD i 0 := by
                    rw [byte_at s i hlt, ← Hxe.out]
                    unfold num
                    simp
                  rw [hval]
                  have HS2 := Aside0.mk (HS.out.set i (s.bytes.getD i 0))
                  have HV2 : Aside0 ((bs.set i (s.bytes.getD i 0)).length = 32 ∧ ∀ j, j < i + 1 → (bs.set i (s.bytes.getD i 0)).getD j 0 = s.bytes.getD j 0) := ⟨by
                    refine ⟨by rw [List.length_set]; exact HV.out.1, fun j hj => ?_⟩
                    have hlen := HV.out.1
                    by_cases hji : j = i
                    · subst hji
                      rw [List.getD_eq_getElem?_getD, List.getElem?_set_self (by omega), Option.getD_some]
                    · rw [List.getD_eq_getElem?_getD, List.getElem?_set_ne (by omega), ← List.getD_eq_getElem?_getD, HV.out.2 j (by omega)]⟩
                  clear HS HV hx hb3 hf3 hval
                  go_roundg gq
                  case measure => omega
                  case rel => exact ⟨i + 1, _, by omega, by go_num, HS2, HV2⟩
                · have hi32 : i = 32 := by omega
                  subst hi32
                  have hbs : bs = s.bytes := bytes_ext HV.out.1 HV.out.2
                  subst hbs
                  have hl32 : s.bytes.length = 32 := rfl
                  obtain ⟨bs, hbs⟩ : ∃ bs, bs = s.bytes := ⟨_, rfl⟩
                  rw [← hbs] at HS hl32 HF
                  have Hl32 := Aside0.mk hl32
                  clear hl32 hbs HV
                  go_wp2_with (first | ((with_reducible refine gate_dst (N := 70) rfl ?_); refine wpList_load_row rfl 30 (.tmp 8) rfl g8 rfl 30 (v8 bs) (0, 0) _ HS.out.b8 hu30 rfl (size30 Hl32.out) ?_) | ((with_reducible refine gate_store (t := 30) (p := 2) rfl ?_); refine store_row ?hg (ty := 30) (p := 2) (v := ?vr_2) ?ho ?hd (g := g2) (t := 30) (old := v8 (List.replicate 32 0)) (cells := v8 bs) ?hx ?hy HS.out.b2 (size30 Hl32.out) (by rw [v8_size, v8_size, Hl32.out, List.length_replicate]) (v8_one _) ?_; (case hd => rfl); (case hg => rfl); (case ho => rfl); (case hx => rfl); (case hy => rfl); intro w15 hbox_ hk_ hb_; have HR := Aside0.mk hbox_; have HBf := Aside0.mk (HS.out.bel.trans (hb_.mono HS.out.l2));clear hbox_ hk_ hb_))
                  refine bodyPost_ret (results_cell_row rfl _ _ g2 30 (v8 bs) (0, 0) _ rfl HR.out Tryd.underlying30 rfl (size30 Hl32.out)) rfl ?_
                  exact ⟨by rw [HF.out], HBf.out⟩
end Go.Proofs.YtpigkgnmegpddaaDoor.Sh
