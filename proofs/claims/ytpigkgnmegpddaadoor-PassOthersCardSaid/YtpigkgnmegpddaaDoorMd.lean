/-
The chapter's example; (*mac.Key).Fits, walked.
-/
import Derived.Test.YtpigkgnmegpddaaDoorMc
namespace Go.Proofs.YtpigkgnmegpddaaDoor.Sh
set_option linter.unusedVariables false
set_option linter.unusedSimpArgs false
open Go.RowKit Go.Proofs.YtpigkgnmegpddaaDoorW.PrintWords Go.Proofs.YtpigkgnmegpddaaDoorW.PrintLast Go.Proofs.YtpigkgnmegpddaaDoorW.PrintMore

abbrev Want : List Int := [119, 104, 97, 116, 32, 100, 111, 32, 121, 97, 32, 119, 97, 110, 116, 32, 102, 111, 114, 32, 110, 111, 116, 104, 105, 110, 103, 63]
theorem jefe_get : ∀ i, i < 4 → (tag [74, 101, 102, 101] Want).getD i 0 = [91, 220, 193, 70].getD i 0 := by
  intro i hi
  rw [← tag_jefe, List.getD_eq_getElem?_getD, List.getD_eq_getElem?_getD, List.getElem?_take, if_pos hi]
theorem lit_C {W : World} {k : Nat} {l : List Int} {fr : Nat × Nat} (h : W.heap[k]? = some (.cells (v8 l) 5 fr)) (hl : l.length ≤ 9223372036854775807) : (Kd.int .u8).C W (some ⟨k, 0, none⟩) l.length l :=
  (Rd.block (S := fun _ => False) h (fun h => h) rfl hl (fun j hj => by rw [Nat.zero_add]; exact v8_get hj)).now
/-- mac.Tag of one part. -/
theorem tag_one {W : World} {b n c n2 c2 : Nat} {A A2 : Option Addr} {key xs : List Int} (hT : Tab W) (hC : (Kd.int .u8).C W A n key) (hc : n ≤ c) (hby : Byt key) (hm : key.length ≤ 1000000) (hC2 : (Kd.int .u8).C W A2 n2 xs) (hc2 : n2 ≤ c2) (hby2 : Byt xs) (hm2 : xs.length ≤ 1000000) (hb : b = W.heap.size) :
    Calls Tryd.prog 33 #[.slice A n c, .slice (some ⟨b, 0, none⟩) 1 1] (W.alloc (.cells #[.slice A2 n2 c2] 27)) fun e w' => e = .returned (.agg (v8 (tag key xs))) ∧ Below W.heap.size W w' := by
  subst hb
  have hba := below_alloc (Below.refl W.heap.size W) (.cells #[.slice A2 n2 c2] 27)
  refine (tag_any (A2 := some ⟨W.heap.size, 0, none⟩) (n2 := 1) (c2 := 1) (ps := [xs]) (W.alloc (.cells #[.slice A2 n2 c2] 27)) (hT.below hba) (Kd.C_below hC hba) hc hby hm
    (parts_one (heap_alloc_new _ _) (fun h => h) (Rd.came hC2 hba (fun _ hk => hk.elim)) hc2) (fun p hp => by rw [List.mem_singleton.1 hp]; exact hby2) (by simpa using hm2)).mono ?_
  rintro e w' ⟨rfl, hb⟩
  have e1 : [xs].flatten = xs := by simp
  rw [e1]
  exact ⟨rfl, below_step hba hb⟩
set_option maxRecDepth 100000 in
theorem awake03_any (w : World) (hT : Tab w) : Calls Tryd.prog 36 #[] w fun e w' => e = .returned (.bool true) ∧ Below w.heap.size w w' := by
  have HT := Aside0.mk hT
  clear hT
  have hcv := fun (w : World) (C : Array Value) (n c : Nat) => Lib.run_convert_bytes_const (P := Tryd.prog) w 27 5 C n c Tryd.underlying27 Tryd.underlying5
  have hcv2 := fun (w : World) (o : Obj) (C : Array Value) (n c : Nat) => (show _ from (by have h := Lib.run_convert_bytes_const (P := Tryd.prog) (w.alloc o) 27 5 C n c Tryd.underlying27 Tryd.underlying5; rw [show (w.alloc o).heap.size = w.heap.size + 1 from by simp] at h; exact h))
  go_enter Tryd.func36, Tryd.ntmps36
  go_wp2_with fail
  have hw : ∃ w1 w2 b1 b2, w1 = (w.alloc (.cells #[.int .u8 74, .int .u8 101, .int .u8 102, .int .u8 101] 5 (4, 5))) ∧ w2 = w1.alloc (.cells #[.int .u8 119, .int .u8 104, .int .u8 97, .int .u8 116, .int .u8 32, .int .u8 100, .int .u8 111, .int .u8 32, .int .u8 121, .int .u8 97, .int .u8 32, .int .u8 119, .int .u8 97, .int .u8 110, .int .u8 116, .int .u8 32, .int .u8 102, .int .u8 111, .int .u8 114, .int .u8 32, .int .u8 110, .int .u8 111, .int .u8 116, .int .u8 104, .int .u8 105, .int .u8 110, .int .u8 103, .int .u8 63] 5 (28, 29)) ∧ b1 = w.heap.size ∧ b2 = w.heap.size + 1 := ⟨_, _, _, _, rfl, rfl, rfl, rfl⟩
  obtain ⟨w1, w2, b1, b2, hw1, hw2, hb1, hb2⟩ := hw
  have hs1 : w1.heap.size = b2 := by rw [hw1, hb2]; simp
  have hsz : b2 + 1 = w2.heap.size := by rw [hw2]; simp [hs1]
  have hC1 : (Kd.int .u8).C w2 (some ⟨b1, 0, none⟩) 4 [74, 101, 102, 101] := by
    have h1 : w1.heap[b1]? = some (.cells (v8 [74, 101, 102, 101]) 5 (4, 5)) := by rw [hw1, hb1]; exact heap_alloc_new w _
    have h2 := Kd.C_below (lit_C h1 (by decide)) (below_alloc (Below.refl w1.heap.size w1) (.cells #[.int .u8 119, .int .u8 104, .int .u8 97, .int .u8 116, .int .u8 32, .int .u8 100, .int .u8 111, .int .u8 32, .int .u8 121, .int .u8 97, .int .u8 32, .int .u8 119, .int .u8 97, .int .u8 110, .int .u8 116, .int .u8 32, .int .u8 102, .int .u8 111, .int .u8 114, .int .u8 32, .int .u8 110, .int .u8 111, .int .u8 116, .int .u8 104, .int .u8 105, .int .u8 110, .int .u8 103, .int .u8 63] 5 (28, 29)))
    rw [← hw2] at h2
    exact h2
  have hC2 : (Kd.int .u8).C w2 (some ⟨b2, 0, none⟩) 28 Want := by
    refine lit_C (fr := (28, 29)) (l := Want) ?_ (by decide)
    rw [hw2, ← hs1]
    exact heap_alloc_new w1 _
  have hbel : Below w.heap.size w w2 := by rw [hw2, hw1]; exact below_alloc (below_alloc (Below.refl _ _) _) _
  rw [← hw1, ← hw2, ← hb2, ← hb1]
  refine (tag_one (HT.out.below hbel) hC1 (by decide) (Byt.lit (by decide)) (by decide) hC2 (by decide) (Byt.lit (by decide)) (by decide) hsz).mono ?_
  rintro e w3 ⟨rfl, hb3⟩
  have HB2 := Aside0.mk (below_step hbel hb3)
  obtain ⟨bs, hbs⟩ : ∃ bs, bs = tag [74, 101, 102, 101] Want := ⟨_, rfl⟩
  have Hl : Aside0 (bs.length = 32) := ⟨by rw [hbs]; rfl⟩
  have Hg : Aside0 (bs.getD 0 0 = 91 ∧ bs.getD 1 0 = 220 ∧ bs.getD 2 0 = 193 ∧ bs.getD 3 0 = 70) := ⟨by rw [hbs]; exact ⟨jefe_get 0 (by decide), jefe_get 1 (by decide), jefe_get 2 (by decide), jefe_get 3 (by decide)⟩⟩
  rw [← hbs]
  clear hbs hw1 hw2 hb1 hb2 hC1 hC2 hbel hsz hs1 hb3 hcv hcv2
  have hu30 := Tryd.underlying30
  go_wp2_with (first | ((with_reducible refine gate_dst (N := 1) rfl ?_); refine box_event ?hg (N := 1) ?hd (cs := v8 (List.replicate 32 0)) (t := 30) ?hr ?_; (case hd => rfl); (case hg => rfl); (case hr => first | (go_simp; done) | (go_simp; rfl)); intro g1 hg_ w4 hbox_ hb_; have H1 := Aside0.mk hbox_; have HB3 := Aside0.mk (below_step HB2.out hb_); have Hg1 := Aside0.mk (show w.heap.size ≤ g1 from by rw [hg_]; exact HB2.out.size);clear hg_ hbox_ hb_) | ((with_reducible refine gate_store (t := 30) (p := 1) rfl ?_); refine store_row ?hg (ty := 30) (p := 1) (v := ?vr_1) ?ho ?hd (g := g1) (t := 30) (old := v8 (List.replicate 32 0)) (cells := v8 bs) ?hx ?hy H1.out (size30 Hl.out) (by rw [v8_size, v8_size, Hl.out, List.length_replicate]) (v8_one _) ?_; (case hd => rfl); (case hg => rfl); (case ho => rfl); (case hx => rfl); (case hy => rfl); intro w5 hbox_ hk_ hb_; have HR := Aside0.mk hbox_; have HBf := Aside0.mk (HB3.out.trans (hb_.mono Hg1.out)); have hc0 : w5.cell? ⟨g1, 0, none⟩ = some (.int .u8 91) := (B8.get (t := 30) HR.out 0 (by rw [Hl.out]; decide)).trans (by rw [Hg.out.1]); have hc1 : w5.cell? ⟨g1, 1, none⟩ = some (.int .u8 220) := (B8.get (t := 30) HR.out 1 (by rw [Hl.out]; decide)).trans (by rw [Hg.out.2.1]); have hc2 : w5.cell? ⟨g1, 2, none⟩ = some (.int .u8 193) := (B8.get (t := 30) HR.out 2 (by rw [Hl.out]; decide)).trans (by rw [Hg.out.2.2.1]); have hc3 : w5.cell? ⟨g1, 3, none⟩ = some (.int .u8 70) := (B8.get (t := 30) HR.out 3 (by rw [Hl.out]; decide)).trans (by rw [Hg.out.2.2.2]);clear hbox_ hk_ hb_))
  go_ret
  exact ⟨rfl, HBf.out⟩
set_option maxRecDepth 100000 in
set_option maxHeartbeats 4000000 in
theorem fits_any {g : Nat} {kb : List Int} {A A2 : Option Addr} {n c n2 c2 : Nat} {tg : List Int} {ps : List (List Int)} (w : World) (hT : Tab w) (hk : Kk w g kb) (hkl : kb.length = 64) (hkb : Byt kb) (hC : (Kd.int .u8).C w A n tg) (hc : n ≤ c) (hbt : Byt tg) (hR : Rp (fun _ => False) w A2 n2 ps) (hby : ∀ p ∈ ps, Byt p) (hm : (ps.map List.length).sum ≤ 1000000) :
    Calls Tryd.prog 37 #[.pointer (some ⟨g, 0, none⟩), .slice A n c, .slice A2 n2 c2] w fun e w' => e = .returned (.bool (decide (tg = tagk kb ps.flatten))) ∧ Below w.heap.size w w' := by
  have hu30 := Tryd.underlying30
  have HT := Aside0.mk hT
  have HC := Aside0.mk hC
  have Hn := Aside0.mk hC.1
  have hnm := hC.2.1
  have Hbt := Aside0.mk hbt
  obtain ⟨F, hF⟩ : ∃ F, F = decide (tg = tagk kb ps.flatten) := ⟨_, rfl⟩
  have HF := Aside0.mk hF
  rw [← hF]
  clear hF hT hC hbt
  have HK := Aside0.mk hk
  have HR := Aside0.mk hR
  have Hx := Aside0.mk (And.intro hkl (And.intro hkb (And.intro hby hm)))
  clear hk hkl hkb hR hby hm
  go_enter Tryd.func37, Tryd.ntmps37
  go_wp2_with fail
  refine (ktag_any _ HT.out HK.out Hx.out.1 Hx.out.2.1 HR.out Hx.out.2.2.1 Hx.out.2.2.2).mono ?_
  rintro e w1 ⟨rfl, hb1⟩
  obtain ⟨bs, hbs⟩ : ∃ bs, bs = tagk kb ps.flatten := ⟨_, rfl⟩
  have Hl : Aside0 (bs.length = 32 ∧ Byt bs) := ⟨by rw [hbs]; exact ⟨rfl, tagk_byt _ _⟩⟩
  have HF2 : Aside0 (F = decide (tg = bs)) := ⟨by rw [HF.out, hbs]⟩
  rw [← hbs]
  have HB1 := Aside0.mk hb1
  clear hb1 hbs HF HK HR
  by_cases h32 : n = 32
  · subst h32
    go_wp2_with (first | ((with_reducible refine gate_dst (N := 7) rfl ?_); refine box_event ?hg (N := 7) ?hd (cs := v8 (List.replicate 32 0)) (t := 30) ?hr ?_; (case hd => rfl); (case hg => rfl); (case hr => first | (go_simp; done) | (go_simp; rfl)); intro g7 hg_ w2 hbox_ hb_; have H2 := Aside0.mk hbox_; have HB2 := Aside0.mk (below_step HB1.out hb_); have Hg7 := Aside0.mk (show w.heap.size ≤ g7 from by rw [hg_]; exact HB1.out.size);clear hg_ hbox_ hb_) | ((with_reducible refine gate_store (t := 30) (p := 7) rfl ?_); refine store_row ?hg (ty := 30) (p := 7) (v := ?vr_2) ?ho ?hd (g := g7) (t := 30) (old := v8 (List.replicate 32 0)) (cells := v8 bs) ?hx ?hy H2.out (size30 Hl.out.1) (by rw [v8_size, v8_size, Hl.out.1, List.length_replicate]) (v8_one _) ?_; (case hd => rfl); (case hg => rfl); (case ho => rfl); (case hx => rfl); (case hy => rfl); intro w3 hbox_ hk_ hb_; have H3 := Aside0.mk (show B8 w3 g7 30 bs from hbox_); have HB3 := Aside0.mk (HB2.out.trans (hb_.mono Hg7.out));clear hbox_ hk_ hb_))
    clear H2 HB2 HB1
    go_loopg [8, 20] 32 (fun gk dv iv wr => ∃ i q : Nat, i + gk = 32 ∧ iv = .int .i64 i ∧ dv = .int .u8 (diff bs tg i) ∧ wr = w3.drewN q)
    case atStart => exact ⟨0, 0, by omega, rfl, rfl, rfl⟩
    case round =>
      obtain ⟨i, q, hi, rfl, rfl, rfl⟩ := hrel
      obtain ⟨w4, hw4⟩ : ∃ w4, w4 = w3.drewN q := ⟨_, rfl⟩
      have HB4 : Aside0 (Below w.heap.size w w4) := ⟨by rw [hw4]; exact pw_below_drewN HB3.out q⟩
      have H4 : Aside0 (B8 w4 g7 30 bs) := ⟨by rw [hw4]; exact H3.out⟩
      rw [← hw4]
      have Hw4 := Aside0.mk hw4
      clear hw4
      by_cases hlt : i < 32
      · obtain ⟨gq, rfl⟩ : ∃ gq, gk = gq + 1 := ⟨gk - 1, by omega⟩
        have hCr := Kd.C_below HC.out HB4.out
        obtain ⟨ad, rfl⟩ := C_some hCr (by omega)
        have hy := C_cell hCr rfl i hlt
        have hx : w4.cell? ⟨g7, i, none⟩ = some (.int .u8 (bs.getD i 0)) := B8.get (t := 30) H4.out i (by rw [Hl.out.1]; exact hlt)
        obtain ⟨x, hxe⟩ : ∃ x, x = bs.getD i 0 := ⟨_, rfl⟩
        obtain ⟨y, hye⟩ : ∃ y, y = tg.getD i 0 := ⟨_, rfl⟩
        obtain ⟨d, hd⟩ : ∃ d, d = diff bs tg i := ⟨_, rfl⟩
        have Hd1 : Aside0 (diff bs tg (i + 1) = Go.bits .or .u8 d (Go.bits .xor .u8 x y)) := ⟨by rw [diff, ← hxe, ← hye, ← hd]; rfl⟩
        rw [← hxe] at hx
        rw [← hye] at hy
        rw [← hd]
        have p1 : (0 : Int) ≤ (i : Int) := by omega
        have p2 : (i : Int) < 32 := by omega
        clear hCr hxe hye hd
        go_wp2_with fail
        go_quiet (fail)
        go_wp2_with fail
        go_roundg gq
        case measure => omega
        case rel =>
          refine ⟨i + 1, q + nq, by omega, by go_num, ?_, ?_⟩
          · rw [Hd1.out]
          · rw [Hw4.out, World.drewN_drewN]
      · have hi32 : i = 32 := by omega
        subst hi32
        have HFd : Aside0 (F = (diff bs tg 32 == 0)) := ⟨by
          rw [HF2.out]
          have h := diff_same Hl.out.2 Hbt.out 32 Hl.out.1 Hn.out
          by_cases he : diff bs tg 32 = 0
          · rw [he, decide_eq_true (h.1 he).symm]; rfl
          · rw [decide_eq_false (fun e => he (h.2 e.symm))]
            simp [he]⟩
        obtain ⟨d, hd⟩ : ∃ d, d = diff bs tg 32 := ⟨_, rfl⟩
        rw [← hd] at HFd ⊢
        clear hd
        go_wp2_with fail
        go_ret
        exact ⟨congrArg (fun b => Ending.returned (.bool b)) HFd.out.symm, HB4.out⟩
  · have hFf : F = false := by
      rw [HF2.out, decide_eq_false]
      intro he
      exact h32 (by rw [← Hn.out, he, Hl.out.1])
    subst hFf
    have h32i : ((n : Int) != 32) = true := by simp; omega
    go_wp2_with (first | ((with_reducible refine gate_dst (N := 7) rfl ?_); refine box_event ?hg (N := 7) ?hd (cs := v8 (List.replicate 32 0)) (t := 30) ?hr ?_; (case hd => rfl); (case hg => rfl); (case hr => first | (go_simp; done) | (go_simp; rfl)); intro g7 hg_ w2 hbox_ hb_; have H2 := Aside0.mk hbox_; have HB2 := Aside0.mk (below_step HB1.out hb_); have Hg7 := Aside0.mk (show w.heap.size ≤ g7 from by rw [hg_]; exact HB1.out.size);clear hg_ hbox_ hb_) | ((with_reducible refine gate_store (t := 30) (p := 7) rfl ?_); refine store_row ?hg (ty := 30) (p := 7) (v := ?vr_3) ?ho ?hd (g := g7) (t := 30) (old := v8 (List.replicate 32 0)) (cells := v8 bs) ?hx ?hy H2.out (size30 Hl.out.1) (by rw [v8_size, v8_size, Hl.out.1, List.length_replicate]) (v8_one _) ?_; (case hd => rfl); (case hg => rfl); (case ho => rfl); (case hx => rfl); (case hy => rfl); intro w3 hbox_ hk_ hb_; have HB3 := Aside0.mk (HB2.out.trans (hb_.mono Hg7.out));clear hbox_ hk_ hb_))
    go_ret
    exact ⟨rfl, HB3.out⟩
set_option maxRecDepth 100000 in
theorem fits_nil {A A2 : Option Addr} {n c n2 c2 : Nat} (w : World) :
    Calls Tryd.prog 37 #[.pointer none, .slice A n c, .slice A2 n2 c2] w fun e w' => e = .returned (.bool false) ∧ Below w.heap.size w w' := by
  have hu30 := Tryd.underlying30
  go_enter Tryd.func37, Tryd.ntmps37
  go_wp2_with fail
  refine (ktag_nil _).mono ?_
  rintro e w1 ⟨rfl, hb1⟩
  have HB1 := Aside0.mk hb1
  clear hb1
  go_wp2_with (first | ((with_reducible refine gate_dst (N := 7) rfl ?_); refine box_event ?hg (N := 7) ?hd (cs := v8 (List.replicate 32 0)) (t := 30) ?hr ?_; (case hd => rfl); (case hg => rfl); (case hr => first | (go_simp; done) | (go_simp; rfl)); intro g7 hg_ w2 hbox_ hb_; have H2 := Aside0.mk hbox_; have HB2 := Aside0.mk (below_step HB1.out hb_); have Hg7 := Aside0.mk (show w.heap.size ≤ g7 from by rw [hg_]; exact HB1.out.size);clear hg_ hbox_ hb_) | ((with_reducible refine gate_store (t := 30) (p := 7) rfl ?_); refine store_row ?hg (ty := 30) (p := 7) (v := ?vr_4) ?ho ?hd (g := g7) (t := 30) (old := v8 (List.replicate 32 0)) (cells := v8 (List.replicate 32 0)) ?hx ?hy H2.out (size30 rfl) rfl (v8_one _) ?_; (case hd => rfl); (case hg => rfl); (case ho => rfl); (case hx => rfl); (case hy => rfl); intro w3 hbox_ hk_ hb_; have HB3 := Aside0.mk (HB2.out.trans (hb_.mono Hg7.out));clear hbox_ hk_ hb_))
  go_ret
  exact ⟨rfl, HB3.out⟩
end Go.Proofs.YtpigkgnmegpddaaDoor.Sh
