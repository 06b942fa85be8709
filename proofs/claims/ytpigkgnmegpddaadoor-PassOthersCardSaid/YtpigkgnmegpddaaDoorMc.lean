/-
few, ref03.All, ref03.Tag, the chapter's example, walked.
-/
import Derived.Test.YtpigkgnmegpddaaDoorMb
import Derived.Test.YtpigkgnmegpddaaDoorLc
namespace Go.Proofs.YtpigkgnmegpddaaDoor.Sh
set_option linter.unusedVariables false
set_option linter.unusedSimpArgs false
open Go.RowKit Go.Proofs.YtpigkgnmegpddaaDoorW.PrintWords Go.Proofs.YtpigkgnmegpddaaDoorW.PrintLast Go.Proofs.YtpigkgnmegpddaaDoorW.PrintMore

section
variable {ops : Array Oper} {rest : List Oper} {o : Oper} {a : Act} {Q : Exit → Act → World → Prop}
theorem append_oneg {w0 W : World} (hgd : o.guard = none) (s x : Operand) (ho : o.op = .call { callee := .builtin .append, args := #[s, x], argTypes := #[27, 27] })
    (base : Nat) (v : Value) (xs : List Int) (y : Int) (hs : a.eval s = v) (hx : a.eval x = .slice (some ⟨W.heap.size, 0, none⟩) 1 1) (HO : Own W base v xs) (HB : Below base w0 W) (hbase : base ≤ W.heap.size) (hl : xs.length + 1 ≤ 140737488355328)
    (h : ∀ v1 w1, Own w1 base v1 (xs ++ [y]) → Below base w0 w1 → W.grownBy w1 v.ownBlock → (v1.ownBlock = v.ownBlock ∨ ∃ b, v1.ownBlock = some b ∧ W.heap.size ≤ b) → wpList Tryd.prog ops Q rest (a.put o.dst v1) w1) :
    wpList Tryd.prog ops Q (o :: rest) a (W.alloc (.cells #[.int .u8 y] 5)) :=
  Kd.R_append (Kd.int .u8) (w0 := w0) base hgd s x 27 5 (.int .u8 0) 1 ho Tryd.underlying27 info5z rfl (by decide) (by decide) v xs y [.int .u8 y] (fun _ => True) (fun _ => False) hs hx rfl (fun _ hk => hk.elim) (fun _ _ => trivial) HO HB hbase (by omega)
    (fun v1 w1 h1 h2 h3 h4 => h v1 w1 h1 h2 h3 h4)
end
/-- Two rows that grow beside one another. -/
structure Tw (w wr : World) (va vb : Value) (xs ys : List Int) : Prop where
  a : Own wr w.heap.size va xs
  b : Own wr w.heap.size vb ys
  ap : ∀ k, va.ownBlock = some k → vb.ownBlock ≠ some k
  bel : Below w.heap.size w wr
theorem Tw.swap {w wr : World} {va vb : Value} {xs ys : List Int} (H : Tw w wr va vb xs ys) : Tw w wr vb va ys xs := ⟨H.b, H.a, fun k hb ha => H.ap k ha hb, H.bel⟩
theorem Tw.app {w wr w1 : World} {va vb va' : Value} {xs xs' ys : List Int} (H : Tw w wr va vb xs ys) (h1 : Own w1 w.heap.size va' xs') (hb : Below w.heap.size w w1) (hg : wr.grownBy w1 va.ownBlock) (hat : va'.ownBlock = va.ownBlock ∨ ∃ b, va'.ownBlock = some b ∧ wr.heap.size ≤ b) : Tw w w1 va' vb xs' ys := by
  refine ⟨h1, Kd.R_mono (Kd.R_grown (Kd.R_tight rfl H.b) hg (fun k hk he => H.ap k he.symm hk.symm)) (fun _ _ => trivial), fun k hk he => ?_, hb⟩
  rcases hat with h | ⟨b, h, hle⟩
  · exact H.ap k (by rw [← h, hk]) he
  · rw [h] at hk
    injection hk with hk
    have := Kd.R_lt H.b k he
    omega
theorem Tw.below {w wr w1 : World} {va vb : Value} {xs ys : List Int} (H : Tw w wr va vb xs ys) (hb : Below wr.heap.size wr w1) : Tw w w1 va vb xs ys := ⟨Kd.R_below H.a hb, Kd.R_below H.b hb, H.ap, below_step H.bel hb⟩
theorem xr_snoc (k : Int) (kb : List Int) (i : Nat) (hi : i < kb.length) : xr k (kb.take i) ++ [xo (kb.getD i 0) k] = xr k (kb.take (i + 1)) := by
  rw [List.take_succ_eq_append_getElem hi, List.getD_eq_getElem?_getD, List.getElem?_eq_getElem hi]
  simp only [xr, List.map_append, List.map_cons, List.map_nil]
  rfl
set_option maxRecDepth 100000 in
theorem few12_any {A : Option Addr} {n c : Nat} {ps : List (List Int)} (w : World) (hC : (Kd.slice 27 (Kd.int .u8)).C w A n ps) :
    Calls Tryd.prog 30 #[.slice A n c] w fun e w' => e = .returned (.bool (fewB 12 ps)) ∧ w = w' := by
  have HC := Aside0.mk hC
  have Hn := Aside0.mk hC.1
  have hnm := hC.2.1
  clear hC
  obtain ⟨F, hF⟩ : ∃ F, F = fewB 12 ps := ⟨_, rfl⟩
  have HF := Aside0.mk hF
  rw [← hF]
  clear hF
  go_enter Tryd.func30, Tryd.ntmps30
  go_wp2_with fail
  go_loopg [3] n (fun gk iv wr => ∃ k : Nat, k + gk = n ∧ iv = .int .i64 k ∧ w = wr ∧ Aside0 (∀ j, j < k → (ps.getD j []).length ≤ 200))
  case atStart => exact ⟨0, by omega, rfl, rfl, ⟨fun j hj => by omega⟩⟩
  case round =>
    obtain ⟨k, hk, rfl, rfl, HV⟩ := hrel
    by_cases hlt : k < n
    · obtain ⟨gq, rfl⟩ : ∃ gq, gk = gq + 1 := ⟨gk - 1, by omega⟩
      obtain ⟨ad, Ap, cp, rfl, hp1, hp2, hp3⟩ := part_get HC.out k hlt
      obtain ⟨L, hL⟩ : ∃ L, L = (ps.getD k []).length := ⟨_, rfl⟩
      rw [← hL] at hp1
      have HL := Aside0.mk hL
      have hLm : L ≤ 9223372036854775807 := by rw [hL]; exact hp3.2.1
      clear hL hp2 hp3
      have p1 : (0 : Int) ≤ (k : Int) := by omega
      by_cases h200 : 200 < L
      · have hFf : F = false := by rw [HF.out]; exact fewB_long (by rw [Hn.out]; exact hlt) (by rw [← HL.out]; exact h200)
        subst hFf
        go_wp2_with fail
        go_ret
        exact ⟨rfl, rfl⟩
      · have h200i : (L : Int) ≤ 200 := by omega
        go_wp2_with fail
        go_roundg gq
        case measure => omega
        case rel =>
          refine ⟨k + 1, by omega, by go_num, rfl, ⟨fun j hj => ?_⟩⟩
          rcases Nat.lt_or_ge j k with h | h
          · exact HV.out j h
          · obtain rfl : j = k := by omega
            rw [← HL.out]; omega
    · have hkn : k = n := by omega
      subst hkn
      have hFt : F = decide (k ≤ 12) := by rw [HF.out, fewB_short (fun j hj => HV.out j (by rw [← Hn.out]; exact hj)), Hn.out]
      subst hFt
      go_wp2_with fail
      go_ret
      exact ⟨congrArg (fun b => Ending.returned (.bool b)) (decide_eq_decide.2 (by omega)), rfl⟩
set_option maxRecDepth 100000 in
/-- ref03.All. -/
theorem all_any {A : Option Addr} {n c : Nat} {ps : List (List Int)} (w : World) (hC : (Kd.slice 27 (Kd.int .u8)).C w A n ps) (hm : (ps.map List.length).sum ≤ 1000000) :
    Calls Tryd.prog 32 #[.slice A n c] w fun e w' => ∃ v, e = .returned v ∧ Own w' w.heap.size v ps.flatten ∧ Below w.heap.size w w' := by
  have HC := Aside0.mk hC
  have Hm := Aside0.mk hm
  have Hn := Aside0.mk hC.1
  have hnm := hC.2.1
  clear hC hm
  go_enter Tryd.func32, Tryd.ntmps32
  go_wp2_with fail
  go_loopg [3, 4] n (fun gk va iv wr => ∃ k : Nat, k + gk = n ∧ iv = .int .i64 k ∧ Aside0 (Own wr w.heap.size va (ps.take k).flatten) ∧ Aside0 (Below w.heap.size w wr))
  case atStart => exact ⟨0, by omega, rfl, ⟨by rw [List.take_zero]; exact Kd.R_nil _ _ _ _ _⟩, ⟨Below.refl _ _⟩⟩
  case round =>
    obtain ⟨k, hk, rfl, HO, HB⟩ := hrel
    by_cases hlt : k < n
    · obtain ⟨gq, rfl⟩ : ∃ gq, gk = gq + 1 := ⟨gk - 1, by omega⟩
      obtain ⟨ad, Ap, cp, rfl, hp1, hp2, hp3⟩ := part_get (Kd.C_below HC.out HB.out) k hlt
      have hkl : k < ps.length := by rw [Hn.out]; exact hlt
      obtain ⟨p, hp⟩ : ∃ p, p = ps.getD k [] := ⟨_, rfl⟩
      obtain ⟨B, hB⟩ : ∃ B, B = (ps.take k).flatten := ⟨_, rfl⟩
      have HBn : Aside0 ((ps.take (k + 1)).flatten = B ++ p) := ⟨by rw [take_flat hkl, hB, hp]⟩
      have HBl : Aside0 ((B ++ p).length ≤ 1000000) := ⟨by rw [← HBn.out]; have := flat_le (ps := ps) (k + 1); have := Hm.out; omega⟩
      rw [← hp] at hp1 hp2 hp3
      rw [← hB] at HO
      obtain ⟨L, hL⟩ : ∃ L, L = p.length := ⟨_, rfl⟩
      rw [← hL] at hp1 hp2 hp3
      have HL := Aside0.mk hL
      have HQ3 := Aside0.mk hp3
      have hLm : L ≤ 9223372036854775807 := hp3.2.1
      clear hL hp2 hp3 hkl hp hB
      have p1 : (0 : Int) ≤ (k : Int) := by omega
      go_wp2_with (first | ((with_reducible refine gate_builtin (b := .append) (xs := #[.tmp 11, .tmp 15]) rfl ?_); at_builtin; refine append_row (w0 := w) rfl (.tmp 11) (.tmp 15) rfl (w.heap.size) (u3) (B) (p) (Ap) (L) (cp) rfl rfl (HO.out) (HQ3.out) (HB.out) (HB.out.size) (by have h := HBl.out; rw [List.length_append] at h; have := HL.out; omega) ?_; intro v6 w6 ho_ hb_; have HO6 := Aside0.mk ho_; have HB6 := Aside0.mk hb_; clear ho_ hb_; ))
      go_roundg gq
      case measure => omega
      case rel => exact ⟨k + 1, by omega, by go_num, ⟨by rw [HBn.out]; exact HO6.out⟩, HB6⟩
    · have hkn : k = n := by omega
      subst hkn
      have HO2 : Aside0 (Own wr w.heap.size u3 ps.flatten) := ⟨by have h := HO.out; rwa [List.take_of_length_le (by rw [Hn.out]; exact Nat.le_refl _)] at h⟩
      clear HO
      go_wp2_with fail
      go_ret
      exact ⟨_, rfl, HO2.out, HB.out⟩
set_option maxRecDepth 100000 in
set_option maxHeartbeats 8000000 in
/-- ref03.Tag. -/
theorem reftag_any {A A2 : Option Addr} {n c n2 c2 : Nat} {key msg : List Int} (w : World) (hC : (Kd.int .u8).C w A n key) (hc : n ≤ c) (hby : Byt key) (hm : key.length ≤ 1000000) (hM : (Kd.int .u8).C w A2 n2 msg) (hbm : Byt msg) (hmm : n2 ≤ 1000000) :
    Calls Tryd.prog 31 #[.slice A n c, .slice A2 n2 c2] w fun e w' => e = .returned (.agg (v8 (tag key msg))) ∧ Below w.heap.size w w' := by
  have hu30 := Tryd.underlying30
  have Hn2 := Aside0.mk hM.1
  have HM := Aside0.mk hM
  have Hbm := Aside0.mk hbm
  have Hmm := Aside0.mk hmm
  have hnm := hC.2.1
  have H := Aside0.mk hC
  have Hn := Aside0.mk hC.1
  have Hby := Aside0.mk hby
  have Hm := Aside0.mk hm
  clear hC hby hM hbm hmm hm
  obtain ⟨kb, hkb⟩ : ∃ kb, kb = kbl key := ⟨_, rfl⟩
  have Hkl : Aside0 (kb.length = 64) := ⟨by rw [hkb, kbl_length]⟩
  have Hkbb : Aside0 (Byt kb) := ⟨by rw [hkb]; exact kbl_byt Hby.out⟩
  rw [show tag key msg = tagk kb msg from by rw [hkb]; rfl]
  by_cases h64 : 64 < n
  · obtain ⟨kc, hkc⟩ : ∃ kc, kc = kcut key := ⟨_, rfl⟩
    have hkc2 : kc = sum key := by rw [hkc, kcut, if_pos (by rw [Hn.out]; exact h64)]
    have Hkb : Aside0 (kb = kc ++ List.replicate (64 - kc.length) 0) := ⟨by rw [hkb, hkc, kbl]⟩
    have Hkn : Aside0 (kc.length = 32) := ⟨by rw [hkc2]; rfl⟩
    have Hkc := Aside0.mk hkc2
    clear hkb hkc hkc2
    go_enter Tryd.func31, Tryd.ntmps31
    go_wp2_with (first | ((with_reducible refine gate_dst (N := 4) rfl ?_); refine box_event ?hg (N := 4) ?hd (cs := v8 (List.replicate 32 0)) (t := 30) ?hr ?_; (case hd => rfl); (case hg => rfl); (case hr => first | (go_simp; done) | (go_simp; rfl)); intro g4 hg_ w1 hbox_ hb_; have H1 := Aside0.mk hbox_; have HB1 := Aside0.mk hb_; have Hg4 := Aside0.mk (show w.heap.size ≤ g4 from Nat.le_of_eq hg_.symm);clear hg_ hbox_ hb_))
    refine (refsum_any _ (Kd.C_below H.out HB1.out) Hby.out (by have := Hm.out; omega)).mono ?_
    rintro e w2 ⟨rfl, hb2⟩
    rw [← Hkc.out]
    have HB2 := Aside0.mk (below_step HB1.out hb2)
    have H2 := Aside0.mk (show B8 w2 g4 30 (List.replicate 32 0) from blk_below H1.out hb2)
    clear hb2 HB1 H1
    go_wp2_with (first | ((with_reducible refine gate_dst (N := 6) rfl ?_); refine box_event ?hg (N := 6) ?hd (cs := v8 (List.replicate 32 0)) (t := 30) ?hr ?_; (case hd => rfl); (case hg => rfl); (case hr => first | (go_simp; done) | (go_simp; rfl)); intro g3 hg_ w3 hbox_ hb_; have H3 := Aside0.mk hbox_; have H23 := Aside0.mk (show B8 w3 g4 30 (List.replicate 32 0) from blk_below H2.out hb_); have HB3 := Aside0.mk (below_step HB2.out hb_); have Hg3 := Aside0.mk (show w.heap.size ≤ g3 ∧ g4 < g3 from by rw [hg_]; exact ⟨HB2.out.size, blk_lt H2.out⟩);clear hg_ hbox_ hb_) | ((with_reducible refine gate_store (t := 30) (p := 6) rfl ?_); refine store_row ?hg (ty := 30) (p := 6) (v := ?vr_1) ?ho ?hd (g := g3) (t := 30) (old := v8 (List.replicate 32 0)) (cells := v8 kc) ?hx ?hy H3.out (size30 Hkn.out) (by rw [v8_size, v8_size, Hkn.out, List.length_replicate]) (v8_one _) ?_; (case hd => rfl); (case hg => rfl); (case ho => rfl); (case hx => rfl); (case hy => rfl); intro w0 hbox_ hk_ hb_; have H04 := Aside0.mk (show B8 w0 g4 30 (List.replicate 32 0) from (hb_.block g4 Hg3.out.2).trans H23.out); have HB := Aside0.mk (HB3.out.trans (hb_.mono Hg3.out.1)); have HC := Aside0.mk (row_read (S := fun _ => False) (show B8 w0 g3 30 kc from hbox_) (fun h => h) Hkn.out (by decide)).now;clear hbox_ hk_ hb_))
    have H4 : Aside0 (B8 w0 g4 30 (List.replicate 32 0) ∧ g4 < w0.heap.size) := ⟨H04.out, blk_lt H04.out⟩
    obtain ⟨AA, hAA⟩ : ∃ AA : Option Addr, AA = some ⟨g3, 0, none⟩ := ⟨_, rfl⟩
    rw [← hAA] at HC ⊢
    clear hAA HB2 HB3 H3 H2 H23 H04
    go_loopg [7, 8, 9] 64 (fun gk va vb iv wr => ∃ i : Nat, i + gk = 64 ∧ iv = .int .i64 i ∧ Aside0 (Tw w0 wr va vb (xr 54 (kb.take i)) (xr 92 (kb.take i))))
    case atStart => exact ⟨0, by omega, rfl, ⟨⟨Kd.R_nil _ _ _ _ _, Kd.R_nil _ _ _ _ _, (fun k hk => by cases hk), Below.refl _ _⟩⟩⟩
    case round =>
      obtain ⟨i, hi, rfl, HW⟩ := hrel
      by_cases hlt : i < 64
      · obtain ⟨gq, rfl⟩ : ∃ gq, gk = gq + 1 := ⟨gk - 1, by omega⟩
        have Hl1 : Aside0 (∀ k, (xr k (kb.take i)).length + 1 ≤ 140737488355328) := ⟨fun k => by rw [xr_length, List.length_take, Hkl.out]; omega⟩
        have p1 : (0 : Int) ≤ (i : Int) := by omega
        by_cases hin : i < 32
        · have hCr := Kd.C_below HC.out HW.out.bel
          obtain ⟨ad, rfl⟩ := C_some hCr (by omega)
          have hx := C_cell hCr rfl i hin
          obtain ⟨x, hxe⟩ : ∃ x, x = kc.getD i 0 := ⟨_, rfl⟩
          rw [← hxe] at hx
          have Hxe : Aside0 (x = kb.getD i 0) := ⟨by rw [hxe, Hkb.out, List.getD_eq_getElem?_getD, List.getD_eq_getElem?_getD, List.getElem?_append_left (by rw [Hkn.out]; exact hin)]⟩
          clear hCr hxe
          go_wp2_with (first | ((with_reducible refine gate_builtin (b := .append) (xs := #[.tmp 31, .tmp 34]) rfl ?_); at_builtin; refine append_oneg (w0 := w0) rfl (.tmp 31) (.tmp 34) rfl (w0.heap.size) (u7) (xr 54 (kb.take i)) (Go.bits .xor .u8 x 54) rfl rfl (HW.out.a) (HW.out.bel) (HW.out.bel.size) (Hl1.out 54) ?_; intro v7 w7 ho_ hb_ hg_ hat_; have HW7 := Aside0.mk (HW.out.app ho_ hb_ hg_ hat_); clear ho_ hb_ hg_ hat_) | ((with_reducible refine gate_builtin (b := .append) (xs := #[.tmp 36, .tmp 39]) rfl ?_); at_builtin; refine append_oneg (w0 := w0) rfl (.tmp 36) (.tmp 39) rfl (w0.heap.size) (u8) (xr 92 (kb.take i)) (Go.bits .xor .u8 x 92) rfl rfl (HW7.out.b) (HW7.out.bel) (HW7.out.bel.size) (Hl1.out 92) ?_; intro v8 w8 ho_ hb_ hg_ hat_; have HW8 := Aside0.mk (HW7.out.swap.app ho_ hb_ hg_ hat_).swap; clear ho_ hb_ hg_ hat_))
          go_roundg gq
          case measure => omega
          case rel =>
            have h1 := xr_snoc 54 kb i (by rw [Hkl.out]; exact hlt)
            have h2 := xr_snoc 92 kb i (by rw [Hkl.out]; exact hlt)
            rw [← Hxe.out] at h1 h2
            exact ⟨i + 1, by omega, by go_num, ⟨by rw [← h1, ← h2]; exact HW8.out⟩⟩
        · have Hxe : Aside0 (0 = kb.getD i 0) := ⟨by rw [Hkb.out, List.getD_eq_getElem?_getD, List.getElem?_append_right (by rw [Hkn.out]; omega), List.getElem?_replicate]; split <;> rfl⟩
          have hini : (32 : Int) ≤ (i : Int) := by omega
          go_wp2_with (first | ((with_reducible refine gate_builtin (b := .append) (xs := #[.tmp 31, .tmp 34]) rfl ?_); at_builtin; refine append_oneg (w0 := w0) rfl (.tmp 31) (.tmp 34) rfl (w0.heap.size) (u7) (xr 54 (kb.take i)) (Go.bits .xor .u8 0 54) rfl rfl (HW.out.a) (HW.out.bel) (HW.out.bel.size) (Hl1.out 54) ?_; intro v7 w7 ho_ hb_ hg_ hat_; have HW7 := Aside0.mk (HW.out.app ho_ hb_ hg_ hat_); clear ho_ hb_ hg_ hat_) | ((with_reducible refine gate_builtin (b := .append) (xs := #[.tmp 36, .tmp 39]) rfl ?_); at_builtin; refine append_oneg (w0 := w0) rfl (.tmp 36) (.tmp 39) rfl (w0.heap.size) (u8) (xr 92 (kb.take i)) (Go.bits .xor .u8 0 92) rfl rfl (HW7.out.b) (HW7.out.bel) (HW7.out.bel.size) (Hl1.out 92) ?_; intro v8 w8 ho_ hb_ hg_ hat_; have HW8 := Aside0.mk (HW7.out.swap.app ho_ hb_ hg_ hat_).swap; clear ho_ hb_ hg_ hat_))
          go_roundg gq
          case measure => omega
          case rel =>
            have h1 := xr_snoc 54 kb i (by rw [Hkl.out]; exact hlt)
            have h2 := xr_snoc 92 kb i (by rw [Hkl.out]; exact hlt)
            rw [← Hxe.out] at h1 h2
            exact ⟨i + 1, by omega, by go_num, ⟨by rw [← h1, ← h2]; exact HW8.out⟩⟩
      · have hi64 : i = 64 := by omega
        subst hi64
        have HW3 : Aside0 (Tw w0 wr u7 u8 (xr 54 kb) (xr 92 kb)) := ⟨by have h := HW.out; rwa [List.take_of_length_le (by rw [Hkl.out]; exact Nat.le_refl _)] at h⟩
        have HMr : Aside0 ((Kd.int .u8).C wr A2 n2 msg) := ⟨Kd.C_below (Kd.C_below HM.out HB.out) HW3.out.bel⟩
        clear HW
        go_wp2_with (first | ((with_reducible refine gate_builtin (b := .append) (xs := #[.tmp 41, .tmp 42]) rfl ?_); at_builtin; refine Kd.R_append_row (Value.int .u8) (0 : Int) (w0 := w0) (w0.heap.size) rfl (.tmp 41) (.tmp 42) 27 5 (.int .u8 0) 1 rfl Tryd.underlying27 info5z rfl (by decide) (u7) (xr 54 kb) (msg) (A2) (n2) (c2) (fun _ => True) rfl rfl (fun _ _ => trivial) (HW3.out.a) (HMr.out) (HW3.out.bel) (HW3.out.bel.size) (by rw [xr_length, Hkl.out]; have := Hmm.out; omega) ?_; intro v9 w9 ho_ hb_ hg_ hat_; have HG9 := Aside0.mk hg_; have HA9 := Aside0.mk hat_; clear hg_ hat_; have HO9 := Aside0.mk ho_; have HB9 := Aside0.mk hb_; clear ho_ hb_))
        have HW9 := Aside0.mk (HW3.out.app HO9.out HB9.out HG9.out HA9.out)
        obtain ⟨A9, c9, rfl⟩ := Kd.R_slice HW9.out.a
        clear HO9 HB9 HG9 HA9 HW3 HMr
        obtain ⟨T, hT⟩ : ∃ T, T = xr 54 kb ++ msg := ⟨_, rfl⟩
        have HT : Aside0 (T.length ≤ 1000100 ∧ Byt T) := ⟨by rw [hT]; exact ⟨by rw [List.length_append, xr_length, Hkl.out, Hn2.out]; have := Hmm.out; omega, (xr_byt (by decide) Hkbb.out).append Hbm.out⟩⟩
        rw [← hT] at HW9 ⊢
        have HTe := Aside0.mk hT
        clear hT
        refine (refsum_any _ (Kd.R_reads' HW9.out.a).2.2 HT.out.2 (by have := HT.out.1; omega)).mono ?_
        rintro e w10 ⟨rfl, hb10⟩
        have HWa := Aside0.mk (HW9.out.below hb10)
        obtain ⟨bs, hbs⟩ : ∃ bs, bs = sum T := ⟨_, rfl⟩
        have Hl32 : Aside0 (bs.length = 32 ∧ Byt bs) := ⟨by rw [hbs]; exact ⟨rfl, sum_byt _⟩⟩
        have Hbs := Aside0.mk hbs
        rw [← hbs]
        clear hb10 HW9 hbs
        go_wp2_with (first | ((with_reducible refine gate_dst (N := 11) rfl ?_); refine box_event ?hg (N := 11) ?hd (cs := v8 (List.replicate 32 0)) (t := 30) ?hr ?_; (case hd => rfl); (case hg => rfl); (case hr => first | (go_simp; done) | (go_simp; rfl)); intro g11 hg_ w11 hbox_ hb_; have H11 := Aside0.mk hbox_; have HWb := Aside0.mk (HWa.out.below hb_); have Hg11 := Aside0.mk (show w10.heap.size ≤ g11 ∧ w0.heap.size ≤ g11 from by rw [hg_]; exact ⟨Nat.le_refl _, HWa.out.bel.size⟩); have Hlb := Aside0.mk (fun k hk => Kd.R_lt HWa.out.b k hk);clear hg_ hbox_ hb_) | ((with_reducible refine gate_store (t := 30) (p := 11) rfl ?_); refine store_row ?hg (ty := 30) (p := 11) (v := ?vr_2) ?ho ?hd (g := g11) (t := 30) (old := v8 (List.replicate 32 0)) (cells := v8 bs) ?hx ?hy H11.out (size30 Hl32.out.1) (by rw [v8_size, v8_size, Hl32.out.1, List.length_replicate]) (v8_one _) ?_; (case hd => rfl); (case hg => rfl); (case ho => rfl); (case hx => rfl); (case hy => rfl); intro w12 hbox_ hk_ hb_; have H12 := Aside0.mk (show B8 w12 g11 30 bs from hbox_); have HBc := Aside0.mk (HWb.out.bel.trans (hb_.mono Hg11.out.2)); have HOc := Aside0.mk (show Own w12 w0.heap.size u8 (xr 92 kb) from Kd.R_mono (Kd.R_kept (Kd.R_tight rfl HWb.out.b) hk_ (fun k hk he => by have := Hlb.out k hk.symm; have := Hg11.out.1; subst he; omega)) (fun _ _ => trivial));clear hbox_ hk_ hb_) | ((with_reducible refine gate_builtin (b := .append) (xs := #[.tmp 45, .tmp 46]) rfl ?_); at_builtin; refine append_row (w0 := w0) rfl (.tmp 45) (.tmp 46) rfl (w0.heap.size) (u8) (xr 92 kb) (bs) (some ⟨g11, 0, none⟩) (32) (32) rfl rfl (HOc.out) ((row_read (S := fun _ => False) H12.out (fun h => h) Hl32.out.1 (by decide)).now) (HBc.out) (HBc.out.size) (by rw [xr_length, Hkl.out]; decide) ?_; intro v13 w13 ho_ hb_; have HOd := Aside0.mk ho_; have HBd := Aside0.mk hb_; clear ho_ hb_; ))
        obtain ⟨Ad, cd, rfl⟩ := Kd.R_slice HOd.out
        clear H11 HWb HWa H12 HBc HOc
        obtain ⟨U, hU⟩ : ∃ U, U = xr 92 kb ++ bs := ⟨_, rfl⟩
        have HU : Aside0 (U.length ≤ 1000 ∧ Byt U) := ⟨by rw [hU]; exact ⟨by rw [List.length_append, xr_length, Hkl.out, Hl32.out.1]; decide, (xr_byt (by decide) Hkbb.out).append Hl32.out.2⟩⟩
        rw [← hU] at HOd ⊢
        have HUe := Aside0.mk hU
        clear hU
        refine (refsum_any _ (Kd.R_reads' HOd.out).2.2 HU.out.2 (by have := HU.out.1; omega)).mono ?_
        rintro e w14 ⟨rfl, hb14⟩
        obtain ⟨bs2, hbs2⟩ : ∃ bs2, bs2 = sum U := ⟨_, rfl⟩
        have Hl2 : Aside0 (bs2.length = 32) := ⟨by rw [hbs2]; rfl⟩
        have Hbs2 : Aside0 (bs2 = tagk kb msg) := ⟨by rw [hbs2, HUe.out, Hbs.out, HTe.out]; rfl⟩
        rw [← hbs2]
        have HBe := Aside0.mk (HB.out.trans ((below_step HBd.out hb14).mono HB.out.size))
        have H4e := Aside0.mk (show B8 w14 g4 30 (List.replicate 32 0) from ((below_step HBd.out hb14).block g4 H4.out.2).trans H4.out.1)
        clear hb14 HBd HOd hbs2
        go_wp2_with (first | ((with_reducible refine gate_store (t := 30) (p := 4) rfl ?_); refine store_row ?hg (ty := 30) (p := 4) (v := ?vr_3) ?ho ?hd (g := g4) (t := 30) (old := v8 (List.replicate 32 0)) (cells := v8 bs2) ?hx ?hy H4e.out (size30 Hl2.out) (by rw [v8_size, v8_size, Hl2.out, List.length_replicate]) (v8_one _) ?_; (case hd => rfl); (case hg => rfl); (case ho => rfl); (case hx => rfl); (case hy => rfl); intro w15 hbox_ hk_ hb_; have HRf := Aside0.mk hbox_; have HBf := Aside0.mk (HBe.out.trans (hb_.mono Hg4.out));clear hbox_ hk_ hb_))
        refine bodyPost_ret (results_cell_row rfl _ _ g4 30 (v8 bs2) (0, 0) _ rfl HRf.out Tryd.underlying30 rfl (size30 Hl2.out)) rfl ?_
        exact ⟨by rw [Hbs2.out], HBf.out⟩
  · have hkc2 : kcut key = key := by rw [kcut, if_neg (by rw [Hn.out]; exact h64)]
    obtain ⟨kc, hkc⟩ : ∃ kc, kc = key := ⟨_, rfl⟩
    have Hkb : Aside0 (kb = kc ++ List.replicate (64 - kc.length) 0) := ⟨by rw [hkb, kbl, hkc2, hkc]⟩
    have Hkn : Aside0 (kc.length = n) := ⟨by rw [hkc, Hn.out]⟩
    have h64b : n ≤ 64 := by omega
    rw [← hkc] at H
    clear hkb hkc2 hkc
    go_enter Tryd.func31, Tryd.ntmps31
    go_wp2_with (first | ((with_reducible refine gate_dst (N := 4) rfl ?_); refine box_event ?hg (N := 4) ?hd (cs := v8 (List.replicate 32 0)) (t := 30) ?hr ?_; (case hd => rfl); (case hg => rfl); (case hr => first | (go_simp; done) | (go_simp; rfl)); intro g4 hg_ w0 hbox_ hb_; have H1 := Aside0.mk hbox_; have HB := Aside0.mk hb_; have Hg4 := Aside0.mk (show w.heap.size ≤ g4 from Nat.le_of_eq hg_.symm);clear hg_ hbox_ hb_))
    have H4 : Aside0 (B8 w0 g4 30 (List.replicate 32 0) ∧ g4 < w0.heap.size) := ⟨H1.out, blk_lt H1.out⟩
    have HC := Aside0.mk (Kd.C_below H.out HB.out)
    clear H1
    go_loopg [7, 8, 9] 64 (fun gk va vb iv wr => ∃ i : Nat, i + gk = 64 ∧ iv = .int .i64 i ∧ Aside0 (Tw w0 wr va vb (xr 54 (kb.take i)) (xr 92 (kb.take i))))
    case atStart => exact ⟨0, by omega, rfl, ⟨⟨Kd.R_nil _ _ _ _ _, Kd.R_nil _ _ _ _ _, (fun k hk => by cases hk), Below.refl _ _⟩⟩⟩
    case round =>
      obtain ⟨i, hi, rfl, HW⟩ := hrel
      by_cases hlt : i < 64
      · obtain ⟨gq, rfl⟩ : ∃ gq, gk = gq + 1 := ⟨gk - 1, by omega⟩
        have Hl1 : Aside0 (∀ k, (xr k (kb.take i)).length + 1 ≤ 140737488355328) := ⟨fun k => by rw [xr_length, List.length_take, Hkl.out]; omega⟩
        have p1 : (0 : Int) ≤ (i : Int) := by omega
        by_cases hin : i < n
        · have hCr := Kd.C_below HC.out HW.out.bel
          obtain ⟨ad, rfl⟩ := C_some hCr (by omega)
          have hx := C_cell hCr rfl i hin
          obtain ⟨x, hxe⟩ : ∃ x, x = kc.getD i 0 := ⟨_, rfl⟩
          rw [← hxe] at hx
          have Hxe : Aside0 (x = kb.getD i 0) := ⟨by rw [hxe, Hkb.out, List.getD_eq_getElem?_getD, List.getD_eq_getElem?_getD, List.getElem?_append_left (by rw [Hkn.out]; exact hin)]⟩
          clear hCr hxe
          go_wp2_with (first | ((with_reducible refine gate_builtin (b := .append) (xs := #[.tmp 31, .tmp 34]) rfl ?_); at_builtin; refine append_oneg (w0 := w0) rfl (.tmp 31) (.tmp 34) rfl (w0.heap.size) (u7) (xr 54 (kb.take i)) (Go.bits .xor .u8 x 54) rfl rfl (HW.out.a) (HW.out.bel) (HW.out.bel.size) (Hl1.out 54) ?_; intro v7 w7 ho_ hb_ hg_ hat_; have HW7 := Aside0.mk (HW.out.app ho_ hb_ hg_ hat_); clear ho_ hb_ hg_ hat_) | ((with_reducible refine gate_builtin (b := .append) (xs := #[.tmp 36, .tmp 39]) rfl ?_); at_builtin; refine append_oneg (w0 := w0) rfl (.tmp 36) (.tmp 39) rfl (w0.heap.size) (u8) (xr 92 (kb.take i)) (Go.bits .xor .u8 x 92) rfl rfl (HW7.out.b) (HW7.out.bel) (HW7.out.bel.size) (Hl1.out 92) ?_; intro v8 w8 ho_ hb_ hg_ hat_; have HW8 := Aside0.mk (HW7.out.swap.app ho_ hb_ hg_ hat_).swap; clear ho_ hb_ hg_ hat_))
          go_roundg gq
          case measure => omega
          case rel =>
            have h1 := xr_snoc 54 kb i (by rw [Hkl.out]; exact hlt)
            have h2 := xr_snoc 92 kb i (by rw [Hkl.out]; exact hlt)
            rw [← Hxe.out] at h1 h2
            exact ⟨i + 1, by omega, by go_num, ⟨by rw [← h1, ← h2]; exact HW8.out⟩⟩
        · have Hxe : Aside0 (0 = kb.getD i 0) := ⟨by rw [Hkb.out, List.getD_eq_getElem?_getD, List.getElem?_append_right (by rw [Hkn.out]; omega), List.getElem?_replicate]; split <;> rfl⟩
          have hini : (n : Int) ≤ (i : Int) := by omega
          go_wp2_with (first | ((with_reducible refine gate_builtin (b := .append) (xs := #[.tmp 31, .tmp 34]) rfl ?_); at_builtin; refine append_oneg (w0 := w0) rfl (.tmp 31) (.tmp 34) rfl (w0.heap.size) (u7) (xr 54 (kb.take i)) (Go.bits .xor .u8 0 54) rfl rfl (HW.out.a) (HW.out.bel) (HW.out.bel.size) (Hl1.out 54) ?_; intro v7 w7 ho_ hb_ hg_ hat_; have HW7 := Aside0.mk (HW.out.app ho_ hb_ hg_ hat_); clear ho_ hb_ hg_ hat_) | ((with_reducible refine gate_builtin (b := .append) (xs := #[.tmp 36, .tmp 39]) rfl ?_); at_builtin; refine append_oneg (w0 := w0) rfl (.tmp 36) (.tmp 39) rfl (w0.heap.size) (u8) (xr 92 (kb.take i)) (Go.bits .xor .u8 0 92) rfl rfl (HW7.out.b) (HW7.out.bel) (HW7.out.bel.size) (Hl1.out 92) ?_; intro v8 w8 ho_ hb_ hg_ hat_; have HW8 := Aside0.mk (HW7.out.swap.app ho_ hb_ hg_ hat_).swap; clear ho_ hb_ hg_ hat_))
          go_roundg gq
          case measure => omega
          case rel =>
            have h1 := xr_snoc 54 kb i (by rw [Hkl.out]; exact hlt)
            have h2 := xr_snoc 92 kb i (by rw [Hkl.out]; exact hlt)
            rw [← Hxe.out] at h1 h2
            exact ⟨i + 1, by omega, by go_num, ⟨by rw [← h1, ← h2]; exact HW8.out⟩⟩
      · have hi64 : i = 64 := by omega
        subst hi64
        have HW3 : Aside0 (Tw w0 wr u7 u8 (xr 54 kb) (xr 92 kb)) := ⟨by have h := HW.out; rwa [List.take_of_length_le (by rw [Hkl.out]; exact Nat.le_refl _)] at h⟩
        have HMr : Aside0 ((Kd.int .u8).C wr A2 n2 msg) := ⟨Kd.C_below (Kd.C_below HM.out HB.out) HW3.out.bel⟩
        clear HW
        go_wp2_with (first | ((with_reducible refine gate_builtin (b := .append) (xs := #[.tmp 41, .tmp 42]) rfl ?_); at_builtin; refine Kd.R_append_row (Value.int .u8) (0 : Int) (w0 := w0) (w0.heap.size) rfl (.tmp 41) (.tmp 42) 27 5 (.int .u8 0) 1 rfl Tryd.underlying27 info5z rfl (by decide) (u7) (xr 54 kb) (msg) (A2) (n2) (c2) (fun _ => True) rfl rfl (fun _ _ => trivial) (HW3.out.a) (HMr.out) (HW3.out.bel) (HW3.out.bel.size) (by rw [xr_length, Hkl.out]; have := Hmm.out; omega) ?_; intro v9 w9 ho_ hb_ hg_ hat_; have HG9 := Aside0.mk hg_; have HA9 := Aside0.mk hat_; clear hg_ hat_; have HO9 := Aside0.mk ho_; have HB9 := Aside0.mk hb_; clear ho_ hb_))
        have HW9 := Aside0.mk (HW3.out.app HO9.out HB9.out HG9.out HA9.out)
        obtain ⟨A9, c9, rfl⟩ := Kd.R_slice HW9.out.a
        clear HO9 HB9 HG9 HA9 HW3 HMr
        obtain ⟨T, hT⟩ : ∃ T, T = xr 54 kb ++ msg := ⟨_, rfl⟩
        have HT : Aside0 (T.length ≤ 1000100 ∧ Byt T) := ⟨by rw [hT]; exact ⟨by rw [List.length_append, xr_length, Hkl.out, Hn2.out]; have := Hmm.out; omega, (xr_byt (by decide) Hkbb.out).append Hbm.out⟩⟩
        rw [← hT] at HW9 ⊢
        have HTe := Aside0.mk hT
        clear hT
        refine (refsum_any _ (Kd.R_reads' HW9.out.a).2.2 HT.out.2 (by have := HT.out.1; omega)).mono ?_
        rintro e w10 ⟨rfl, hb10⟩
        have HWa := Aside0.mk (HW9.out.below hb10)
        obtain ⟨bs, hbs⟩ : ∃ bs, bs = sum T := ⟨_, rfl⟩
        have Hl32 : Aside0 (bs.length = 32 ∧ Byt bs) := ⟨by rw [hbs]; exact ⟨rfl, sum_byt _⟩⟩
        have Hbs := Aside0.mk hbs
        rw [← hbs]
        clear hb10 HW9 hbs
        go_wp2_with (first | ((with_reducible refine gate_dst (N := 11) rfl ?_); refine box_event ?hg (N := 11) ?hd (cs := v8 (List.replicate 32 0)) (t := 30) ?hr ?_; (case hd => rfl); (case hg => rfl); (case hr => first | (go_simp; done) | (go_simp; rfl)); intro g11 hg_ w11 hbox_ hb_; have H11 := Aside0.mk hbox_; have HWb := Aside0.mk (HWa.out.below hb_); have Hg11 := Aside0.mk (show w10.heap.size ≤ g11 ∧ w0.heap.size ≤ g11 from by rw [hg_]; exact ⟨Nat.le_refl _, HWa.out.bel.size⟩); have Hlb := Aside0.mk (fun k hk => Kd.R_lt HWa.out.b k hk);clear hg_ hbox_ hb_) | ((with_reducible refine gate_store (t := 30) (p := 11) rfl ?_); refine store_row ?hg (ty := 30) (p := 11) (v := ?vr_4) ?ho ?hd (g := g11) (t := 30) (old := v8 (List.replicate 32 0)) (cells := v8 bs) ?hx ?hy H11.out (size30 Hl32.out.1) (by rw [v8_size, v8_size, Hl32.out.1, List.length_replicate]) (v8_one _) ?_; (case hd => rfl); (case hg => rfl); (case ho => rfl); (case hx => rfl); (case hy => rfl); intro w12 hbox_ hk_ hb_; have H12 := Aside0.mk (show B8 w12 g11 30 bs from hbox_); have HBc := Aside0.mk (HWb.out.bel.trans (hb_.mono Hg11.out.2)); have HOc := Aside0.mk (show Own w12 w0.heap.size u8 (xr 92 kb) from Kd.R_mono (Kd.R_kept (Kd.R_tight rfl HWb.out.b) hk_ (fun k hk he => by have := Hlb.out k hk.symm; have := Hg11.out.1; subst he; omega)) (fun _ _ => trivial));clear hbox_ hk_ hb_) | ((with_reducible refine gate_builtin (b := .append) (xs := #[.tmp 45, .tmp 46]) rfl ?_); at_builtin; refine append_row (w0 := w0) rfl (.tmp 45) (.tmp 46) rfl (w0.heap.size) (u8) (xr 92 kb) (bs) (some ⟨g11, 0, none⟩) (32) (32) rfl rfl (HOc.out) ((row_read (S := fun _ => False) H12.out (fun h => h) Hl32.out.1 (by decide)).now) (HBc.out) (HBc.out.size) (by rw [xr_length, Hkl.out]; decide) ?_; intro v13 w13 ho_ hb_; have HOd := Aside0.mk ho_; have HBd := Aside0.mk hb_; clear ho_ hb_; ))
        obtain ⟨Ad, cd, rfl⟩ := Kd.R_slice HOd.out
        clear H11 HWb HWa H12 HBc HOc
        obtain ⟨U, hU⟩ : ∃ U, U = xr 92 kb ++ bs := ⟨_, rfl⟩
        have HU : Aside0 (U.length ≤ 1000 ∧ Byt U) := ⟨by rw [hU]; exact ⟨by rw [List.length_append, xr_length, Hkl.out, Hl32.out.1]; decide, (xr_byt (by decide) Hkbb.out).append Hl32.out.2⟩⟩
        rw [← hU] at HOd ⊢
        have HUe := Aside0.mk hU
        clear hU
        refine (refsum_any _ (Kd.R_reads' HOd.out).2.2 HU.out.2 (by have := HU.out.1; omega)).mono ?_
        rintro e w14 ⟨rfl, hb14⟩
        obtain ⟨bs2, hbs2⟩ : ∃ bs2, bs2 = sum U := ⟨_, rfl⟩
        have Hl2 : Aside0 (bs2.length = 32) := ⟨by rw [hbs2]; rfl⟩
        have Hbs2 : Aside0 (bs2 = tagk kb msg) := ⟨by rw [hbs2, HUe.out, Hbs.out, HTe.out]; rfl⟩
        rw [← hbs2]
        have HBe := Aside0.mk (HB.out.trans ((below_step HBd.out hb14).mono HB.out.size))
        have H4e := Aside0.mk (show B8 w14 g4 30 (List.replicate 32 0) from ((below_step HBd.out hb14).block g4 H4.out.2).trans H4.out.1)
        clear hb14 HBd HOd hbs2
        go_wp2_with (first | ((with_reducible refine gate_store (t := 30) (p := 4) rfl ?_); refine store_row ?hg (ty := 30) (p := 4) (v := ?vr_5) ?ho ?hd (g := g4) (t := 30) (old := v8 (List.replicate 32 0)) (cells := v8 bs2) ?hx ?hy H4e.out (size30 Hl2.out) (by rw [v8_size, v8_size, Hl2.out, List.length_replicate]) (v8_one _) ?_; (case hd => rfl); (case hg => rfl); (case ho => rfl); (case hx => rfl); (case hy => rfl); intro w15 hbox_ hk_ hb_; have HRf := Aside0.mk hbox_; have HBf := Aside0.mk (HBe.out.trans (hb_.mono Hg4.out));clear hbox_ hk_ hb_))
        refine bodyPost_ret (results_cell_row rfl _ _ g4 30 (v8 bs2) (0, 0) _ rfl HRf.out Tryd.underlying30 rfl (size30 Hl2.out)) rfl ?_
        exact ⟨by rw [Hbs2.out], HBf.out⟩
end Go.Proofs.YtpigkgnmegpddaaDoor.Sh
