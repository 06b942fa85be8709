/-
ShaKept, walked.
-/
import Derived.Test.YtpigkgnmegpddaaDoorLc
namespace Go.Proofs.YtpigkgnmegpddaaDoor.Sh
set_option linter.unusedVariables false
set_option linter.unusedSimpArgs false
open Go.RowKit Go.Proofs.YtpigkgnmegpddaaDoorW.PrintWords Go.Proofs.YtpigkgnmegpddaaDoorW.PrintLast Go.Proofs.YtpigkgnmegpddaaDoorW.PrintMore

theorem Pm.app {w w1 w2 : World} {ge : Nat} {va va' v' : Value} {B : List Int} (hH : Hh w1 w.heap.size ge v' (Hv.of B)) (hap : ∀ k, Fv ge v' k → some k ≠ va.ownBlock)
    (ho : Own w2 w.heap.size va' B) (hb : Below w.heap.size w w2) (hg : w1.grownBy w2 va.ownBlock) (hat : va'.ownBlock = va.ownBlock ∨ ∃ b, va'.ownBlock = some b ∧ w1.heap.size ≤ b) : Pm w w2 ge va' v' B := by
  refine ⟨hH.move fun k hk => hg.block k (hH.lt_all k hk) (hap k hk), ho, fun k hk hf => ?_, hb⟩
  rcases hat with h | ⟨b, h, hle⟩
  · exact hap k hf (by rw [← h, hk])
  · rw [h] at hk
    injection hk with hk
    have := hH.lt_all k hf
    omega
theorem own_at {W : World} {base g n c : Nat} {ys : List Int} (h : Own W base (.slice (some ⟨g, 0, none⟩) n c) ys) (j : Nat) (hj : j < n) :
    ∃ y, W.cell? ⟨g, j, none⟩ = some (.int .u8 y) ∧ W.frozen? ⟨g, j, none⟩ = false ∧ ∀ x, Own (W.setCell ⟨g, j, none⟩ (.int .u8 x)) base (.slice (some ⟨g, 0, none⟩) n c) (ys.set j x) := by
  have hn := (Kd.R_reads' h).1
  subst hn
  have h1 := Kd.R_cell (0 : Int) h (j : Int) (by omega) (by omega)
  rw [Int.toNat_natCast] at h1
  refine ⟨_, h1.1, h1.2, fun x => ?_⟩
  have h2 := (Kd.R_put h (j : Int) x).1
  rwa [Int.toNat_natCast] at h2
theorem own_form {W : World} {base n c : Nat} {A : Option Addr} {ys : List Int} (h : Own W base (.slice A n c) ys) (hn : 0 < n) : ∃ g, A = some ⟨g, 0, none⟩ := by
  have hl := (Kd.R_reads' h).1
  obtain ⟨g, cap, he, _⟩ := Kd.R_form h (by omega)
  injection he with he
  exact ⟨g, he⟩
theorem eq30_zero (w : World) : (Op.equalIn 10000 30 (.agg (v8 [0, 0, 0, 0, 0, 0, 0, 0, 0, 0, 0, 0, 0, 0, 0, 0, 0, 0, 0, 0, 0, 0, 0, 0, 0, 0, 0, 0, 0, 0, 0, 0])) (.agg #[.int .u8 0, .int .u8 0, .int .u8 0, .int .u8 0, .int .u8 0, .int .u8 0, .int .u8 0, .int .u8 0, .int .u8 0, .int .u8 0, .int .u8 0, .int .u8 0, .int .u8 0, .int .u8 0, .int .u8 0, .int .u8 0, .int .u8 0, .int .u8 0, .int .u8 0, .int .u8 0, .int .u8 0, .int .u8 0, .int .u8 0, .int .u8 0, .int .u8 0, .int .u8 0, .int .u8 0, .int .u8 0, .int .u8 0, .int .u8 0, .int .u8 0, .int .u8 0])).run Tryd.prog w = .ok true w := by
  have h := eq30 (List.replicate 32 0) (List.replicate 32 0) rfl rfl w
  rw [decide_eq_true rfl] at h
  exact h
set_option maxRecDepth 100000 in
set_option maxHeartbeats 4000000 in
theorem kept_law {A : Option Addr} {n c : Nat} {ps : List (List Int)} (w : World) (hT : Tab w) (hC : (Kd.slice 5 (Kd.int .u8)).C w A n ps) (hc : n ≤ c) (hby : ∀ p ∈ ps, Byt p) :
    Calls Tryd.prog 6 #[.slice A n c] w fun e w' => e = .returned (.bool true) ∧ Below w.heap.size w w' := by
  have HT := Aside0.mk hT
  have HC := Aside0.mk (show (Kd.slice 27 (Kd.int .u8)).C w A n ps from hC)
  have Hby := Aside0.mk hby
  have Hn := Aside0.mk hC.1
  have hnm := hC.2.1
  clear hT hC hby
  obtain ⟨F, hF⟩ : ∃ F, F = fewB 20 ps := ⟨_, rfl⟩
  cases F with
  | false =>
    go_enter Tryd.func6, Tryd.ntmps6
    go_wp2_with fail
    refine (few_any _ HC.out).mono ?_
    rintro e w' ⟨rfl, rfl⟩
    rw [← hF]
    clear hF
    go_wp2_with fail
    go_ret
    exact ⟨rfl, Below.refl _ _⟩
  | true =>
    have Hsum := Aside0.mk (fewB_sum hF.symm)
    have hn20 : n ≤ 20 := by rw [← Hn.out]; exact (fewB_true hF.symm).2
    have hg30 := guard30
    go_enter Tryd.func6, Tryd.ntmps6
    go_wp2_with fail
    refine (few_any _ HC.out).mono ?_
    rintro e w' ⟨rfl, rfl⟩
    rw [← hF]
    clear hF
    go_wp2_with fail
    refine (new_any _ HT.out).mono ?_
    rintro e w1 ⟨rfl, h1, hb1⟩
    obtain ⟨ge, hge⟩ : ∃ g, g = w.heap.size := ⟨_, rfl⟩
    have HP : Aside0 (Pm w w1 ge (.slice none 0 0) (.slice none 0 0) (ps.take 0).flatten) := ⟨⟨by rw [List.take_zero, List.flatten_nil, ← Hv.new_eq, hge]; exact h1, Kd.R_nil _ _ _ _ _, (fun k hk => by cases hk), hb1⟩⟩
    rw [← hge]
    have Hge := Aside0.mk hge
    clear h1 hb1 hge
    go_wp2_with fail
    go_loopg [4, 5] n (fun gk va iv wr => ∃ (k : Nat) (v : Value), k + gk = n ∧ iv = .int .i64 k ∧ Aside0 (Pm w wr ge va v (ps.take k).flatten))
    case atStart => exact ⟨0, _, by omega, rfl, HP⟩
    case round =>
      clear HP
      obtain ⟨k, v, hk, rfl, HP⟩ := hrel
      by_cases hlt : k < n
      · obtain ⟨gq, rfl⟩ : ∃ gq, gk = gq + 1 := ⟨gk - 1, by omega⟩
        obtain ⟨wo, hwo⟩ : ∃ wo, wo = wr := ⟨_, rfl⟩
        subst hwo
        obtain ⟨ad, Ap, cp, rfl, hq1, hq2, hq3⟩ := part_get HC.out k hlt
        obtain ⟨p, hp⟩ : ∃ p, p = ps.getD k [] := ⟨_, rfl⟩
        rw [← hp] at hq1 hq2 hq3
        have HQ1 := Aside0.mk hq1
        have HQ3 := Aside0.mk hq3
        obtain ⟨A4, c4, rfl⟩ := Kd.R_slice HP.out.a
        have hkl : k < ps.length := by rw [Hn.out]; exact hlt
        have Hpb : Aside0 (Byt p) := ⟨by rw [hp, List.getD_eq_getElem?_getD, List.getElem?_eq_getElem hkl]; exact Hby.out _ (List.getElem_mem _)⟩
        obtain ⟨B, hB⟩ : ∃ B, B = (ps.take k).flatten := ⟨_, rfl⟩
        have HBn : Aside0 ((ps.take (k + 1)).flatten = B ++ p) := ⟨by rw [take_flat hkl, hB, hp]⟩
        have HBl : Aside0 ((B ++ p).length ≤ 4000) := ⟨by rw [← HBn.out]; have := flat_le (ps := ps) (k + 1); have := Hsum.out; omega⟩
        rw [← hB] at HP ⊢
        have hpl : p.length ≤ 4000 := by have := HBl.out; rw [List.length_append] at this; omega
        clear hp hB hq1 hq3 hkl
        have p1 : (0 : Int) ≤ (k : Int) := by omega
        go_wp2_with (first | ((with_reducible refine gate_dst (N := 21) rfl ?_); refine lit_none (w0 := wo) (wo.heap.size) ?hg (N := 21) ?hd ?hr (Below.refl _ _) (Nat.le_refl _) ?_; (case hd => rfl); (case hg => rfl); (case hr => first | (go_simp; done) | (go_simp; rfl)); intro v3 w3 ho_ hb_; have HO3 := Aside0.mk ho_; have HB3 := Aside0.mk hb_; clear ho_ hb_; have hp3 := pw_cell_below (below_step HP.out.bel HB3.out) HQ1.out) | ((with_reducible refine gate_builtin (b := .append) (xs := #[.tmp 21, .tmp 25]) rfl ?_); at_builtin; refine append_row (w0 := wo) rfl (.tmp 21) (.tmp 25) rfl (wo.heap.size) (v3) ([]) (p) (Ap) (p.length) (cp) rfl rfl (HO3.out) ((Rd.came (S := fun _ => False) HQ3.out (below_step HP.out.bel HB3.out) (fun _ h => h.elim)).now) (HB3.out) (HB3.out.size) (by simp; omega) ?_; intro v6 w6 ho_ hb_; have HO6 := Aside0.mk ho_; have HB6 := Aside0.mk hb_; clear ho_ hb_; rw [List.nil_append] at HO6; obtain ⟨A6, c6, rfl⟩ := Kd.R_slice HO6.out; clear hp3))
        obtain ⟨L, hL⟩ : ∃ L, L = p.length := ⟨_, rfl⟩
        rw [← hL] at HO6 ⊢
        have HL := Aside0.mk hL
        have hL4 : L ≤ 4000 := by omega
        clear hL
        have hbA := below_alloc (Below.refl w6.heap.size w6) (.cells #[.slice A6 L c6] 27)
        have hOA : Own (w6.alloc (.cells #[.slice A6 L c6] 27)) wo.heap.size (.slice A6 L c6) p := Kd.R_alloc HO6.out _
        have hold : ∀ k, Fv ge v k → k < wo.heap.size := fun k hk => HP.out.h.lt_all k hk
        have hyou : ∀ k, (Value.slice A6 L c6).ownBlock = some k → wo.heap.size ≤ k ∧ k < w6.heap.size := fun k hk => ⟨Kd.R_base HO6.out k hk, Kd.R_lt HO6.out k hk⟩
        have hbo : Below w.heap.size w (w6.alloc (.cells #[.slice A6 L c6] 27)) := below_step (below_step HP.out.bel HB6.out) hbA
        refine (write_any (base := w.heap.size) (ps := [p]) _ ((HP.out.h.below HB6.out).below hbA) (HT.out.below hbo) HT.out.t.2.2
          (parts_one (heap_alloc_new _ _) (fun hf => by have := hold _ hf; have := HB6.out.size; omega) (Rd.own hOA (fun k hk hf => by have := hold k hf; have := (hyou k hk).1; omega)) (Kd.R_reads' HO6.out).2.1) (fun q hq => by rw [List.mem_singleton.1 hq]; exact Hpb.out) (Hv.of_rest _) (by rw [Hv.of_m]; have := HBl.out; rw [List.length_append] at this; simp; omega)).mono ?_
        rintro e w7 ⟨v7, rfl, hW⟩
        rw [show [p].foldl Hv.put (Hv.of B) = Hv.of (B ++ p) from Hv.of_put B p] at hW
        have HH7 := Aside0.mk hW.h
        have Hv7 : Aside0 (∀ k, Fv ge v7 k → some k ≠ (Value.slice A4 B.length c4).ownBlock ∧ (Value.slice A6 L c6).ownBlock ≠ some k) := ⟨fun k hk => by
          have h1 : Fv ge v k ∨ (w6.alloc (.cells #[.slice A6 L c6] 27)).heap.size ≤ k := by
            rcases hk with rfl | hk
            · exact .inl (.inl rfl)
            · exact (hW.mv k hk).imp .inr id
          have h2 := hbA.size
          rcases h1 with h1 | h1
          · exact ⟨fun he => HP.out.ap k he.symm h1, fun he => by have := hold k h1; have := (hyou k he).1; omega⟩
          · exact ⟨fun he => by have := Kd.R_lt HP.out.a k he.symm; have := HB6.out.size; omega, fun he => by have := (hyou k he).2; omega⟩⟩
        have Ha7 : Aside0 (Own w7 w.heap.size (.slice A4 B.length c4) B) := ⟨Kd.R_mono (Kd.R_kept (Kd.R_tight rfl (Kd.R_alloc (Kd.R_below HP.out.a HB6.out) _)) hW.kept (fun k hk => HP.out.ap k hk.symm)) (fun _ _ => trivial)⟩
        have Ho7 : Aside0 (Own w7 wo.heap.size (.slice A6 L c6) p) := ⟨Kd.R_mono (Kd.R_kept (Kd.R_tight rfl hOA) hW.kept (fun k hk hf => by have := hold k hf; have := (hyou k hk.symm).1; omega)) (fun _ _ => trivial)⟩
        have HB7 : Aside0 (Below w.heap.size w w7) := ⟨hbo.trans hW.bel⟩
        have Hao : Aside0 (∀ k, (Value.slice A4 B.length c4).ownBlock = some k → (Value.slice A6 L c6).ownBlock ≠ some k) := ⟨fun k hk he => by have := Kd.R_lt HP.out.a k hk; have := (hyou k he).1; omega⟩
        have hwo : w.heap.size ≤ wo.heap.size := HP.out.bel.size
        have Hwo := Aside0.mk hwo
        have Hyou := Aside0.mk hyou
        clear hW hbA hOA hold hyou hbo HO6 HB6 HO3 HB3 HP hwo
        go_wp2_with fail
        go_loopg [7] L (fun gk iv wr => ∃ (j : Nat) (ys : List Int), j + gk = L ∧ iv = .int .i64 j ∧ Aside0 (Own wr wo.heap.size (.slice A6 L c6) ys) ∧ Aside0 (Kept w7 wr (fun k => (Value.slice A6 L c6).ownBlock = some k)) ∧ Aside0 (Below wo.heap.size w7 wr))
        case atStart => exact ⟨0, p, by omega, rfl, Ho7, ⟨Kept.refl _ _⟩, ⟨Below.refl _ _⟩⟩
        case round =>
          clear Ho7
          obtain ⟨j, ys, hj, rfl, HO, HK, HBl7⟩ := hrel
          by_cases hjl : j < L
          · obtain ⟨gj, rfl⟩ : ∃ gj, gk = gj + 1 := ⟨gk - 1, by omega⟩
            obtain ⟨g6, rfl⟩ := own_form HO.out (by omega)
            obtain ⟨y, hy1, hy2, hy3⟩ := own_at HO.out j hjl
            have Hset := Aside0.mk hy3
            have hg6 := (Hyou.out g6 rfl).1
            have Hg6 := Aside0.mk hg6
            clear hy3 hg6
            have p2 : (0 : Int) ≤ (j : Int) := by omega
            go_wp2_with fail
            go_roundg gj
            case measure => omega
            case rel => exact ⟨j + 1, _, by omega, by go_num, ⟨Hset.out _⟩, ⟨Kept.setCell (p := ⟨g6, j, none⟩) HK.out (.inl rfl) _⟩, ⟨HBl7.out.setCell (p := ⟨g6, j, none⟩) Hg6.out _⟩⟩
          · have hjL : j = L := by omega
            subst hjL
            have HH8 : Aside0 (Hh wr w.heap.size ge v7 (Hv.of (B ++ p))) := ⟨HH7.out.kept HK.out (fun k hk he => (Hv7.out k hk).2 he)⟩
            have Ha8 : Aside0 (Own wr w.heap.size (.slice A4 B.length c4) B) := ⟨Kd.R_mono (Kd.R_kept (Kd.R_tight rfl Ha7.out) HK.out (fun k hk he => Hao.out k hk.symm he)) (fun _ _ => trivial)⟩
            have HB8 : Aside0 (Below w.heap.size w wr) := ⟨HB7.out.trans (HBl7.out.mono Hwo.out)⟩
            clear HH7 Ha7 HB7 HBl7 HK HO
            have hp8 := pw_cell_below HB8.out HQ1.out
            have hbw8 := HB8.out.size
            have Hlim : Aside0 ((B.length + p.length) * 1 ≤ 140737488355328) := ⟨by have := HBl.out; rw [List.length_append] at this; omega⟩
            rw [← HL.out] at hp8
            have HQ8 : Aside0 ((Kd.int .u8).C wr Ap j p) := ⟨by rw [HL.out]; exact (Rd.came (S := fun _ => False) HQ3.out HB8.out (fun _ h => h.elim)).now⟩
            go_wp2_with (first | ((with_reducible refine gate_builtin (b := .append) (xs := #[.tmp 43, .tmp 47]) rfl ?_); at_builtin; refine Kd.R_append_row (Value.int .u8) (0 : Int) (w0 := w) (w.heap.size) rfl (.tmp 43) (.tmp 47) 27 5 (.int .u8 0) 1 rfl Tryd.underlying27 info5z rfl (by decide) (.slice A4 B.length c4) (B) (p) (Ap) (j) (cp) (fun _ => True) rfl rfl (fun _ _ => trivial) (Ha8.out) (HQ8.out) (HB8.out) (hbw8) (by have := Hlim.out; have := HL.out; omega) ?_; intro v9 w9 ho_ hb_ hg_ hat_; have HG9 := Aside0.mk hg_; have HA9 := Aside0.mk hat_; clear hg_ hat_; have HO9 := Aside0.mk ho_; have HB9 := Aside0.mk hb_; clear ho_ hb_))
            have HP9 := Aside0.mk (Pm.app HH8.out (fun k hk => (Hv7.out k hk).1) HO9.out HB9.out HG9.out HA9.out)
            clear HH8 Ha8 HB8 hp8 hbw8 HO9 HB9 HG9 HA9 HQ8
            go_roundg gq
            case measure => omega
            case rel => exact ⟨k + 1, v7, by omega, by go_num, by rw [HBn.out]; exact HP9⟩
      · have hkn : k = n := by omega
        subst hkn
        obtain ⟨B, hB⟩ : ∃ B, B = ps.flatten := ⟨_, rfl⟩
        have hBt : (ps.take k).flatten = B := by rw [hB, List.take_of_length_le (by rw [Hn.out]; exact Nat.le_refl _)]
        have HBl : Aside0 (B.length ≤ 4000) := ⟨by rw [← hBt]; have := flat_le (ps := ps) k; have := Hsum.out; omega⟩
        have HBb : Aside0 (Byt B) := ⟨by rw [← hBt]; exact flat_byt Hby.out _⟩
        rw [hBt] at HP
        clear hBt hB
        obtain ⟨bs, hbs⟩ : ∃ bs, bs = sum B := ⟨_, rfl⟩
        have Hbs := Aside0.mk hbs
        have heq := fun w => eq30 bs bs (by rw [hbs]; rfl) (by rw [hbs]; rfl) w
        simp only [decide_true] at heq
        have heq0 := eq30_zero
        clear hbs
        obtain ⟨A5, c5, rfl, hle5, hC5⟩ := Kd.R_reads HP.out.a
        obtain ⟨M, hM⟩ : ∃ M, M = B.length := ⟨_, rfl⟩
        rw [← hM] at HP hle5 hC5 ⊢
        have HM := Aside0.mk hM
        clear hM hC5
        go_wp2_with fail
        refine (write_nil _).mono ?_
        rintro e w4 ⟨rfl, hw4⟩
        have HP4 : Aside0 (Pm w w4 ge (.slice A5 M c5) v B) := ⟨by rw [← hw4]; exact HP.out.below (below_alloc (Below.refl _ _) _)⟩
        clear hw4 HP
        go_wp2_with fail
        refine (hsum_any _ HP4.out.h (HT.out.below HP4.out.bel) (Hv.of_rest _) (by rw [Hv.of_m]; have := HBl.out; omega)).mono ?_
        rintro e w5 ⟨rfl, hb5⟩
        rw [Hv.of_sum, ← Hbs.out]
        have HP5 := Aside0.mk (HP4.out.below hb5)
        clear hb5 HP4
        go_wp2_with fail
        refine (sum_one (xs := B) (HT.out.below HP5.out.bel) (by rw [HM.out]; exact (Kd.R_reads' HP5.out.a).2.2) hle5 HBb.out (by have := HBl.out; omega) rfl).mono ?_
        rintro e w6 ⟨rfl, hb6⟩
        rw [← Hbs.out]
        have HB6 := Aside0.mk (below_step HP5.out.bel hb6)
        clear hb6 HP5
        go_wp2_with fail
        refine (hsum_nil _).mono ?_
        rintro e w7 ⟨rfl, hb7⟩
        have HB7 := Aside0.mk (below_step HB6.out hb7)
        clear hb7 HB6
        go_wp2_with fail
        refine (awake_any _ (HT.out.below HB7.out)).mono ?_
        rintro e w8 ⟨rfl, hb8⟩
        have HB8 := Aside0.mk (below_step HB7.out hb8)
        clear hb8 HB7
        go_wp2_with fail
        go_ret
        exact ⟨rfl, HB8.out⟩
end Go.Proofs.YtpigkgnmegpddaaDoor.Sh
