/-
The laws FrameCut, FrameBack and FrameOnly.
-/
import Derived.Test.YtgblihndkhiddaaFk
namespace Go.Proofs.Ytgblihndkhiddaa.Fr
set_option linter.unusedVariables false
set_option linter.unusedSimpArgs false
open Go.RowKit Go.Proofs.YtgblihndkhiddaaW.PrintWords Go.Proofs.YtgblihndkhiddaaW.PrintLast Go.Proofs.YtgblihndkhiddaaW.PrintMore Go.Proofs.Ytgblihndkhiddaa.PFrameFeeds

theorem feeds_rows {n c : Nat} {A : Option Addr} {ls : List (List Int)} {b : List Int} (w : World) (HR : (Kd.slice 5 (Kd.int .u8)).C w A n ls) (hf : ls.flatten = b) (hby : ∀ l ∈ ls, Byt l) (hm : ls.length ≤ 1000000) (ht : b.length ≤ 1000000) :
    Calls Try.prog 36 #[.slice A n c] w fun e w' => ∃ A' c', e = .returned (.tuple #[.slice A' (frames b).1.length c', .int .i64 ((frames b).2.1.length : Int), .bool (frames b).2.2]) ∧ (Kd.slice 5 (Kd.int .u8)).C w' A' (frames b).1.length (frames b).1 ∧ (frames b).1.length ≤ c' ∧ Below w.heap.size w w' := by
  subst hf
  refine (feedsf_any w HR hby hm ht).mono ?_
  rintro e w' ⟨v, rfl, hr, hb⟩
  obtain ⟨A', c', rfl, hl, hC⟩ := Kd.R_reads hr
  exact ⟨A', c', rfl, hC, hl, hb⟩
theorem feeds_one {n c : Nat} {A : Option Addr} {b : List Int} (w : World) (HR : (Kd.int .u8).C w A n b) (hc : n ≤ c) (hby : Byt b) (ht : b.length ≤ 1000000) :
    Calls Try.prog 36 #[.slice (some ⟨w.heap.size, 0, none⟩) 1 1] (w.alloc (.cells #[.slice A n c] 32)) fun e w' => ∃ A' c', e = .returned (.tuple #[.slice A' (frames b).1.length c', .int .i64 ((frames b).2.1.length : Int), .bool (frames b).2.2]) ∧ (Kd.slice 5 (Kd.int .u8)).C w' A' (frames b).1.length (frames b).1 ∧ (frames b).1.length ≤ c' ∧ Below w.heap.size w w' := by
  obtain rfl := HR.1
  have hC : (Kd.slice 5 (Kd.int .u8)).C (w.alloc (.cells #[.slice A b.length c] 32)) (some ⟨w.heap.size, 0, none⟩) [b].length [b] := by
    refine C_of_block rfl (heap_alloc_new w _) [b] (by simp) fun j p hj => ?_
    match j, hj with
    | 0, hj =>
      simp only [List.getElem?_cons_zero, Option.some.injEq] at hj
      subst hj
      exact ⟨_, rfl, A, c, rfl, hc, Kd.C_alloc HR _⟩
  refine (feeds_rows (c := 1) _ hC (b := b) (by simp) (by intro l hl; rw [List.mem_singleton] at hl; subst hl; exact hby) (by simp) ht).mono ?_
  rintro e w' ⟨A', c', he, h1, h2, hb⟩
  exact ⟨A', c', he, h1, h2, below_step (below_alloc (Below.refl _ _) _) hb⟩

set_option maxRecDepth 100000 in
set_option maxHeartbeats 1500000 in
theorem cut_law {n c : Nat} {A : Option Addr} {b : List Int} {x y : Int} (w : World) (HR : (Kd.int .u8).C w A n b) (hc : n ≤ c) (hby : Byt b) (hx : 0 ≤ x ∧ x ≤ 255) (hy : 0 ≤ y ∧ y ≤ 255) :
    Calls Try.prog 7 #[.slice A n c, .int .u8 x, .int .u8 y] w fun e w' => e = .returned (.bool true) ∧ Below w.heap.size w w' := by
  obtain rfl := HR.1
  obtain ⟨xn, rfl⟩ := Int.eq_ofNat_of_zero_le hx.1
  obtain ⟨yn, rfl⟩ := Int.eq_ofNat_of_zero_le hy.1
  have hx2 : (xn : Int) ≤ 255 := hx.2
  have hy2 : (yn : Int) ≤ 255 := hy.2
  have H := Aside0.mk HR
  have Hby := Aside0.mk hby
  clear HR hby hx hy
  obtain ⟨n, hn⟩ : ∃ n, n = b.length := ⟨_, rfl⟩
  rw [← hn] at hc H ⊢
  have Hn := Aside0.mk hn
  clear hn
  by_cases hbig : n ≤ 3000
  · have hd : decide (3000 < (n : Int)) = false := by simp; omega
    have Hl : Aside0 (b.length ≤ 1000000) := ⟨by rw [← Hn.out]; omega⟩
    obtain ⟨⟨F, R0, d⟩, hP⟩ : ∃ P, frames b = P := ⟨_, rfl⟩
    have HP := Aside0.mk hP
    have Hfew : Aside0 (F.length ≤ 1000000000000) := ⟨by have := frames_few _ b (Nat.le_refl _); rw [hP, ← Hn.out] at this; simp only at this; omega⟩
    clear hP
    go_enter Try.func7, Try.ntmps7
    go_wp2_with fail
    refine (feeds_one _ H.out hc Hby.out Hl.out).mono ?_
    rintro e w1 ⟨A1, c1, rfl, hC1, hl1, hb1⟩
    rw [HP.out] at hC1 hl1
    rw [HP.out]
    have HC1 := Aside0.mk hC1
    have HB1 := Aside0.mk hb1
    clear hC1 hl1 hb1
    go_wp2_with fail
    rw [show (1 : Int) + (xn : Int) = ((1 + xn : Nat) : Int) from by omega]
    refine (cut_any _ (Kd.C_below H.out HB1.out) hc Hby.out (by omega) (by omega)).mono ?_
    rintro e w2 ⟨A2, c2, cs, rfl, hC2, hl2, hf2, hn2, hby2, hb2⟩
    have HC2 := Aside0.mk hC2
    have HB2 := Aside0.mk (below_step HB1.out hb2)
    have Hf2 := Aside0.mk hf2
    have Hn2 : Aside0 (cs.length ≤ 1000000) := ⟨by rw [← Hn.out] at hn2; omega⟩
    have Hby2 := Aside0.mk hby2
    have HC1' := Aside0.mk (Kd.C_below HC1.out hb2)
    clear hC2 hl2 hf2 hn2 hby2 hb2 HC1
    go_wp2_with fail
    refine (feeds_rows _ HC2.out Hf2.out Hby2.out Hn2.out Hl.out).mono ?_
    rintro e w3 ⟨A3, c3, rfl, hC3, hl3, hb3⟩
    rw [HP.out] at hC3 hl3
    rw [HP.out]
    have HC3 := Aside0.mk hC3
    have HB3 := Aside0.mk (below_step HB2.out hb3)
    have HC13 := Aside0.mk (Kd.C_below HC1'.out hb3)
    clear hC3 hl3 hb3 HC1' HC2 Hf2 Hn2 Hby2
    go_wp2_with fail
    rw [show (1 : Int) + (yn : Int) % 8 = ((1 + yn % 8 : Nat) : Int) from by omega]
    refine (cut_any _ (Kd.C_below H.out HB3.out) hc Hby.out (by omega) (by omega)).mono ?_
    rintro e w4 ⟨A4, c4, cs4, rfl, hC4, hl4, hf4, hn4, hby4, hb4⟩
    have HC4 := Aside0.mk hC4
    have HB4 := Aside0.mk (below_step HB3.out hb4)
    have Hf4 := Aside0.mk hf4
    have Hn4 : Aside0 (cs4.length ≤ 1000000) := ⟨by rw [← Hn.out] at hn4; omega⟩
    have Hby4 := Aside0.mk hby4
    have HC14 := Aside0.mk (Kd.C_below HC13.out hb4)
    have HC34 := Aside0.mk (Kd.C_below HC3.out hb4)
    clear hC4 hl4 hf4 hn4 hby4 hb4 HC13 HC3
    go_wp2_with fail
    refine (feeds_rows _ HC4.out Hf4.out Hby4.out Hn4.out Hl.out).mono ?_
    rintro e w5 ⟨A5, c5, rfl, hC5, hl5, hb5⟩
    rw [HP.out] at hC5 hl5
    rw [HP.out]
    have HC5 := Aside0.mk hC5
    have HB5 := Aside0.mk (below_step HB4.out hb5)
    have HC15 := Aside0.mk (Kd.C_below HC14.out hb5)
    have HC35 := Aside0.mk (Kd.C_below HC34.out hb5)
    clear hC5 hl5 hb5 HC14 HC34 HC4 Hf4 Hn4 Hby4
    go_wp2_with fail
    refine (same_true _ HC15.out HC35.out Hfew.out).mono ?_
    rintro e w' ⟨rfl, m6, rfl⟩
    go_wp2_with fail
    refine (same_true _ (Kd.C_drewN HC15.out m6) (Kd.C_drewN HC5.out m6) Hfew.out).mono ?_
    rintro e w' ⟨rfl, m7, rfl⟩
    go_wp2_with fail
    refine (awake_any _).mono ?_
    rintro e w8 ⟨rfl, hb8⟩
    have HB8 := Aside0.mk (below_step (pw_below_drewN HB5.out (m6 + m7)) hb8)
    clear hb8
    go_wp2_with fail
    go_ret
    exact ⟨rfl, HB8.out⟩
  · have hd : decide (3000 < (n : Int)) = true := by simp; omega
    go_enter Try.func7, Try.ntmps7
    go_wp2
    go_ret
    exact ⟨rfl, Below.refl _ _⟩

theorem wrapL_byt {ls : List (List Int)} (h : wrapOk ls = true) (hby : ∀ l ∈ ls, Byt l) : Byt (wrapL ls) := by
  intro x hx
  simp only [wrapL, List.mem_flatten, List.mem_map] at hx
  obtain ⟨l', ⟨l, hl, rfl⟩, hx⟩ := hx
  simp only [wrapOk, List.all_eq_true, decide_eq_true_eq] at h
  have hh := h l hl
  simp only [wrap1, List.mem_cons] at hx
  rcases hx with rfl | rfl | hx
  · omega
  · omega
  · exact hby l hl x hx
theorem wrapL_le (ls : List (List Int)) (h : wrapOk ls = true) : (wrapL ls).length ≤ ls.length * 1026 := by
  induction ls with
  | nil => simp [wrapL]
  | cons l ls ih =>
    have hw : wrapOk (l :: ls) = (decide (1 ≤ l.length ∧ l.length ≤ 1024) && wrapOk ls) := by simp only [wrapOk, List.all_cons]
    rw [hw, Bool.and_eq_true, decide_eq_true_eq] at h
    have := ih h.2
    rw [wrapL_cons, List.length_append, wrap1_length, List.length_cons]
    omega

set_option maxRecDepth 100000 in
set_option maxHeartbeats 1500000 in
theorem back_law {n c : Nat} {A : Option Addr} {ls : List (List Int)} (w : World) (HR : (Kd.slice 5 (Kd.int .u8)).C w A n ls) (hc : n ≤ c) (hby : ∀ l ∈ ls, Byt l) :
    Calls Try.prog 8 #[.slice A n c] w fun e w' => e = .returned (.bool true) ∧ Below w.heap.size w w' := by
  have H := Aside0.mk HR
  have Hby := Aside0.mk hby
  clear HR hby
  obtain ⟨s, hs⟩ : ∃ s, s = shortL ls := ⟨_, rfl⟩
  have Hs := Aside0.mk hs
  clear hs
  cases s with
  | false =>
    go_enter Try.func8, Try.ntmps8
    go_wp2_with fail
    refine (short_any _ H.out hc).mono ?_
    rintro e w' ⟨rfl, m, rfl⟩
    rw [← Hs.out]
    go_wp2_with fail
    go_ret
    exact ⟨rfl, pw_below_drewN (Below.refl _ _) m⟩
  | true =>
    have hsl := Aside0.mk (shortL_le Hs.out.symm)
    obtain ⟨ok, hok⟩ : ∃ ok, ok = wrapOk ls := ⟨_, rfl⟩
    obtain ⟨L, hL⟩ : ∃ L, L = wrapL ls := ⟨_, rfl⟩
    have Hok := Aside0.mk hok
    have HL := Aside0.mk hL
    clear hok hL
    go_enter Try.func8, Try.ntmps8
    go_wp2_with fail
    refine (short_any _ H.out hc).mono ?_
    rintro e w1 ⟨rfl, m, rfl⟩
    rw [← Hs.out]
    have H1 := Aside0.mk (Kd.C_drewN H.out m)
    obtain ⟨w1, hw1⟩ : ∃ w1, w1 = w.drewN m := ⟨_, rfl⟩
    have HB1 : Aside0 (Below w.heap.size w w1) := ⟨by rw [hw1]; exact pw_below_drewN (Below.refl _ _) m⟩
    rw [← hw1] at H1 ⊢
    clear hw1
    go_wp2_with fail
    refine (wrap_any _ H1.out hc (by have := hsl.out.1; omega)).mono ?_
    rintro e w2 ⟨v2, rfl, hv2, hb2⟩
    cases ok with
    | false =>
      rw [← Hok.out, if_neg (by simp)] at hv2
      rw [← Hok.out, if_neg (by simp)]
      obtain ⟨A2, c2, rfl, hl2, hC2⟩ := Kd.R_reads hv2
      have HB2 := Aside0.mk (below_step HB1.out hb2)
      clear hv2 hb2 hl2 hC2 H1 HB1
      go_wp2_with fail
      refine (awake_any _).mono ?_
      rintro e w4 ⟨rfl, hb4⟩
      have HB4 := Aside0.mk (below_step HB2.out hb4)
      clear hb4
      go_wp2_with fail
      go_ret
      exact ⟨rfl, HB4.out⟩
    | true =>
      rw [← Hok.out, if_pos rfl, ← HL.out] at hv2
      rw [← Hok.out, if_pos rfl]
      obtain ⟨A2, c2, rfl, hl2, hC2⟩ := Kd.R_reads hv2
      have HB2 := Aside0.mk (below_step HB1.out hb2)
      have H2 := Aside0.mk (Kd.C_below H1.out (hb2.mono (by exact Nat.le_refl _)))
      have HC2 := Aside0.mk hC2
      have Hl2 := Aside0.mk hl2
      have Hfr : Aside0 (frames L = (ls, [], false)) := ⟨by rw [HL.out]; exact frames_wrapL ls Hok.out.symm⟩
      have Hlb : Aside0 (Byt L ∧ L.length ≤ 1000000) := ⟨by rw [HL.out]; exact wrapL_byt Hok.out.symm Hby.out, by rw [HL.out]; have := wrapL_le ls Hok.out.symm; have := hsl.out.1; omega⟩
      clear hv2 hb2 hl2 hC2 H1 HB1
      go_wp2_with fail
      refine (feeds_one _ HC2.out Hl2.out Hlb.out.1 Hlb.out.2).mono ?_
      rintro e w3 ⟨A3, c3, rfl, hC3, hl3, hb3⟩
      rw [Hfr.out] at hC3 hl3
      rw [Hfr.out]
      have HC3 := Aside0.mk hC3
      have HB3 := Aside0.mk (below_step HB2.out hb3)
      have H3 := Aside0.mk (Kd.C_below H2.out hb3)
      clear hC3 hl3 hb3 H2 HC2
      go_wp2_with fail
      refine (same_true _ HC3.out H3.out (by have := hsl.out.1; omega)).mono ?_
      rintro e w' ⟨rfl, m6, rfl⟩
      go_wp2_with fail
      refine (awake_any _).mono ?_
      rintro e w8 ⟨rfl, hb8⟩
      have HB8 := Aside0.mk (below_step (pw_below_drewN HB3.out m6) hb8)
      clear hb8
      go_wp2_with fail
      go_ret
      exact ⟨rfl, HB8.out⟩

set_option maxRecDepth 100000 in
set_option maxHeartbeats 1500000 in
theorem only_law {n c : Nat} {A : Option Addr} {b : List Int} (w : World) (HR : (Kd.int .u8).C w A n b) (hc : n ≤ c) (hby : Byt b) :
    Calls Try.prog 9 #[.slice A n c] w fun e w' => e = .returned (.bool true) ∧ Below w.heap.size w w' := by
  obtain rfl := HR.1
  have H := Aside0.mk HR
  have Hby := Aside0.mk hby
  clear HR hby
  obtain ⟨n, hn⟩ : ∃ n, n = b.length := ⟨_, rfl⟩
  rw [← hn] at hc H ⊢
  have Hn := Aside0.mk hn
  clear hn
  by_cases hbig : n ≤ 3000
  · have hd : decide (3000 < (n : Int)) = false := by simp; omega
    have Hl : Aside0 (b.length ≤ 1000000) := ⟨by rw [← Hn.out]; omega⟩
    have hwf := wrapL_frames b.length b (Nat.le_refl _) Hby.out
    have hfew := frames_few _ b (Nat.le_refl _)
    obtain ⟨⟨F, R0, d⟩, hP⟩ : ∃ P, frames b = P := ⟨_, rfl⟩
    rw [hP] at hwf hfew
    simp only at hwf hfew
    obtain ⟨hok, hlive, t, ht⟩ := hwf
    have HP := Aside0.mk hP
    have Hfew : Aside0 (F.length ≤ 1000000) := ⟨by rw [← Hn.out] at hfew; omega⟩
    have hwl : (wrapL F).length ≤ n := by rw [Hn.out, ← ht, List.length_append]; omega
    have htk : b.take (wrapL F).length = wrapL F := by rw [← ht]; exact List.take_left
    obtain ⟨L, hL⟩ : ∃ L, L = wrapL F := ⟨_, rfl⟩
    rw [← hL] at hwl htk hlive
    have HL := Aside0.mk hL
    have Hok := Aside0.mk hok
    have Htk := Aside0.mk htk
    have Hlive : Aside0 (d = false → L.length + R0.length = n) := ⟨fun h => by rw [Hn.out, ← hlive h, List.length_append]⟩
    clear hP hok hlive ht hfew hL htk
    go_enter Try.func9, Try.ntmps9
    go_wp2_with fail
    refine (feeds_one _ H.out hc Hby.out Hl.out).mono ?_
    rintro e w1 ⟨A1, c1, rfl, hC1, hl1, hb1⟩
    rw [HP.out] at hC1 hl1
    rw [HP.out]
    have HC1 := Aside0.mk hC1
    have Hl1 := Aside0.mk hl1
    have HB1 := Aside0.mk hb1
    clear hC1 hl1 hb1
    go_wp2_with fail
    refine (wrap_any _ HC1.out Hl1.out Hfew.out).mono ?_
    rintro e w2 ⟨v2, rfl, hv2, hb2⟩
    rw [Hok.out, if_pos rfl, ← HL.out] at hv2
    rw [Hok.out, if_pos rfl]
    obtain ⟨A2, c2, rfl, hl2, hC2⟩ := Kd.R_reads hv2
    have HB2 := Aside0.mk (below_step HB1.out hb2)
    have hCb : (Kd.int .u8).C w2 A n b := Kd.C_below H.out HB2.out
    have hcut := cut_bytes_to (c := c) (by rw [← Hn.out]; exact hCb) (by rw [← Hn.out]; exact hc) L.length (by rw [← Hn.out]; exact hwl)
    rw [Htk.out, ← Hn.out] at hcut
    obtain ⟨hcut1, hcut2⟩ := hcut
    have hv1 : ∀ nq, (convert 32 9 (.slice A2 L.length c2)).run Try.prog (w2.drewN nq) = .ok (.string (strOfNums L)) (w2.drewN nq) := fun nq => Kd.C_string Try.underlying32 Try.underlying5 Try.underlying9 (Kd.C_drewN hC2 nq)
    have hv3 : ∀ nq, (convert 32 9 (.slice A L.length c)).run Try.prog (w2.drewN nq) = .ok (.string (strOfNums L)) (w2.drewN nq) := fun nq => Kd.C_string Try.underlying32 Try.underlying5 Try.underlying9 (Kd.C_drewN hcut2 nq)
    have hgd : decide ((n : Int) < (L.length : Int)) = false := by simp; omega
    clear hv2 hb2 hl2 hC2 hCb hcut2 HC1 HB1
    go_wp2_with fail
    go_quiet (fail)
    clear hv1 hv3 hcut1
    obtain ⟨w3, hw3⟩ : ∃ w3, w3 = w2.drewN nq := ⟨_, rfl⟩
    have HB3 : Aside0 (Below w.heap.size w w3) := ⟨by rw [hw3]; exact pw_below_drewN HB2.out nq⟩
    cases d with
    | true =>
      go_wp2_with fail
      rw [← hw3]
      refine (awake_any _).mono ?_
      rintro e w8 ⟨rfl, hb8⟩
      have HB8 := Aside0.mk (below_step HB3.out hb8)
      clear hb8
      go_wp2_with fail
      go_ret
      exact ⟨rfl, HB8.out⟩
    | false =>
      have hsum := Hlive.out rfl
      have heq : ((L.length : Int) + (R0.length : Int) == (n : Int)) = true := by rw [beq_iff_eq]; omega
      have hr0 : R0.length ≤ 3000 := by omega
      clear hsum
      go_wp2_with fail
      rw [← hw3]
      refine (awake_any _).mono ?_
      rintro e w8 ⟨rfl, hb8⟩
      have HB8 := Aside0.mk (below_step HB3.out hb8)
      clear hb8
      go_wp2_with fail
      go_ret
      exact ⟨rfl, HB8.out⟩
  · have hd : decide (3000 < (n : Int)) = true := by simp; omega
    go_enter Try.func9, Try.ntmps9
    go_wp2
    go_ret
    exact ⟨rfl, Below.refl _ _⟩
end Go.Proofs.Ytgblihndkhiddaa.Fr
