/-
The law FrameHeld.
-/
import Derived.Test.YtgblihndkhiddaaFj
namespace Go.Proofs.Ytgblihndkhiddaa.Fr
set_option linter.unusedVariables false
set_option linter.unusedSimpArgs false
open Go.RowKit Go.Proofs.YtgblihndkhiddaaW.PrintWords Go.Proofs.YtgblihndkhiddaaW.PrintLast Go.Proofs.YtgblihndkhiddaaW.PrintMore Go.Proofs.Ytgblihndkhiddaa.PFrameFeeds

/-- A block of bytes, n at least. -/
def Bk (W : World) (g n : Nat) : Prop := ∃ cells : Array Value, W.heap[g]? = some (.cells cells 5 (0, 0)) ∧ ∀ i, i < n → ∃ x, cells[i]? = some (.int .u8 x)
theorem Bk.get {W : World} {g n i : Nat} (h : Bk W g n) (hi : i < n) : ∃ x, W.cell? ⟨g, i, none⟩ = some (.int .u8 x) ∧ W.frozen? ⟨g, i, none⟩ = false := by
  obtain ⟨cells, hb, hc⟩ := h
  obtain ⟨x, hx⟩ := hc i hi
  exact ⟨x, (blk_cell hb i).trans hx, blk_frozen hb i⟩
theorem Bk.step {W W' : World} {g n : Nat} (h : Bk W g n) (hm : W'.heap[g]? = W.heap[g]?) : Bk W' g n := by
  obtain ⟨cells, hb, hc⟩ := h
  exact ⟨cells, hm.trans hb, hc⟩
theorem Bk.set {W : World} {g n k m : Nat} (h : Bk W g n) (h2 : Bk W k m) (i : Nat) (x : Int) : Bk (W.setCell ⟨g, i, none⟩ (.int .u8 x)) k m := by
  obtain ⟨c2, hb2, hc2⟩ := h2
  by_cases hk : k = g
  · subst hk
    refine ⟨_, blk_set hb2 i _, fun j hj => ?_⟩
    obtain ⟨y, hy⟩ := hc2 j hj
    rw [Array.getElem?_setIfInBounds]
    split
    · next e =>
      subst e
      have : i < c2.size := by
        rcases Nat.lt_or_ge i c2.size with h | h
        · exact h
        · rw [Array.getElem?_eq_none h] at hy; cases hy
      exact ⟨x, by simp [this]⟩
    · exact ⟨y, hy⟩
  · exact ⟨c2, blk_far (p := ⟨g, i, none⟩) hb2 hk _, hc2⟩
theorem Bk.of_R {W : World} {base : Nat} {ok : Nat → Prop} {v : Value} {xs : List Int} (h : (Kd.int .u8).R 5 W base ok v xs) (h0 : 0 < xs.length) :
    ∃ g c, v = .slice (some ⟨g, 0, none⟩) xs.length c ∧ base ≤ g ∧ ok g ∧ Bk W g xs.length := by
  obtain ⟨A, c, hv, hl, hC⟩ := Kd.R_reads h
  obtain ⟨ad, rfl⟩ := C_some hC h0
  obtain ⟨inner, ho⟩ := Kd.R_own h
  have hok := h.1
  rcases ho.2 with ⟨he, _⟩ | ⟨g, cap, cur, he, hg, hh, _⟩
  · rw [hv] at he; cases he
  · rw [hv] at he
    injection he with he1 he2 he3
    injection he1 with he1
    subst he1
    subst hv
    refine ⟨g, c, rfl, hg, hok g rfl, cur, hh, fun i hi => ?_⟩
    have := C_cell hC rfl i hi
    rw [add_plain] at this
    exact ⟨_, by rw [← this]; exact (blk_cell hh i).symm⟩

/-- Rows of bytes whose blocks are all of them ok, whatever they hold. -/
def Sc (W : World) (ok : Nat → Prop) (A : Option Addr) (n : Nat) : Prop := ∀ j, j < n → ∃ gf Aj lj cj, A = some ⟨gf, 0, none⟩ ∧ (∃ cs : Array Value, W.heap[gf]? = some (.cells cs 32 (0, 0)) ∧ cs[j]? = some (.slice Aj lj cj)) ∧ lj ≤ cj ∧ lj ≤ 9223372036854775807 ∧ (0 < lj → ∃ gj, Aj = some ⟨gj, 0, none⟩ ∧ ok gj ∧ Bk W gj lj)
theorem Sc.of_R {W : World} {base : Nat} {ok : Nat → Prop} {A : Option Addr} {c n : Nat} {xs : List (List Int)} (h : (Kd.slice 5 (Kd.int .u8)).R 32 W base ok (.slice A n c) xs) (hn : n = xs.length) (hb : ∀ l ∈ xs, l.length ≤ 9223372036854775807) : Sc W (fun k => ok k ∧ base ≤ k) A n := by
  subst hn
  intro j hj
  obtain ⟨hok, inner, ho, hr⟩ := h
  rcases ho.2 with ⟨he, h0⟩ | ⟨g, cap, cur, he, hg, hh, hx1, hx2, hx3, hx4⟩
  · omega
  · injection he with he1 he2 he3
    subst he1
    obtain ⟨u, hu, hR⟩ := hr.2 j xs[j] (List.getElem?_eq_getElem hj)
    have hin : inner[j]? = some u := by
      rw [show (Kd.slice 5 (Kd.int .u8)).sz = 1 from rfl, Nat.mul_one] at hu
      have : ((inner.drop j).take 1)[0]? = some u := by rw [hu]; rfl
      rw [List.getElem?_take, List.getElem?_drop] at this
      simpa using this
    have hcur : cur[j]? = some u := by
      rw [← hx4, show (Kd.slice 5 (Kd.int .u8)).sz = 1 from rfl, Nat.mul_one, List.getElem?_take, if_pos hj] at hin
      rw [← Array.getElem?_toList]; exact hin
    obtain ⟨Aj, cj, rfl, hlj, hCj⟩ := Kd.R_reads hR
    refine ⟨g, Aj, xs[j].length, cj, rfl, ⟨cur, hh, hcur⟩, hlj, hb _ (List.getElem_mem _), fun h0 => ?_⟩
    obtain ⟨gj, c', hv, h1, h2, h3⟩ := Bk.of_R hR h0
    injection hv with hv1
    exact ⟨gj, hv1, ⟨h2.1, h1⟩, h3⟩
theorem Sc.set {W : World} {ok : Nat → Prop} {A : Option Addr} {n : Nat} (h : Sc W ok A n) {g m : Nat} (hg : Bk W g m) (i : Nat) (x : Int) : Sc (W.setCell ⟨g, i, none⟩ (.int .u8 x)) ok A n := by
  intro j hj
  obtain ⟨gf, Aj, lj, cj, rfl, ⟨cs, hb, hc⟩, h1, h2, h3⟩ := h j hj
  refine ⟨gf, Aj, lj, cj, rfl, ⟨cs, blk_far (p := ⟨g, i, none⟩) hb ?_ _, hc⟩, h1, h2, fun h0 => ?_⟩
  · rintro rfl
    obtain ⟨c5, hb5, _⟩ := hg
    rw [hb] at hb5
    injection hb5 with hb5
    injection hb5 with _ hb5
    exact absurd hb5 (by decide)
  · obtain ⟨gj, e, hok, hk⟩ := h3 h0
    exact ⟨gj, e, hok, Bk.set hg hk i x⟩
theorem Sc.drewN {W : World} {ok : Nat → Prop} {A : Option Addr} {n : Nat} (h : Sc W ok A n) (m : Nat) : Sc (W.drewN m) ok A n := h

theorem frames_rows (n : Nat) : ∀ b : List Int, b.length ≤ n → ∀ l ∈ (frames b).1, l.length ≤ 1024 := by
  induction n with
  | zero =>
    intro b hb l hl
    have := frames_few _ b (Nat.le_refl _)
    have : (frames b).1 = [] := List.eq_nil_of_length_eq_zero (by omega)
    rw [this] at hl
    cases hl
  | succ n ih =>
    intro b hb l hl
    obtain ⟨⟨m, q⟩, hs⟩ : ∃ p, sz b = p := ⟨_, rfl⟩
    cases q with
    | false =>
      rw [frames_short hs] at hl
      cases hl
    | true =>
      by_cases hm : 1 ≤ m ∧ m ≤ 1024
      · by_cases hw : (b.length : Int) < 2 + m
        · rw [frames_wait hs hm hw] at hl
          cases hl
        · have h2 := sz_long hs
          rw [frames_one hs hm hw] at hl
          rcases List.mem_cons.1 hl with rfl | hl
          · rw [List.length_take]
            omega
          · exact ih _ (by rw [List.length_drop, List.length_drop]; omega) l hl
      · rw [frames_wrong hs hm] at hl
        cases hl

theorem R_C {α : Type} {d : Kd α} {e : Nat} {W : World} {base : Nat} {ok : Nat → Prop} {A : Option Addr} {n c : Nat} {xs : List α} (h : d.R e W base ok (.slice A n c) xs) : d.C W A n xs := by
  obtain ⟨A', c', hv, hl, hC⟩ := Kd.R_reads h
  injection hv with h1 h2 h3
  rw [h1, h2]
  exact hC

/-- What Feed does, dead or not. -/
theorem feed_st {base g n c : Nat} {v : Value} {bs ys : List Int} {d : Bool} {A : Option Addr} {F : List (List Int)} {b2 : List Int} {d2 : Bool} (w : World) (h : Rd w base g v bs d) (hd : d = true → bs = []) (HR : (Kd.int .u8).C w A n ys) (hby : Byt bs) (hyb : Byt ys) (hl : bs.length ≤ 1025) (hl2 : ys.length ≤ 100000)
    (hF : feed1 (bs, d) ys = (F, b2, d2)) :
    Calls Try.prog 32 #[.pointer (some ⟨g, 0, none⟩), .slice A n c] w fun e w' => ∃ A' c' v', e = .returned (.tuple #[.slice A' F.length c', .int .i64 (if d2 = true then 6 else 0)]) ∧ Rd w' base g v' b2 d2 ∧
      (Kd.slice 5 (Kd.int .u8)).R 32 w' w.heap.size (fun k => ¬ Fv g v' k) (.slice A' F.length c') F ∧ Mv w v v' ∧ Below base w w' ∧ Kept w w' (Fv g v) := by
  cases d with
  | true =>
    obtain rfl := hd rfl
    simp only [feed1, if_pos, Prod.mk.injEq] at hF
    obtain ⟨rfl, rfl, rfl⟩ := hF
    refine (feed_dead w h).mono ?_
    rintro e w' ⟨rfl, rfl⟩
    exact ⟨none, 0, v, rfl, h, Kd.R_nil _ _ _ _ _, fun k hk => .inl hk, Below.refl _ _, Kept.refl _ _⟩
  | false =>
    have hF2 : frames (bs ++ ys) = (F, b2, d2) := by simpa [feed1] using hF
    refine (feed_any w h HR (Byt.append hby hyb) (by omega)).mono ?_
    rintro e w' ⟨vo, v', rfl, h1, h2, h3, h4, h5⟩
    rw [hF2] at h1 h2 ⊢
    obtain ⟨A', c', rfl⟩ := Kd.R_slice h2
    exact ⟨A', c', v', rfl, h1, h2, h3, h4, h5⟩
theorem feed1_facts {bs ys : List Int} {d : Bool} {F : List (List Int)} {b2 : List Int} {d2 : Bool} (hF : feed1 (bs, d) ys = (F, b2, d2)) (hd : d = true → bs = []) (hby : Byt bs) (hyb : Byt ys) :
    (d2 = true → b2 = []) ∧ Byt b2 ∧ b2.length ≤ 1025 ∧ F.length ≤ bs.length + ys.length ∧ ∀ l ∈ F, l.length ≤ 1024 := by
  cases d with
  | true =>
    obtain rfl := hd rfl
    simp only [feed1, if_pos, Prod.mk.injEq] at hF
    obtain ⟨rfl, rfl, rfl⟩ := hF
    exact ⟨fun _ => rfl, hby, by simp, by simp, fun l hl => by cases hl⟩
  | false =>
    have hF2 : frames (bs ++ ys) = (F, b2, d2) := by simpa [feed1] using hF
    have h1 := frames_dead _ (bs ++ ys) (Nat.le_refl _)
    have h2 := frames_byt _ (bs ++ ys) (Nat.le_refl _) (Byt.append hby hyb)
    have h3 := frames_rest _ (bs ++ ys) (Nat.le_refl _)
    have h4 := frames_few _ (bs ++ ys) (Nat.le_refl _)
    have h5 := frames_rows _ (bs ++ ys) (Nat.le_refl _)
    rw [hF2] at h1 h2 h3 h4 h5
    rw [List.length_append] at h4
    exact ⟨h1, h2, h3, h4, h5⟩

set_option maxRecDepth 100000 in
set_option maxHeartbeats 3000000 in
theorem held_law {n c : Nat} {A : Option Addr} {ls : List (List Int)} (w : World) (HR : (Kd.slice 5 (Kd.int .u8)).C w A n ls) (hc : n ≤ c) (hby : ∀ l ∈ ls, Byt l) :
    Calls Try.prog 10 #[.slice A n c] w fun e w' => e = .returned (.bool true) ∧ Below w.heap.size w w' := by
  have H := Aside0.mk HR
  have Hby := Aside0.mk hby
  have Hn : Aside0 (ls.length = n) := ⟨HR.1⟩
  clear HR hby
  obtain ⟨s, hs⟩ : ∃ s, s = shortL ls := ⟨_, rfl⟩
  have Hs := Aside0.mk hs
  clear hs
  cases s with
  | false =>
    go_enter Try.func10, Try.ntmps10
    go_wp2_with fail
    refine (short_any _ H.out hc).mono ?_
    rintro e w' ⟨rfl, m, rfl⟩
    rw [← Hs.out]
    go_wp2_with fail
    go_ret
    exact ⟨rfl, pw_below_drewN (Below.refl _ _) m⟩
  | true =>
    have hsl := Aside0.mk (shortL_le Hs.out.symm)
    have hn20 : n ≤ 20 := by have := hsl.out.1; rw [Hn.out] at this; exact this
    go_enter Try.func10, Try.ntmps10
    go_wp2_with fail
    refine (short_any _ H.out hc).mono ?_
    rintro e w1 ⟨rfl, m, rfl⟩
    rw [← Hs.out]
    obtain ⟨w1, hw1⟩ : ∃ w1, w1 = w.drewN m := ⟨_, rfl⟩
    have HB1 : Aside0 (Below w.heap.size w w1) := ⟨by rw [hw1]; exact pw_below_drewN (Below.refl _ _) m⟩
    rw [← hw1]
    clear hw1
    go_wp2_with fail
    refine (new_any _).mono ?_
    rintro e w2 ⟨rfl, hw2⟩
    have HR2 : Aside0 (Rd w2 w.heap.size w1.heap.size (.slice none 0 0) [] false ∧ Below w.heap.size w w2 ∧ w1.heap.size < w2.heap.size) := ⟨by rw [← hw2]; exact ⟨Rd.new w1 _ HB1.out.size, below_alloc HB1.out _, (Rd.new w1 _ HB1.out.size).lt⟩⟩
    obtain ⟨ga, hga⟩ : ∃ ga, ga = w1.heap.size := ⟨_, rfl⟩
    rw [← hga] at HR2 ⊢
    clear hw2 hga HB1
    go_wp2_with fail
    refine (new_any _).mono ?_
    rintro e w3 ⟨rfl, hw3⟩
    have HR3 : Aside0 (Rd w3 w.heap.size w2.heap.size (.slice none 0 0) [] false ∧ Rd w3 w.heap.size ga (.slice none 0 0) [] false ∧ Below w.heap.size w w3) := ⟨by rw [← hw3]; exact ⟨Rd.new w2 _ HR2.out.2.1.size, HR2.out.1.below (below_alloc (Below.refl _ _) _), below_alloc HR2.out.2.1 _⟩⟩
    obtain ⟨gb, hgb⟩ : ∃ gb, gb = w2.heap.size := ⟨_, rfl⟩
    have Hab : Aside0 (ga < gb) := ⟨by have := HR2.out.2.2; omega⟩
    rw [← hgb] at HR3 ⊢
    clear hw3 hgb HR2
    go_wp2_with fail
    go_loopg [5] n (fun gk iv wr => ∃ (k : Nat) (va vb : Value) (bs : List Int) (d : Bool), k + gk = n ∧ iv = .int .i64 k ∧
      Aside0 (Rd wr w.heap.size ga va bs d ∧ Rd wr w.heap.size gb vb bs d ∧ (∀ j, Fv ga va j → ¬ Fv gb vb j) ∧ (d = true → bs = []) ∧ Byt bs ∧ bs.length ≤ 1025) ∧ Aside0 (Below w.heap.size w wr))
    case atStart =>
      refine ⟨0, .slice none 0 0, .slice none 0 0, [], false, by omega, rfl, ⟨HR3.out.2.1, HR3.out.1, fun j h1 h2 => ?_, fun h => rfl, (fun x hx => by cases hx), by simp⟩, ⟨HR3.out.2.2⟩⟩
      have := Fv_nil h1
      have := Fv_nil h2
      have := Hab.out
      omega
    case round =>
      obtain ⟨k, va, vb, bs, d, hk, rfl, HI, HB⟩ := hrel
      clear HR3 Hab
      by_cases hlt : k < n
      · obtain ⟨gq, rfl⟩ : ∃ gq, gk = gq + 1 := ⟨gk - 1, by omega⟩
        obtain ⟨wo, hwo⟩ : ∃ wo, wo = wr := ⟨_, rfl⟩
        subst hwo
        have hlt2 : k < ls.length := by rw [Hn.out]; exact hlt
        have p1 : 0 ≤ (k : Int) := by omega
        have p2 : (k : Int) < n := by omega
        obtain ⟨ad, A1, c1, rfl, hx1, hl1, hC1⟩ := at_L1 H.out (k : Int) (by omega) (by omega)
        have hll : rd_L1 ls (k : Int) = ls[k] := rd_L1_nat ls k hlt2
        rw [hll] at hx1 hl1 hC1
        rw [Int.toNat_natCast] at hx1
        have hyb := Hby.out ls[k] (List.getElem_mem _)
        have h12 := hsl.out.2 ls[k] (List.getElem_mem _)
        obtain ⟨l, hl⟩ : ∃ l, l = ls[k] := ⟨_, rfl⟩
        rw [← hl] at hx1 hl1 hC1 hyb h12
        obtain ⟨m1, hm1⟩ : ∃ m1, m1 = l.length := ⟨_, rfl⟩
        rw [← hm1] at hx1 hl1 hC1 h12
        have HC1 := Aside0.mk hC1
        have Hx1 := Aside0.mk hx1
        have Hyb := Aside0.mk hyb
        have Hm1 := Aside0.mk hm1
        have hx2 : wo.cell? (ad.add k) = some (.slice A1 m1 c1) := pw_cell_below HB.out hx1
        obtain ⟨⟨F, b2, d2⟩, hF⟩ : ∃ P, feed1 (bs, d) l = P := ⟨_, rfl⟩
        have hfa := feed1_facts hF HI.out.2.2.2.1 HI.out.2.2.2.2.1 hyb
        rw [← hm1] at hfa
        have HF := Aside0.mk hF
        have Hfa := Aside0.mk hfa
        clear hF hfa hm1 hl hll hlt2 hyb hC1 hx1
        go_wp2_with (first | (((with_reducible refine gate_dst (N := 25) rfl ?_); refine Kd.R_lit (Kd.int .u8) (wo.heap.size) 5 ?hg (N := 25) ?hd (xs := ([] : List (Int))) (inner := []) (ok := fun _ => True) (okp := fun _ => False) ?hr ?hp (fun _ hk => hk.elim) (trivial) (Below.refl _ _) (Nat.le_refl _) (by simp) ?_; (case hd => rfl); (case hg => rfl); (case hr => first | (go_simp; done) | (go_simp; rfl)); (case hp => exact (Reps.none _ _)); intro v3 w3 ho_ hb_ hg_ hnew_; clear hg_ hnew_; have HO3 := Aside0.mk ho_; have HB3 := Aside0.mk hb_; clear ho_ hb_); have hx3 : w3.cell? (ad.add k) = some (.slice A1 m1 c1) := pw_cell_below HB3.out hx2) | ((with_reducible refine gate_builtin (b := .append) (xs := #[.tmp 25, .tmp 29]) rfl ?_); at_builtin; refine Kd.R_append_row (Value.int .u8) (0 : Int) (w0 := wo) (wo.heap.size) rfl (.tmp 25) (.tmp 29) 32 5 (.int .u8 0) 1 rfl Try.underlying32 info5 rfl (by decide) (v3) (([] : List Int)) (l) (A1) (m1) (c1) (fun _ => True) rfl rfl (fun _ _ => trivial) (HO3.out) (Kd.C_below HC1.out (HB.out.trans (HB3.out.mono HB.out.size))) (HB3.out) (HB3.out.size) (by simp; omega) ?_; intro v4 w4 ho_ hb_ hg_ hat_; rw [List.nil_append] at ho_; obtain ⟨A4, c4, rfl⟩ := Kd.R_slice ho_; rw [← Hm1.out] at ho_ ⊢;clear hg_ hat_; have HO4 := Aside0.mk ho_; have HB4 := Aside0.mk hb_; clear ho_ hb_))
        have HB4a := Aside0.mk (HB.out.trans (HB4.out.mono HB.out.size))
        have HRa := Aside0.mk (HI.out.1.below HB4.out)
        have HRb := Aside0.mk (HI.out.2.1.below HB4.out)
        have Hown := Aside0.mk HO4.out
        obtain ⟨go, hgo⟩ : ∃ go, (0 < m1 → A4 = some ⟨go, 0, none⟩ ∧ wo.heap.size ≤ go ∧ Bk w4 go m1) ∧ wo.heap.size ≤ go ∧ go < w4.heap.size + 1 := by
          rcases Nat.eq_zero_or_pos m1 with h0 | h0
          · exact ⟨wo.heap.size, fun h => by omega, Nat.le_refl _, by have := HB4.out.size; omega⟩
          · obtain ⟨g0, c0, hv, h1, _, h2⟩ := Bk.of_R HO4.out (by rw [← Hm1.out]; exact h0)
            injection hv with hv1
            rw [← Hm1.out] at h2
            obtain ⟨cells, hcb, _⟩ := id h2
            exact ⟨g0, fun _ => ⟨hv1, h1, h2⟩, h1, by have := blk_lt hcb; omega⟩
        have Hgo := Aside0.mk hgo
        clear hgo HB3 hx3 HO3
        have HC4 := Aside0.mk (R_C HO4.out)
        refine (feed_st _ HRa.out HI.out.2.2.2.1 HC4.out HI.out.2.2.2.2.1 Hyb.out HI.out.2.2.2.2.2 (by rw [← Hm1.out]; omega) HF.out).mono ?_
        rintro e w5 ⟨A5, c5, va5, rfl, hr5, ho5, hm5, hb5, hk5⟩
        obtain ⟨er, her⟩ : ∃ er : Int, er = (if d2 = true then 6 else 0) := ⟨_, rfl⟩
        have Her := Aside0.mk her
        rw [← her]
        clear her
        have HR5 := Aside0.mk hr5
        have HO5 := Aside0.mk ho5
        have HM5 := Aside0.mk hm5
        have HB5 := Aside0.mk (HB4a.out.trans hb5)
        have HK5 := Aside0.mk hk5
        have HRb5 := Aside0.mk (HRb.out.kept hk5 (fun j h1 h2 => HI.out.2.2.1 j h2 h1))
        clear hr5 ho5 hm5 hb5 hk5
        go_wp2_with fail
        have Hbk5 : Aside0 (0 < m1 → Bk w5 go m1) := ⟨fun h0 => by
          obtain ⟨h1, h2, h3⟩ := Hgo.out.1 h0
          obtain ⟨cells, hcb, _⟩ := id h3
          refine h3.step (HK5.out.2 go (blk_lt hcb) fun hf => ?_)
          have := HI.out.1.lt_all go hf
          omega⟩
        go_loopg [9] m1 (fun gk iv wr => ∃ k2 : Nat, k2 + gk = m1 ∧ iv = .int .i64 k2 ∧ Aside0 (0 < m1 → Bk wr go m1) ∧ Aside0 (Kept w5 wr (fun j => 0 < m1 ∧ j = go)) ∧ Aside0 (Below w.heap.size w wr))
        case atStart => exact ⟨0, by omega, rfl, Hbk5, ⟨Kept.refl _ _⟩, HB5⟩
        case round =>
          obtain ⟨k2, hk2, rfl, HBk, HKp, HBl⟩ := hrel
          by_cases hlt3 : k2 < m1
          · obtain ⟨gp, rfl⟩ : ∃ gp, gk = gp + 1 := ⟨gk - 1, by omega⟩
            have q1 : 0 ≤ (k2 : Int) := by omega
            have q2 : (k2 : Int) < m1 := by omega
            obtain ⟨rfl, hgo2, _⟩ := Hgo.out.1 (by omega)
            obtain ⟨x, hx, hfz⟩ := (HBk.out (by omega)).get hlt3
            go_wp2_with fail
            go_roundg gp
            case measure => omega
            case rel =>
              refine ⟨k2 + 1, by omega, by go_num, ⟨fun h0 => Bk.set (HBk.out h0) (HBk.out h0) _ _⟩, ⟨Kept.setCell HKp.out (.inl ⟨by omega, rfl⟩) _⟩, ⟨HBl.out.setCell (by have := HB.out.size; show w.heap.size ≤ go; omega) _⟩⟩
          · have hk2m : k2 = m1 := by omega
            have hgk0 : gk = 0 := by omega
            subst hk2m
            subst hgk0
            obtain ⟨w6, hw6⟩ : ∃ w6, w6 = wr := ⟨_, rfl⟩
            subst hw6
            have HR6 : Aside0 (Rd w6 w.heap.size ga va5 b2 d2) := ⟨HR5.out.kept HKp.out (fun j h1 h2 => by
              have h3 := Hgo.out.1 h2.1
              obtain ⟨cells, hcb, _⟩ := id h3.2.2
              have h4 := blk_lt hcb
              obtain ⟨_, h2⟩ := h2
              subst h2
              rcases h1 with h1 | h1
              · have := HI.out.1.lt
                omega
              · rcases HM5.out j h1 with h5 | h5
                · have := HI.out.1.lt_all j (.inr h5)
                  omega
                · omega)⟩
            have HRb6 : Aside0 (Rd w6 w.heap.size gb vb bs d) := ⟨HRb5.out.kept HKp.out (fun j h1 h2 => by
              have := HI.out.2.1.lt_all j h1
              have := Hgo.out.2.1
              omega)⟩
            have HO6 : Aside0 ((Kd.slice 5 (Kd.int .u8)).R 32 w6 w4.heap.size (fun j => ¬ Fv ga va5 j ∧ w4.heap.size ≤ j ∧ j < w5.heap.size) (.slice A5 F.length c5) F) := ⟨Kd.R_mono (Kd.R_kept (Kd.R_bound HO5.out) HKp.out (fun j hj h2 => by
              have h3 := Hgo.out.1 h2.1
              obtain ⟨cells, hcb, _⟩ := id h3.2.2
              have h4 := blk_lt hcb
              have := hj.2.1
              omega)) (fun j hj => ⟨hj.1, hj.2.1, hj.2.2.1⟩)⟩
            have Hs56 := Aside0.mk HKp.out.1
            have HB6 := Aside0.mk HBl.out
            have hx6 : w6.cell? (ad.add k) = some (.slice A1 k2 c1) := pw_cell_below HBl.out Hx1.out
            clear HBl HBk HKp Hbk5 HO5 HRb5 HR5
            go_wp2_with fail
            refine (feed_st _ HRb6.out HI.out.2.2.2.1 (Kd.C_below HC1.out HB6.out) HI.out.2.2.2.2.1 Hyb.out HI.out.2.2.2.2.2 (by rw [← Hm1.out]; omega) HF.out).mono ?_
            rintro e w7 ⟨A7, c7, vb7, rfl, hr7, ho7, hm7, hb7, hk7⟩
            rw [← Her.out]
            have HRb7 := Aside0.mk hr7
            have HRa7 : Aside0 (Rd w7 w.heap.size ga va5 b2 d2) := ⟨HR6.out.kept hk7 (fun j h1 h2 => by
              rcases h1 with h1 | h1
              · exact HI.out.2.2.1 ga (.inl rfl) (h1 ▸ h2)
              · rcases HM5.out j h1 with h5 | h5
                · exact HI.out.2.2.1 j (.inr h5) h2
                · have := HI.out.2.1.lt_all j h2
                  have := HB4.out.size
                  omega)⟩
            have hvb : ∀ j, Fv gb vb7 j → j < wo.heap.size ∨ w6.heap.size ≤ j := fun j hj => by
              rcases hj with h1 | h1
              · exact .inl (by have := HI.out.2.1.lt; omega)
              · rcases hm7 j h1 with h5 | h5
                · exact .inl (HI.out.2.1.lt_all j (.inr h5))
                · exact .inr h5
            have Hdis : Aside0 (∀ j, Fv ga va5 j → ¬ Fv gb vb7 j) := ⟨fun j h1 h2 => by
              have h0 := HR6.out.lt_all j h1
              rcases h2 with h2 | h2
              · rcases h1 with h1 | h1
                · exact HI.out.2.2.1 ga (.inl rfl) (.inl (by omega))
                · rcases HM5.out j h1 with h5 | h5
                  · exact HI.out.2.2.1 j (.inr h5) (.inl h2)
                  · have := HI.out.2.1.lt
                    have := HB4.out.size
                    omega
              · rcases hm7 j h2 with h3 | h3
                · rcases h1 with h1 | h1
                  · exact HI.out.2.2.1 ga (.inl rfl) (.inr (h1 ▸ h3))
                  · rcases HM5.out j h1 with h5 | h5
                    · exact HI.out.2.2.1 j (.inr h5) (.inr h3)
                    · have := HI.out.2.1.lt_all j (.inr h3)
                      have := HB4.out.size
                      omega
                · omega⟩
            have HO7 : Aside0 ((Kd.slice 5 (Kd.int .u8)).R 32 w7 w4.heap.size (fun j => ¬ Fv ga va5 j ∧ ¬ Fv gb vb7 j) (.slice A5 F.length c5) F) := ⟨Kd.R_mono (Kd.R_kept HO6.out hk7 (fun j hj h2 => by
              have := HI.out.2.1.lt_all j h2
              have := HB4.out.size
              omega)) (fun j hj => ⟨hj.1, fun h2 => by
                have := HB4.out.size
                have := Hs56.out
                rcases hvb j h2 with h3 | h3
                · omega
                · omega⟩)⟩
            have HB7 := Aside0.mk (HB6.out.trans hb7)
            have HC7 := Aside0.mk (R_C ho7)
            have HC5 := Aside0.mk (R_C HO7.out)
            clear hr7 ho7 hm7 hb7 hk7 hvb HO6 HR6 HRb6 HRa HRb HB6
            go_wp2_with fail
            refine (same_true _ HC5.out HC7.out (by have := Hfa.out.2.2.2.1; have := HI.out.2.2.2.2.2; omega)).mono ?_
            rintro e w' ⟨rfl, m6, rfl⟩
            obtain ⟨Aa, ca, rfl⟩ := HRa7.out.slice
            obtain ⟨Ab, cb, rfl⟩ := HRb7.out.slice
            obtain ⟨n2, hn2⟩ : ∃ n2, n2 = b2.length := ⟨_, rfl⟩
            have hn25 : n2 ≤ 1025 := by rw [hn2]; exact Hfa.out.2.2.1
            rw [← hn2] at HRa7 HRb7 Hdis HO7
            have hca : (w7.drewN m6).cell? ⟨ga, 0, none⟩ = some (.slice Aa n2 ca) := (blk_cell HRa7.out.1 0).trans rfl
            have hcb : (w7.drewN m6).cell? ⟨gb, 0, none⟩ = some (.slice Ab n2 cb) := (blk_cell HRb7.out.1 0).trans rfl
            go_wp2_with fail
            refine (held_some ga Aa n2 ca _ hca).mono ?_
            rintro e w' ⟨rfl, rfl⟩
            go_wp2_with fail
            refine (held_some gb Ab n2 cb _ hcb).mono ?_
            rintro e w' ⟨rfl, rfl⟩
            go_wp2_with fail
            refine (held_some ga Aa n2 ca _ hca).mono ?_
            rintro e w' ⟨rfl, rfl⟩
            have hgd : decide ((1025 : Int) < (n2 : Int)) = false := by simp; omega
            go_wp2_with fail
            obtain ⟨nF, hnF⟩ : ∃ nF, nF = F.length := ⟨_, rfl⟩
            have hnF2 : nF ≤ 3000 := by rw [hnF]; have := Hfa.out.2.2.2.1; have := HI.out.2.2.2.2.2; omega
            have HS8 : Aside0 (Sc (w7.drewN m6) (fun j => (¬ Fv ga (.slice Aa n2 ca) j ∧ ¬ Fv gb (.slice Ab n2 cb) j) ∧ w4.heap.size ≤ j) A5 nF) := ⟨Sc.drewN (Sc.of_R (by rw [hnF]; exact HO7.out) hnF (fun l hl => by have := Hfa.out.2.2.2.2 l hl; omega)) m6⟩
            rw [← hnF]
            have HB8 : Aside0 (Below w.heap.size w (w7.drewN m6)) := ⟨pw_below_drewN HB7.out m6⟩
            have HRa8 : Aside0 (Rd (w7.drewN m6) w.heap.size ga (.slice Aa n2 ca) b2 d2) := ⟨HRa7.out.move (fun _ _ => rfl)⟩
            have HRb8 : Aside0 (Rd (w7.drewN m6) w.heap.size gb (.slice Ab n2 cb) b2 d2) := ⟨HRb7.out.move (fun _ _ => rfl)⟩
            have Hs4 : Aside0 (w.heap.size ≤ w4.heap.size) := ⟨HB4a.out.size⟩
            have Hfa2 : Aside0 ((d2 = true → b2 = []) ∧ Byt b2 ∧ b2.length ≤ 1025) := ⟨Hfa.out.1, Hfa.out.2.1, Hfa.out.2.2.1⟩
            obtain ⟨w8, hw8⟩ : ∃ w8, w8 = w7.drewN m6 := ⟨_, rfl⟩
            rw [← hw8] at HS8 HB8 HRa8 HRb8
            have Hw8 := Aside0.mk hw8
            clear hw8 hnF hca hcb hgd HRa7 HRb7 HO7 HC5 HC7 Hs56 HM5 HK5 HB5 HB7 HO4 Hown Hgo HC4 hx6 hx2 HC1 Hx1 HB4 HB4a HI HB HF Hfa Her
            go_loopg [12] nF (fun gk iv wr => ∃ k3 : Nat, k3 + gk = nF ∧ iv = .int .i64 k3 ∧ Aside0 (Sc wr (fun j => (¬ Fv ga (.slice Aa n2 ca) j ∧ ¬ Fv gb (.slice Ab n2 cb) j) ∧ w4.heap.size ≤ j) A5 nF) ∧
              Aside0 (Kept w8 wr (fun j => (¬ Fv ga (.slice Aa n2 ca) j ∧ ¬ Fv gb (.slice Ab n2 cb) j) ∧ w4.heap.size ≤ j)) ∧ Aside0 (Below w.heap.size w wr))
            case atStart => exact ⟨0, by omega, rfl, by rw [← Hw8.out]; exact HS8, ⟨by rw [← Hw8.out]; exact Kept.refl _ _⟩, by rw [← Hw8.out]; exact HB8⟩
            case round =>
              obtain ⟨k3, hk3, rfl, HS, HKp, HBl⟩ := hrel
              by_cases hlt3 : k3 < nF
              · obtain ⟨gp, rfl⟩ : ∃ gp, gk = gp + 1 := ⟨gk - 1, by omega⟩
                obtain ⟨w9, hw9⟩ : ∃ w9, w9 = wr := ⟨_, rfl⟩
                subst hw9
                have q1 : 0 ≤ (k3 : Int) := by omega
                have q2 : (k3 : Int) < nF := by omega
                obtain ⟨gf, Aj, lj, cj, rfl, ⟨cs, hfb, hfc⟩, hlj, hljm, hgj⟩ := HS.out k3 hlt3
                have Hfb := Aside0.mk hfb
                have Hfc := Aside0.mk hfc
                have Hgj : Aside0 (0 < lj → ∃ gj, Aj = some ⟨gj, 0, none⟩ ∧ ((¬ Fv ga (.slice Aa n2 ca) gj ∧ ¬ Fv gb (.slice Ab n2 cb) gj) ∧ w4.heap.size ≤ gj) ∧ Bk w9 gj lj) := ⟨hgj⟩
                clear hfb hfc hgj
                have hgjs : ∃ gj, 0 < lj → Aj = some ⟨gj, 0, none⟩ ∧ ((¬ Fv ga (.slice Aa n2 ca) gj ∧ ¬ Fv gb (.slice Ab n2 cb) gj) ∧ w4.heap.size ≤ gj) ∧ Bk w9 gj lj := by
                  rcases Nat.eq_zero_or_pos lj with h0 | h0
                  · exact ⟨0, fun h => by omega⟩
                  · obtain ⟨gj, h⟩ := Hgj.out h0
                    exact ⟨gj, fun _ => h⟩
                obtain ⟨gj, hgj⟩ := hgjs
                have HGJ := Aside0.mk hgj
                clear hgj Hgj
                go_wp2_with fail
                go_loopg [13] lj (fun gk iv wr => ∃ k4 : Nat, k4 + gk = lj ∧ iv = .int .i64 k4 ∧ Aside0 (Sc wr (fun j => (¬ Fv ga (.slice Aa n2 ca) j ∧ ¬ Fv gb (.slice Ab n2 cb) j) ∧ w4.heap.size ≤ j) (some ⟨gf, 0, none⟩) nF) ∧
                  Aside0 (wr.heap[gf]? = some (.cells cs 32 (0, 0))) ∧ Aside0 (0 < lj → Bk wr gj lj) ∧
                  Aside0 (Kept w8 wr (fun j => (¬ Fv ga (.slice Aa n2 ca) j ∧ ¬ Fv gb (.slice Ab n2 cb) j) ∧ w4.heap.size ≤ j)) ∧ Aside0 (Below w.heap.size w wr))
                case atStart => exact ⟨0, by omega, rfl, HS, Hfb, ⟨fun h => (HGJ.out h).2.2⟩, HKp, HBl⟩
                case round =>
                  clear HS HKp HBl
                  obtain ⟨k4, hk4, rfl, HS, HF4, HG4, HKp, HBl⟩ := hrel
                  have hx4 : wr.cell? ⟨gf, k3, none⟩ = some (.slice Aj lj cj) := (blk_cell HF4.out k3).trans Hfc.out
                  by_cases hlt4 : k4 < lj
                  · obtain ⟨gr, rfl⟩ : ∃ gr, gk = gr + 1 := ⟨gk - 1, by omega⟩
                    have s1 : 0 ≤ (k4 : Int) := by omega
                    have s2 : (k4 : Int) < lj := by omega
                    obtain ⟨rfl, hok4, _⟩ := HGJ.out (by omega)
                    have hbk4 := HG4.out (by omega)
                    obtain ⟨x, hx, hfz⟩ := hbk4.get hlt4
                    have Hbk4 := Aside0.mk hbk4
                    have Hok4 := Aside0.mk hok4
                    clear hbk4 hok4
                    go_wp2_with fail
                    go_roundg gr
                    case measure => omega
                    case rel =>
                      refine ⟨k4 + 1, by omega, by go_num, ⟨Sc.set HS.out Hbk4.out _ _⟩, ⟨?_⟩, ⟨fun _ => Bk.set Hbk4.out Hbk4.out _ _⟩, ⟨Kept.setCell HKp.out (.inl Hok4.out) _⟩, ⟨HBl.out.setCell (by have := Hs4.out; have := Hok4.out.2; show w.heap.size ≤ gj; omega) _⟩⟩
                      refine blk_far (p := ⟨gj, k4, none⟩) HF4.out ?_ _
                      rintro rfl
                      obtain ⟨c5, hb5, _⟩ := Hbk4.out
                      rw [HF4.out] at hb5
                      injection hb5 with hb5
                      injection hb5 with _ hb5
                      exact absurd hb5 (by decide)
                  · have hk4m : k4 = lj := by omega
                    subst hk4m
                    go_wp2_with fail
                    go_roundg gp
                    case measure => omega
                    case rel =>
                      exact ⟨k3 + 1, by omega, by go_num, HS, HKp, HBl⟩
              · go_wp2_with fail
                go_roundg gq
                case measure => omega
                case rel =>
                  refine ⟨k + 1, .slice Aa n2 ca, .slice Ab n2 cb, b2, d2, by omega, by go_num, ⟨?_, ?_, Hdis.out, Hfa2.out⟩, HBl⟩
                  · exact HRa8.out.kept HKp.out (fun j h1 h2 => h2.1.1 h1)
                  · exact HRb8.out.kept HKp.out (fun j h1 h2 => h2.1.2 h1)
      · go_wp2_with fail
        refine (awake_any _).mono ?_
        rintro e w9 ⟨rfl, hb9⟩
        have HB9 := Aside0.mk (below_step HB.out hb9)
        clear hb9
        go_wp2_with fail
        go_ret
        exact ⟨rfl, HB9.out⟩
end Go.Proofs.Ytgblihndkhiddaa.Fr
