/-
The law FrameFeeds: what any pieces of bytes come to, piece by piece.
-/
import Derived.Test.YtgblihndkhiddaaFh
import Derived.Test.YtgblihndkhiddaaFe
namespace Go.Proofs.Ytgblihndkhiddaa.Fr
set_option linter.unusedVariables false
set_option linter.unusedSimpArgs false
open Go.RowKit Go.Proofs.YtgblihndkhiddaaW.PrintWords Go.Proofs.YtgblihndkhiddaaW.PrintLast Go.Proofs.YtgblihndkhiddaaW.PrintMore Go.Proofs.Ytgblihndkhiddaa.PFrameFeeds

theorem shortL_le {ls : List (List Int)} (h : shortL ls = true) : ls.length ≤ 20 ∧ ∀ l ∈ ls, l.length ≤ 1200 := by
  simp only [shortL, Bool.and_eq_true, List.all_eq_true, decide_eq_true_eq] at h
  exact ⟨h.2, h.1⟩
theorem info32_some : ∃ i, Try.prog.info? 32 = some i ∧ i.size = 1 := by
  obtain ⟨i5, hi5, hz5⟩ := Option.map_eq_some_iff.1 info32
  simp only [Prod.mk.injEq] at hz5
  exact ⟨i5, hi5, hz5.2.1⟩
/-- A cut from j on, of frames that are read. -/
theorem cut_rows_from {w : World} {A : Option Addr} {xs : List (List Int)} {c : Nat} (h : (Kd.slice 5 (Kd.int .u8)).C w A xs.length xs) (hc : xs.length ≤ c) (j : Nat) (hj : j ≤ xs.length) :
    ∃ A', (∀ W : World, (Instr.slice 29 (.slice A xs.length c) (some (.int .i64 j)) none none).run Try.prog W = .ok (.slice A' (xs.drop j).length (c - j)) W) ∧ (Kd.slice 5 (Kd.int .u8)).C w A' (xs.drop j).length (xs.drop j) := by
  obtain ⟨i5, hi5, hz5⟩ := info32_some
  refine ⟨_, fun W => ?_, Kd.C_drop h hj hc⟩
  have := cut_from 29 32 .i64 Try.underlying29 hi5 1 hz5 A xs.length c (j : Int) (by omega) (by omega) W
  rw [Int.toNat_natCast] at this
  rw [List.length_drop]
  exact this
theorem Byt.append {a b : List Int} (ha : Byt a) (hb : Byt b) : Byt (a ++ b) := fun x hx => (List.mem_append.1 hx).elim (ha x) (hb x)
theorem frames_byt (n : Nat) : ∀ b : List Int, b.length ≤ n → Byt b → Byt (frames b).2.1 := by
  induction n with
  | zero =>
    intro b hb h
    obtain rfl : b = [] := List.eq_nil_of_length_eq_zero (by omega)
    rw [frames_nil]
    exact h
  | succ n ih =>
    intro b hb h
    obtain ⟨⟨m, q⟩, hs⟩ : ∃ p, sz b = p := ⟨_, rfl⟩
    cases q with
    | false => rw [frames_short hs]; exact h
    | true =>
      by_cases hm : 1 ≤ m ∧ m ≤ 1024
      · by_cases hw : (b.length : Int) < 2 + m
        · rw [frames_wait hs hm hw]; exact h
        · have h2 := sz_long hs
          rw [frames_one hs hm hw]
          exact ih _ (by rw [List.length_drop, List.length_drop]; omega) ((h.drop 2).drop _)
      · rw [frames_wrong hs hm]
        intro x hx
        cases hx
theorem frames_few (n : Nat) : ∀ b : List Int, b.length ≤ n → (frames b).1.length ≤ b.length := by
  induction n with
  | zero =>
    intro b hb
    obtain rfl : b = [] := List.eq_nil_of_length_eq_zero (by omega)
    rw [frames_nil]
    simp
  | succ n ih =>
    intro b hb
    obtain ⟨⟨m, q⟩, hs⟩ : ∃ p, sz b = p := ⟨_, rfl⟩
    cases q with
    | false => rw [frames_short hs]; simp
    | true =>
      by_cases hm : 1 ≤ m ∧ m ≤ 1024
      · by_cases hw : (b.length : Int) < 2 + m
        · rw [frames_wait hs hm hw]; simp
        · have h2 := sz_long hs
          rw [frames_one hs hm hw]
          have := ih ((b.drop 2).drop m.toNat) (by rw [List.length_drop, List.length_drop]; omega)
          rw [List.length_drop, List.length_drop] at this
          simp only [List.length_cons]
          omega
      · rw [frames_wrong hs hm]; simp

set_option maxRecDepth 100000 in
set_option maxHeartbeats 1500000 in
theorem feeds_law {n c : Nat} {A : Option Addr} {ls : List (List Int)} (w : World) (HR : (Kd.slice 5 (Kd.int .u8)).C w A n ls) (hc : n ≤ c) (hby : ∀ l ∈ ls, Byt l) :
    Calls Try.prog 6 #[.slice A n c] w fun e w' => e = .returned (.bool true) ∧ Below w.heap.size w w' := by
  obtain rfl := HR.1
  have H := Aside0.mk HR
  have Hby := Aside0.mk hby
  clear HR hby
  obtain ⟨s, hs⟩ : ∃ s, s = shortL ls := ⟨_, rfl⟩
  have Hs := Aside0.mk hs
  clear hs
  cases s with
  | false =>
    go_enter Try.func6, Try.ntmps6
    go_wp2_with fail
    refine (short_any _ H.out hc).mono ?_
    rintro e w' ⟨rfl, m, rfl⟩
    rw [← Hs.out]
    go_wp2_with fail
    go_ret
    exact ⟨rfl, pw_below_drewN (Below.refl _ _) m⟩
  | true =>
    have hsl := Aside0.mk (shortL_le Hs.out.symm)
    go_enter Try.func6, Try.ntmps6
    go_wp2_with fail
    refine (short_any _ H.out hc).mono ?_
    rintro e w1 ⟨rfl, m, rfl⟩
    rw [← Hs.out]
    obtain ⟨w1, hw1⟩ : ∃ w1, w1 = w.drewN m := ⟨_, rfl⟩
    have HB1 : Aside0 (Below w.heap.size w w1) := ⟨by rw [hw1]; exact pw_below_drewN (Below.refl _ _) m⟩
    rw [← hw1]
    clear hw1
    go_wp2_with fail
    refine (new_any _).mono ?_
    rintro e w2 ⟨rfl, hw2⟩
    obtain ⟨g, hg⟩ : ∃ g, g = w1.heap.size := ⟨_, rfl⟩
    have HR2 : Aside0 (Rd w2 w.heap.size g (.slice none 0 0) [] false) := ⟨by rw [← hw2, hg]; exact Rd.new w1 _ HB1.out.size⟩
    have HB2 : Aside0 (Below w.heap.size w w2) := ⟨by rw [← hw2]; exact below_alloc HB1.out _⟩
    rw [← hg]
    clear hw2 hg HB1
    go_wp2_with fail
    refine (dead_some g false _ ((blk_cell HR2.out.1 1).trans rfl)).mono ?_
    rintro e w' ⟨rfl, rfl⟩
    go_wp2_with fail
    go_loopg [4, 5, 6, 7] ls.length (fun gk va hv dv iv wr => ∃ (k : Nat) (all : List Int) (vr : Value) (d : Bool) (had : Nat), k + gk = ls.length ∧ hv = .int .i64 had ∧ dv = .bool d ∧ iv = .int .i64 k ∧
      Aside0 ((Kd.int .u8).R 5 wr w.heap.size (fun k => ¬ Fv g vr k) va all) ∧ Aside0 (Rd wr w.heap.size g vr (if d = true then [] else (frames all).2.1) d) ∧ Aside0 (Below w.heap.size w wr) ∧
      Aside0 ((d = false → (frames all).2.2 = false ∧ had = (frames all).1.length) ∧ Byt all ∧ all.length ≤ k * 1200))
    case atStart =>
      exact ⟨0, [], .slice none 0 0, false, 0, by omega, rfl, rfl, rfl, ⟨Kd.R_nil _ _ _ _ _⟩, ⟨by rw [frames_nil]; exact HR2.out⟩, HB2, ⟨(fun _ => ⟨by rw [frames_nil], by rw [frames_nil]; rfl⟩), (fun x hx => by cases hx), by simp⟩⟩
    case round =>
      obtain ⟨k, all, vr, d, had, hk, rfl, rfl, rfl, HO, HRr, HB, HQ⟩ := hrel
      clear HR2 HB2
      by_cases hlt : k < ls.length
      · obtain ⟨g1, rfl⟩ : ∃ g1, gk = g1 + 1 := ⟨gk - 1, by omega⟩
        have p1 : 0 ≤ (k : Int) := by omega
        have p2 : (k : Int) < ls.length := by omega
        obtain ⟨ad, A1, c1, rfl, hx1, hl1, hC1⟩ := at_L1 H.out (k : Int) (by omega) (by omega)
        have hll : rd_L1 ls (k : Int) = ls[k] := rd_L1_nat ls k hlt
        rw [hll] at hx1 hl1 hC1
        rw [Int.toNat_natCast] at hx1
        have hyb := Hby.out ls[k] (List.getElem_mem _)
        have hyl := hsl.out.2 ls[k] (List.getElem_mem _)
        obtain ⟨l, hl⟩ : ∃ l, l = ls[k] := ⟨_, rfl⟩
        rw [← hl] at hx1 hl1 hC1 hyb hyl
        have HX := Aside0.mk hx1
        have HC1 := Aside0.mk hC1
        have Hyb := Aside0.mk hyb
        have hx2 : wr.cell? (ad.add k) = some (.slice A1 l.length c1) := pw_cell_below HB.out hx1
        have hn20 : ls.length ≤ 20 := hsl.out.1
        clear hx1 hC1 hl hll hyb
        obtain ⟨m1, hm1⟩ : ∃ m1, m1 = l.length := ⟨_, rfl⟩
        rw [← hm1] at hx2 hl1 hyl
        have Hm1 := Aside0.mk hm1
        rw [← hm1] at HX
        clear hm1
        cases d with
        | true =>
          have hbR := HRr.out
          rw [if_pos rfl] at hbR
          obtain ⟨Ar, cr, evr⟩ := hbR.slice
          subst evr
          have HR2 := Aside0.mk hbR
          have hcr0 : wr.cell? ⟨g, 0, none⟩ = some (.slice Ar 0 cr) := (blk_cell hbR.1 0).trans rfl
          have hcr1 : wr.cell? ⟨g, 1, none⟩ = some (.bool true) := (blk_cell hbR.1 1).trans rfl
          clear hbR
          go_wp2_with fail
          refine (feed_dead _ HR2.out).mono ?_
          rintro e w' ⟨rfl, rfl⟩
          go_wp2_with fail
          refine (dead_some g true _ hcr1).mono ?_
          rintro e w' ⟨rfl, rfl⟩
          go_wp2_with fail
          refine (held_some g _ _ _ _ hcr0).mono ?_
          rintro e w' ⟨rfl, rfl⟩
          go_wp2_with fail
          go_roundg g1
          case measure => omega
          case rel => exact ⟨k + 1, all, _, true, had, by omega, rfl, rfl, by go_num, HO, HRr, HB, ⟨(fun h => by cases h), HQ.out.2.1, by have := HQ.out.2.2; omega⟩⟩
        | false =>
          have hbR := HRr.out
          rw [if_neg (by simp)] at hbR
          have HR2 := Aside0.mk hbR
          clear hbR
          obtain ⟨⟨F, R2, q⟩, hX⟩ : ∃ p, frames ((frames all).2.1 ++ l) = p := ⟨_, rfl⟩
          have hq := HQ.out
          obtain ⟨hq1, hq2⟩ := hq.1 rfl
          have hall := (frames_append all.length all l (Nat.le_refl _)).1 hq1
          rw [hX] at hall
          have hrl := frames_rest _ all (Nat.le_refl _)
          have hrb := frames_byt _ all (Nat.le_refl _) hq.2.1
          have hdr : q = true → R2 = [] := fun h => by
            have := frames_dead _ ((frames all).2.1 ++ l) (Nat.le_refl _) (by rw [hX]; exact h)
            rw [hX] at this
            exact this
          have hfew := frames_few _ (all ++ l) (Nat.le_refl _)
          rw [hall] at hfew
          have hrl2 : R2.length ≤ 1025 := by
            have := frames_rest _ ((frames all).2.1 ++ l) (Nat.le_refl _)
            rw [hX] at this
            exact this
          have Hq2 := Aside0.mk hq2
          have Hall := Aside0.mk hall
          have Hdr := Aside0.mk hdr
          have HX2 := Aside0.mk hX
          have Hrl := Aside0.mk hrl
          have Hrb := Aside0.mk hrb
          have Hfew := Aside0.mk hfew
          have hal : all.length ≤ k * 1200 := hq.2.2
          clear hq hq1 hq2 hall hX hrl hrb hdr hfew
          go_wp2_with fail
          refine (feed_any _ HR2.out (by rw [Hm1.out]; exact Kd.C_below HC1.out HB.out) (Byt.append Hrb.out Hyb.out) (by have := Hrl.out; rw [← Hm1.out]; omega)).mono ?_
          rintro e w3 ⟨vo, v', rfl, hr3, ho3, hm3, hb3, hk3⟩
          rw [HX2.out] at hr3 ho3
          rw [HX2.out]
          obtain ⟨er, her⟩ : ∃ er : Int, er = (if q = true then 6 else 0) := ⟨_, rfl⟩
          rw [← her]
          have Her := Aside0.mk her
          clear her
          have HB3 := Aside0.mk (HB.out.trans hb3)
          have hsr := hk3.1
          have HO3 : Aside0 ((Kd.int .u8).R 5 w3 w.heap.size (fun k => ¬ Fv g v' k ∧ k < wr.heap.size) u4 all) := ⟨Kd.R_mono (Kd.R_kept (Kd.R_bound HO.out) hk3 (fun k hk => hk.1)) (fun k hk => ⟨fun hf => by
            rcases hf with rfl | hf
            · exact hk.1 (.inl rfl)
            · rcases hm3 k hf with h5 | h5
              · exact hk.1 (.inr h5)
              · have := hk.2.2.1; omega, hk.2.2.1⟩)⟩
          have HR3 := Aside0.mk hr3
          have HVO := Aside0.mk (Kd.R_bound ho3)
          obtain ⟨Ao, co, rfl⟩ := Kd.R_slice ho3
          have HC3 : Aside0 ((Kd.int .u8).C w3 A1 m1 l) := ⟨by rw [Hm1.out]; exact Kd.C_below HC1.out HB3.out⟩
          have hx3 : w3.cell? (ad.add k) = some (.slice A1 m1 c1) := pw_cell_below HB3.out HX.out
          have Hfr : Aside0 (∀ k, w3.heap.size ≤ k → ¬ Fv g v' k) := ⟨fun k hk hf => by have := HR3.out.lt_all k hf; omega⟩
          have Hlim : Aside0 ((all.length + m1) * 1 ≤ 140737488355328) := ⟨by omega⟩
          clear hr3 ho3 hm3 hb3 hk3 hx2 HO HR2 HRr HX2
          go_wp2_with (first | ((with_reducible refine gate_builtin (b := .append) (xs := #[.tmp 59, .tmp 63]) rfl ?_); at_builtin; refine Kd.R_append_row (Value.int .u8) (0 : Int) (w0 := w) (w.heap.size) rfl (.tmp 59) (.tmp 63) 32 5 (.int .u8 0) 1 rfl Try.underlying32 info5 rfl (by decide) (u4) (all) (l) (A1) (m1) (c1) (fun k => ¬ Fv g v' k) rfl rfl (Hfr.out) (Kd.R_mono HO3.out (fun k hk => hk.1)) (HC3.out) (HB3.out) (HB3.out.size) Hlim.out ?_; intro v4 w4 ho_ hb_ hg_ hat_; have HG4 := Aside0.mk hg_; clear hg_ hat_; have HO4 := Aside0.mk ho_; have HB4 := Aside0.mk hb_; clear ho_ hb_))
          have hal4 : (all ++ l).length = all.length + m1 := by rw [List.length_append, Hm1.out]
          obtain ⟨A4, c4, rfl, hl4, hC4⟩ := Kd.R_reads HO4.out
          have HC4 := Aside0.mk hC4
          have Hl4 := Aside0.mk hl4
          have Hal4 := Aside0.mk hal4
          have HR4 : Aside0 (Rd w4 w.heap.size g v' R2 q) := ⟨HR3.out.move fun k hk => HG4.out.block k (HR3.out.lt_all k hk) fun e => (HO3.out.1 k e.symm).1 hk⟩
          have HV4 : Aside0 ((Kd.slice 5 (Kd.int .u8)).R 32 w4 wr.heap.size (fun k => ¬ Fv g v' k) (.slice Ao F.length co) F) := ⟨Kd.R_mono (Kd.R_grown HVO.out HG4.out (fun k hk e => by have := (HO3.out.1 k e.symm).2; have := hk.2.1; omega)) (fun k hk => hk.1)⟩
          clear hl4 hC4 hal4 HVO HR3 HC3 hx3 Hfr HO3 HG4
          go_wp2_with fail
          refine (frames_any _ HC4.out Hl4.out (Byt.append HQ.out.2.1 Hyb.out) (by rw [Hal4.out]; omega)).mono ?_
          rintro e w5 ⟨A5, c5, rfl, hC5, hl5, hb5⟩
          rw [Hall.out] at hC5 hl5
          rw [Hall.out]
          have HB5 := Aside0.mk (below_step HB4.out hb5)
          have hhad : had ≤ ((frames all).1 ++ F).length := by rw [Hq2.out, List.length_append]; omega
          obtain ⟨A6, hcut, hC6⟩ := cut_rows_from hC5 hl5 had hhad
          have hdF : ((frames all).1 ++ F).drop had = F := by rw [Hq2.out, List.drop_left]
          rw [hdF] at hcut hC6
          have hnW : ((frames all).1 ++ F).length = had + F.length := by rw [List.length_append, Hq2.out]
          obtain ⟨nW, hW⟩ : ∃ nW, nW = ((frames all).1 ++ F).length := ⟨_, rfl⟩
          rw [← hW] at hcut hhad hnW ⊢
          have HW := Aside0.mk hW
          clear hnW
          have HC6 := Aside0.mk hC6
          obtain ⟨Ao', co', eo, hlo, hCo⟩ := Kd.R_reads (Kd.R_below HV4.out hb5)
          cases eo
          have HCo := Aside0.mk hCo
          have HR5 := Aside0.mk (HR4.out.below hb5)
          have HO5 := Aside0.mk (Kd.R_below HO4.out hb5)
          have Hfl : Aside0 (F.length ≤ 1000000000000) := ⟨by have := Hfew.out; rw [List.length_append, Hal4.out] at this; omega⟩
          clear hC5 hl5 hb5 hC6 hdF hW hCo hlo HV4 HR4 HO4 HC4 Hl4
          go_wp2_with fail
          refine (same_true _ HCo.out HC6.out Hfl.out).mono ?_
          rintro e w' ⟨rfl, nd, rfl⟩
          obtain ⟨w6, hw6⟩ : ∃ w6, w6 = w5.drewN nd := ⟨_, rfl⟩
          have hb6 : Below w5.heap.size w5 w6 := by rw [hw6]; exact pw_below_drewN (Below.refl _ _) nd
          have HB6 := Aside0.mk (below_step HB5.out hb6)
          have HR6 := Aside0.mk (HR5.out.below hb6)
          have HO6 := Aside0.mk (Kd.R_below HO5.out hb6)
          rw [← hw6]
          clear hw6 hb6 HR5 HO5 HB5 hcut HCo HC6
          obtain ⟨Av, cv, rfl⟩ := HR6.out.slice
          have hcr0 : w6.cell? ⟨g, 0, none⟩ = some (.slice Av R2.length cv) := (blk_cell HR6.out.1 0).trans rfl
          have hcr1 : w6.cell? ⟨g, 1, none⟩ = some (.bool q) := (blk_cell HR6.out.1 1).trans rfl
          go_wp2_with fail
          refine (held_some g _ _ _ _ hcr0).mono ?_
          rintro e w' ⟨rfl, rfl⟩
          go_wp2_with fail
          refine (dead_some g q _ hcr1).mono ?_
          rintro e w' ⟨rfl, rfl⟩
          cases q with
          | true =>
            have hR2 : R2 = [] := Hdr.out rfl
            obtain rfl : er = 6 := by rw [Her.out]; rfl
            have HR2' := Aside0.mk hR2
            clear hR2
            go_wp2_with fail
            go_roundg g1
            case measure => omega
            case rel =>
              refine ⟨k + 1, all ++ l, _, true, nW, by omega, rfl, rfl, by go_num, ?_, ⟨by rw [if_pos rfl, ← HR2'.out]; exact HR6.out⟩, HB6, ⟨(fun h => by cases h), Byt.append HQ.out.2.1 Hyb.out, by rw [Hal4.out]; omega⟩⟩
              have h := HO6.out
              rw [List.length_append] at h
              exact ⟨h⟩
          | false =>
            obtain rfl : er = 0 := by rw [Her.out]; rfl
            go_wp2_with fail
            go_roundg g1
            case measure => omega
            case rel =>
              refine ⟨k + 1, all ++ l, _, false, nW, by omega, rfl, rfl, by go_num, ?_, ⟨by rw [if_neg (by simp), Hall.out]; exact HR6.out⟩, HB6, ⟨(fun h => by rw [Hall.out]; exact ⟨rfl, HW.out⟩), Byt.append HQ.out.2.1 Hyb.out, by rw [Hal4.out]; omega⟩⟩
              have h := HO6.out
              rw [List.length_append] at h
              exact ⟨h⟩
      · obtain ⟨Aa, ca, rfl⟩ := Kd.R_slice HO.out
        go_wp2_with fail
        refine (feed_nil _).mono ?_
        rintro e w' ⟨rfl, rfl⟩
        go_wp2_with fail
        refine (held_nil _).mono ?_
        rintro e w' ⟨rfl, rfl⟩
        go_wp2_with fail
        refine (dead_nil _).mono ?_
        rintro e w' ⟨rfl, rfl⟩
        go_wp2_with fail
        refine (awake_any _).mono ?_
        rintro e w7 ⟨rfl, hb7⟩
        have HB7 := Aside0.mk (below_step HB.out hb7)
        clear hb7
        go_wp2_with fail
        go_ret
        exact ⟨rfl, HB7.out⟩
end Go.Proofs.Ytgblihndkhiddaa.Fr
