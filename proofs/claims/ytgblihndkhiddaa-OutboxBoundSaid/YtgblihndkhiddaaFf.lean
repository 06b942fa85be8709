/-
The document's Wrap, and the law FrameWraps: any frames behind their lengths, or that one can't be.
-/
import Derived.Test.YtgblihndkhiddaaFe
import Derived.Deep.RegionHeld3
import Derived.IntWalk
namespace Go.Proofs.Ytgblihndkhiddaa.Fr
set_option linter.unusedVariables false
set_option linter.unusedSimpArgs false
open Go.RowKit Go.Proofs.YtgblihndkhiddaaW.PrintWords Go.Proofs.YtgblihndkhiddaaW.PrintLast Go.Proofs.YtgblihndkhiddaaW.PrintMore Go.Proofs.Ytgblihndkhiddaa.PFrameFeeds

theorem u8_small {n : Int} (h0 : 0 ≤ n) (h1 : n ≤ 255) : IntKind.u8.wrap n = n := by
  simp only [IntKind.wrap, IntKind.signed, IntKind.bits, Bool.false_and, Bool.false_eq_true, if_false]
  omega
theorem wrapOk_cons (l : List Int) (ls : List (List Int)) : wrapOk (l :: ls) = (decide (1 ≤ l.length ∧ l.length ≤ 1024) && wrapOk ls) := by simp only [wrapOk, List.all_cons]
set_option maxRecDepth 100000 in
set_option maxHeartbeats 3200000 in
theorem refwrap_any {n c : Nat} {A : Option Addr} {ls : List (List Int)} (w : World) (HR : (Kd.slice 5 (Kd.int .u8)).C w A n ls) (hc : n ≤ c) (hm : ls.length ≤ 1000000) :
    Calls Try.prog 28 #[.slice A n c] w fun e w' => ∃ v, e = .returned (.tuple #[v, .bool (wrapOk ls)]) ∧ (Kd.int .u8).R 5 w' w.heap.size (fun _ => True) v (if wrapOk ls = true then wrapL ls else []) ∧ Below w.heap.size w w' := by
  obtain rfl := HR.1
  have H := Aside0.mk HR
  clear HR
  obtain ⟨ok, hok⟩ : ∃ ok, ok = wrapOk ls := ⟨_, rfl⟩
  obtain ⟨L, hL⟩ : ∃ L, L = wrapL ls := ⟨_, rfl⟩
  rw [← hok, ← hL]
  have Hok := Aside0.mk hok
  have HL := Aside0.mk hL
  clear hok hL
  go_enter Try.func28, Try.ntmps28
  go_wp2
  go_loopg [4, 5] ls.length (fun gk o i wr => ∃ (k : Nat) (acc : List Int), k + gk = ls.length ∧ i = .int .i64 k ∧ Aside0 ((Kd.int .u8).R 5 wr w.heap.size (fun _ => True) o acc) ∧ Aside0 (Below w.heap.size w wr) ∧ Aside0 (wrapOk (ls.drop k) = ok ∧ acc ++ wrapL (ls.drop k) = L ∧ acc.length ≤ k * 1026))
  case atStart => exact ⟨0, [], by omega, rfl, ⟨Kd.R_nil _ _ _ _ _⟩, ⟨Below.refl _ _⟩, ⟨Hok.out.symm, HL.out.symm, by simp⟩⟩
  case round =>
    obtain ⟨k, acc, hk, rfl, HO, HB, HQ⟩ := hrel
    clear Hok HL
    by_cases hlt : k < ls.length
    · obtain ⟨g1, rfl⟩ : ∃ g1, gk = g1 + 1 := ⟨gk - 1, by omega⟩
      have p1 : 0 ≤ (k : Int) := by omega
      have p2 : (k : Int) < ls.length := by omega
      obtain ⟨ad, A1, c1, rfl, hx1, hl1, hC1⟩ := at_L1 H.out (k : Int) (by omega) (by omega)
      have hq := HQ.out
      rw [List.drop_eq_getElem_cons hlt, wrapOk_cons, wrapL_cons] at hq
      have hll : rd_L1 ls (k : Int) = ls[k] := rd_L1_nat ls k hlt
      rw [hll] at hx1 hl1 hC1
      rw [Int.toNat_natCast] at hx1
      obtain ⟨l, hl⟩ : ∃ l, l = ls[k] := ⟨_, rfl⟩
      rw [← hl] at hx1 hl1 hC1 hq
      have hx2 : wr.cell? (ad.add k) = some (.slice A1 l.length c1) := pw_cell_below HB.out hx1
      have HQ1 := Aside0.mk hq
      have HC1 := Aside0.mk hC1
      have HX1 := Aside0.mk hx1
      have hlc := World.block_lt_of_cell? _ _ hx1
      have HLn : Aside0 (acc.length ≤ k * 1026) := ⟨HQ.out.2.2⟩
      clear hq hll hl hC1 hx1 HQ
      obtain ⟨m, hm'⟩ : ∃ m, m = l.length := ⟨_, rfl⟩
      rw [← hm'] at hx2 hl1 HX1
      have Hm := Aside0.mk hm'
      by_cases hb : 1 ≤ m ∧ m ≤ 1024
      · obtain ⟨hb1, hb2⟩ := hb
        have d1 : decide ((m : Int) < 1) = false := by simp; omega
        have d2 : decide (1024 < (m : Int)) = false := by simp; omega
        clear hm'
        have Hlim : Aside0 ((acc.length + 2) * 1 ≤ 140737488355328) := ⟨by have := HLn.out; omega⟩
        go_wp2
        have e1 : IntKind.i64.wrap ((m : Int) / 256) = (m : Int) / 256 := IntWalk.i64_in _ (by omega)
        have e3 : (m : Int).tmod 256 = (m : Int) % 256 := Int.tmod_eq_emod_of_nonneg (by omega)
        have e2 : IntKind.u8.wrap ((m : Int) / 256) = (m : Int) / 256 := u8_small (by clear e1 e3; omega) (by clear e1 e3; omega)
        have e4 : IntKind.u8.wrap ((m : Int) % 256) = (m : Int) % 256 := u8_small (by clear e1 e2 e3; omega) (by clear e1 e2 e3; omega)
        go_region_held3 (fun w' => w'.cell? (ad.add k) = some (.slice A1 m c1)) (first | go_keep | (exact pw_cell_below HB1.out HX1.out)) ((refine Kd.R_append_rows_step (Kd.int .u8) (Rr := (Kd.int .u8).K w) (w0 := w) w.heap.size (by rfl) (.tmp 26) (.tmp 41) 32 5 (.int .u8 0) 1 (by rfl) Try.underlying32 info5 rfl (by decide) (by decide) u4 acc [(m : Int) / 256, (m : Int) % 256] (some ⟨wr.heap.size, 0, none⟩) 2 2 (fun _ => True) (fun _ => False) (by rfl) (by rfl) ?aO ?aR (fun _ _ h => h) (fun _ h => h.elim) (fun _ _ => trivial) ?aB ?aS Hlim.out ?_; (case aO => (with_reducible repeat (first | apply Kd.R_alloc | apply Kd.R_drewN | apply Kd.R_drew)); exact HO.out); (case aR => exact C_of_bytes (heap_alloc_new _ _) [(m : Int) / 256, (m : Int) % 256] (by simp) rfl); (case aB => (repeat (first | (with_reducible first | exact HB.out | apply below_alloc | apply pw_below_drewN | apply below_drew1) | exact HB.out))); (case aS => have := HB.out.size; simp; omega); intro v1 w1 ho hb hg hat; have HO1 := Aside0.mk ho; have HB1 := Aside0.mk hb; clear ho hb hat))
        clear e1 e2 e3 e4 hg
        have hx3 : w1.cell? (ad.add k) = some (.slice A1 m c1) := pw_cell_below HB1.out HX1.out
        have Hlim2 : Aside0 (((acc ++ [(m : Int) / 256, (m : Int) % 256]).length + m) * 1 ≤ 140737488355328) := ⟨by have := HLn.out; rw [List.length_append]; simp only [List.length_cons, List.length_nil]; omega⟩
        have HC2 : Aside0 ((Kd.int .u8).C w1 A1 m l) := ⟨by rw [Hm.out]; exact Kd.C_below HC1.out HB1.out⟩
        clear hx2
        go_wp2_with (first | ((with_reducible refine gate_builtin (b := .append) (xs := #[.tmp 43, .tmp 47]) rfl ?_); at_builtin; refine Kd.R_append_row (Value.int .u8) (0 : Int) (w0 := w) (w.heap.size) rfl (.tmp 43) (.tmp 47) 32 5 (.int .u8 0) 1 rfl Try.underlying32 info5 rfl (by decide) (v1) (acc ++ [(m : Int) / 256, (m : Int) % 256]) (l) (A1) (m) (c1) (fun _ => True) rfl rfl (fun _ _ => trivial) (HO1.out) (HC2.out) (HB1.out) (HB1.out.size) Hlim2.out ?_; intro v2 w2 ho_ hb_ hg_ hat_; clear hg_ hat_; have HO2 := Aside0.mk ho_; have HB2 := Aside0.mk hb_; clear ho_ hb_))
        go_roundg g1
        case measure => omega
        case rel =>
          refine ⟨k + 1, _, by omega, by go_num, HO2, HB2, ⟨?_⟩⟩
          have hq := HQ1.out
          rw [← Hm.out, decide_eq_true (show 1 ≤ m ∧ m ≤ 1024 from ⟨hb1, hb2⟩), Bool.true_and] at hq
          refine ⟨hq.1, ?_, ?_⟩
          · rw [← hq.2.1]
            simp only [wrap1, ← Hm.out, List.append_assoc, List.cons_append, List.nil_append]
          · simp only [List.length_append, List.length_cons, List.length_nil, ← Hm.out]
            have := hq.2.2
            omega
      · have hq := HQ1.out
        rw [← Hm.out, decide_eq_false hb, Bool.false_and] at hq
        have hok := hq.1
        subst hok
        clear hq hm'
        by_cases h1 : m < 1
        · have d1 : decide ((m : Int) < 1) = true := by simp; omega
          clear hb
          go_wp2
          go_ret2
          exact ⟨_, rfl, Kd.R_nil _ _ _ _ _, HB.out⟩
        · have d1 : decide ((m : Int) < 1) = false := by simp; omega
          have d2 : decide (1024 < (m : Int)) = true := by simp; omega
          clear hb
          go_wp2
          go_ret2
          exact ⟨_, rfl, Kd.R_nil _ _ _ _ _, HB.out⟩
    · have hq := HQ.out
      rw [List.drop_of_length_le (by omega)] at hq
      have hok : true = ok := hq.1
      subst hok
      have hL : acc = L := by rw [← hq.2.1]; simp [wrapL]
      clear hq
      go_wp2
      go_ret2
      exact ⟨_, rfl, by rw [← hL]; exact HO.out, HB.out⟩

theorem shortL_le {ls : List (List Int)} (h : shortL ls = true) : ls.length ≤ 20 ∧ ∀ l ∈ ls, l.length ≤ 1200 := by
  simp only [shortL, Bool.and_eq_true, List.all_eq_true, decide_eq_true_eq] at h
  exact ⟨h.2, h.1⟩

set_option maxHeartbeats 1000000 in
theorem wraps_law {n c : Nat} {A : Option Addr} {ls : List (List Int)} (w : World) (HR : (Kd.slice 5 (Kd.int .u8)).C w A n ls) (hc : n ≤ c) (_hby : ∀ l ∈ ls, Byt l) :
    Calls Try.prog 5 #[.slice A n c] w fun e w' => e = .returned (.bool true) ∧ Below w.heap.size w w' := by
  have H := Aside0.mk HR
  clear HR
  obtain ⟨s, hs⟩ : ∃ s, s = shortL ls := ⟨_, rfl⟩
  have Hs := Aside0.mk hs
  clear hs
  cases s with
  | false =>
    go_enter Try.func5, Try.ntmps5
    go_wp2_with fail
    refine (short_any _ H.out hc).mono ?_
    rintro e w' ⟨rfl, m, rfl⟩
    rw [← Hs.out]
    go_wp2_with fail
    go_ret
    exact ⟨rfl, pw_below_drewN (Below.refl _ _) m⟩
  | true =>
    have hsl := Aside0.mk (shortL_le Hs.out.symm)
    obtain ⟨ok, hok⟩ : ∃ ok, ok = wrapOk ls := ⟨_, rfl⟩
    obtain ⟨L, hL⟩ : ∃ L, L = wrapL ls := ⟨_, rfl⟩
    have Hok := Aside0.mk hok
    have HL := Aside0.mk hL
    clear hok hL
    cases ok with
    | true =>
      go_enter Try.func5, Try.ntmps5
      go_wp2_with fail
      refine (short_any _ H.out hc).mono ?_
      rintro e w1 ⟨rfl, m, rfl⟩
      rw [← Hs.out]
      have H1 := Aside0.mk (Kd.C_drewN H.out m)
      obtain ⟨w1, hw1⟩ : ∃ w1, w1 = w.drewN m := ⟨_, rfl⟩
      have HB1 : Aside0 (Below w.heap.size w w1) := ⟨by rw [hw1]; exact pw_below_drewN (Below.refl _ _) m⟩
      rw [← hw1] at H1 ⊢
      clear hw1
      go_wp2_with fail
      refine (wrap_any _ H1.out hc (by have := hsl.out.1; omega)).mono ?_
      rintro e w2 ⟨v2, rfl, hv2, hb2⟩
      rw [← Hok.out, if_pos rfl, ← HL.out] at hv2
      rw [← Hok.out, if_pos rfl]
      obtain ⟨A2, c2, rfl, hl2, hC2⟩ := Kd.R_reads hv2
      have HB2 := Aside0.mk (below_step HB1.out hb2)
      have H2 := Aside0.mk (Kd.C_below H1.out (hb2.mono (by exact Nat.le_refl _)))
      have HC2 := Aside0.mk hC2
      clear hv2 hb2 hl2 hC2 H1 HB1
      go_wp2_with fail
      refine (refwrap_any _ H2.out hc (by have := hsl.out.1; omega)).mono ?_
      rintro e w3 ⟨v3, rfl, hv3, hb3⟩
      rw [← Hok.out, if_pos rfl, ← HL.out] at hv3
      rw [← Hok.out]
      obtain ⟨A3, c3, rfl, hl3, hC3⟩ := Kd.R_reads hv3
      have HB3 := Aside0.mk (below_step HB2.out hb3)
      have hC2' := Kd.C_below HC2.out hb3
      have hv1 : (convert 32 9 (.slice A2 L.length c2)).run Try.prog w3 = .ok (.string (strOfNums L)) w3 := Kd.C_string Try.underlying32 Try.underlying5 Try.underlying9 hC2'
      have hv2 : (convert 32 9 (.slice A3 L.length c3)).run Try.prog w3 = .ok (.string (strOfNums L)) w3 := Kd.C_string Try.underlying32 Try.underlying5 Try.underlying9 hC3
      clear hv3 hb3 hl3 hC3 hC2' H2 HB2 HC2
      go_wp2_with fail
      refine (awake_any _).mono ?_
      rintro e w4 ⟨rfl, hb4⟩
      have HB4 := Aside0.mk (below_step HB3.out hb4)
      clear hb4
      go_wp2_with fail
      go_ret
      exact ⟨rfl, HB4.out⟩
    | false =>
      go_enter Try.func5, Try.ntmps5
      go_wp2_with fail
      refine (short_any _ H.out hc).mono ?_
      rintro e w1 ⟨rfl, m, rfl⟩
      rw [← Hs.out]
      have H1 := Aside0.mk (Kd.C_drewN H.out m)
      obtain ⟨w1, hw1⟩ : ∃ w1, w1 = w.drewN m := ⟨_, rfl⟩
      have HB1 : Aside0 (Below w.heap.size w w1) := ⟨by rw [hw1]; exact pw_below_drewN (Below.refl _ _) m⟩
      rw [← hw1] at H1 ⊢
      clear hw1
      go_wp2_with fail
      refine (wrap_any _ H1.out hc (by have := hsl.out.1; omega)).mono ?_
      rintro e w2 ⟨v2, rfl, hv2, hb2⟩
      rw [← Hok.out, if_neg (by simp)] at hv2
      rw [← Hok.out, if_neg (by simp)]
      obtain ⟨A2, c2, rfl, hl2, hC2⟩ := Kd.R_reads hv2
      have HB2 := Aside0.mk (below_step HB1.out hb2)
      have H2 := Aside0.mk (Kd.C_below H1.out (hb2.mono (by exact Nat.le_refl _)))
      clear hv2 hb2 hl2 hC2 H1 HB1
      go_wp2_with fail
      refine (refwrap_any _ H2.out hc (by have := hsl.out.1; omega)).mono ?_
      rintro e w3 ⟨v3, rfl, hv3, hb3⟩
      rw [← Hok.out, if_neg (by simp)] at hv3
      rw [← Hok.out]
      obtain ⟨A3, c3, rfl, hl3, hC3⟩ := Kd.R_reads hv3
      have HB3 := Aside0.mk (below_step HB2.out hb3)
      clear hv3 hb3 hl3 hC3 H2 HB2
      go_wp2_with fail
      refine (awake_any _).mono ?_
      rintro e w4 ⟨rfl, hb4⟩
      have HB4 := Aside0.mk (below_step HB3.out hb4)
      clear hb4
      go_wp2_with fail
      go_ret
      exact ⟨rfl, HB4.out⟩
end Go.Proofs.Ytgblihndkhiddaa.Fr
