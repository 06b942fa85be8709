/-
What cut (of the laws) answers: pieces that together are the bytes.
-/
import Derived.Test.YtgblihndkhiddaaFj
namespace Go.Proofs.Ytgblihndkhiddaa.Fr
set_option linter.unusedVariables false
set_option linter.unusedSimpArgs false
open Go.RowKit Go.Proofs.YtgblihndkhiddaaW.PrintWords Go.Proofs.YtgblihndkhiddaaW.PrintLast Go.Proofs.YtgblihndkhiddaaW.PrintMore Go.Proofs.Ytgblihndkhiddaa.PFrameFeeds

/-- A cut out of the middle of bytes that are read. -/
theorem cut_bytes_mid {w : World} {A : Option Addr} {xs : List Int} {c : Nat} (h : (Kd.int .u8).C w A xs.length xs) (hc : xs.length ≤ c) (i j : Nat) (hij : i ≤ j) (hj : j ≤ xs.length) :
    ∃ A', (∀ W : World, (Instr.slice 32 (.slice A xs.length c) (some (.int .i64 i)) (some (.int .i64 j)) none).run Try.prog W = .ok (.slice A' (j - i) (c - i)) W) ∧ (Kd.int .u8).C w A' (j - i) ((xs.take j).drop i) := by
  obtain ⟨i5, hi5, hz5⟩ := info5_some
  have hl : ((xs.take j).drop i).length = j - i := by rw [List.length_drop, List.length_take]; omega
  have hC := Kd.C_mid h hij hj hc
  rw [hl] at hC
  refine ⟨_, fun W => ?_, hC⟩
  have := cut_mid 32 5 .i64 .i64 Try.underlying32 hi5 1 hz5 A xs.length c (i : Int) (j : Int) (by omega) (by omega) (by omega) hc W
  rw [Int.toNat_natCast, Int.toNat_natCast] at this
  exact this
set_option maxRecDepth 100000 in
set_option maxHeartbeats 1500000 in
theorem cut_any {n c : Nat} {m : Nat} {A : Option Addr} {b : List Int} (w : World) (HR : (Kd.int .u8).C w A n b) (hc : n ≤ c) (hby : Byt b) (hm : 1 ≤ m ∧ m ≤ 256) (hl : n ≤ 100000) :
    Calls Try.prog 37 #[.slice A n c, .int .i64 m] w fun e w' => ∃ A' c' cs, e = .returned (.slice A' cs.length c') ∧ (Kd.slice 5 (Kd.int .u8)).C w' A' cs.length cs ∧ cs.length ≤ c' ∧ cs.flatten = b ∧ cs.length ≤ b.length + 256 ∧ (∀ l ∈ cs, Byt l) ∧ Below w.heap.size w w' := by
  obtain rfl := HR.1
  have H := Aside0.mk HR
  have Hby := Aside0.mk hby
  clear HR hby
  obtain ⟨n, hn⟩ : ∃ n, n = b.length := ⟨_, rfl⟩
  rw [← hn] at hc hl H ⊢
  have Hn := Aside0.mk hn
  clear hn
  obtain ⟨hm1, hm2⟩ := hm
  go_enter Try.func37, Try.ntmps37
  go_wp2_with fail
  go_loopg [5, 6] n (fun gk ov iv wr => ∃ (i : Nat) (cs : List (List Int)), n ≤ i + gk ∧ i ≤ n + 256 ∧ iv = .int .i64 i ∧ Aside0 (Kd.R (Kd.fixed (Kd.slice 5 (Kd.int .u8)) w) 32 wr w.heap.size (fun _ => True) ov cs) ∧ Aside0 (Below w.heap.size w wr) ∧
    Aside0 (cs.flatten = b.take i ∧ cs.length ≤ i ∧ ∀ l ∈ cs, Byt l))
  case atStart => exact ⟨0, [], by omega, by omega, rfl, ⟨Kd.R_nil _ _ _ _ _⟩, ⟨Below.refl _ _⟩, ⟨by simp, by simp, by simp⟩⟩
  case round =>
    obtain ⟨i, cs, hi1, hi2, rfl, HO, HB, HQ⟩ := hrel
    by_cases hlt : i < n
    · obtain ⟨g1, rfl⟩ : ∃ g1, gk = g1 + 1 := ⟨gk - 1, by omega⟩
      have hlim : Aside0 ((cs.length + 1) * 24 ≤ 140737488355328) := ⟨by have := HQ.out.2.1; omega⟩
      obtain ⟨j, hj1, hj2, hj3⟩ : ∃ j : Nat, i ≤ j ∧ j ≤ n ∧ j = min (i + m) n := ⟨min (i + m) n, by omega, by omega, rfl⟩
      have Hj := Aside0.mk hj3
      obtain ⟨A2, hcut, hC2⟩ := cut_bytes_mid (c := c) (by rw [← Hn.out]; exact H.out) (by rw [← Hn.out]; exact hc) i j hj1 (by rw [← Hn.out]; exact hj2)
      rw [← Hn.out] at hcut
      have hpl : ((b.take j).drop i).length = j - i := by rw [List.length_drop, List.length_take, ← Hn.out]; omega
      have Hp : Aside0 ((Kd.fixed (Kd.slice 5 (Kd.int .u8)) w).M wr w.heap.size (fun _ => False) ((b.take j).drop i) [.slice A2 (j - i) (c - i)]) := ⟨⟨A2, c - i, by rw [hpl], by rw [hpl]; omega, by rw [hpl]; exact hC2⟩⟩
      have Hpl := Aside0.mk hpl
      clear hj3 hC2 hpl
      by_cases hbig : n < i + m
      · obtain rfl : j = n := by rw [Hj.out]; omega
        have hd : decide ((j : Int) < (i : Int) + (m : Int)) = true := by simp; omega
        go_wp2_with (first | ((with_reducible refine gate_builtin (b := .append) (xs := #[.tmp 24, .tmp 29]) rfl ?_); at_builtin; refine Kd.R_append (Kd.fixed (Kd.slice 5 (Kd.int .u8)) w) (w0 := w) w.heap.size rfl (.tmp 24) (.tmp 29) 29 32 (.slice none 0 0) 24 rfl Try.underlying29 info32 rfl Nat.zero_lt_one (by omega) u5 cs ((b.take j).drop i) [.slice A2 (j - i) (c - i)] (fun _ => True) (fun _ => False) rfl rfl Hp.out (fun _ h => h.elim) (fun _ _ => trivial) HO.out HB.out HB.out.size hlim.out ?_; intro v5 w5 ho5 hb5 hg5 hat5; clear hg5 hat5; have HO5 := Aside0.mk ho5; have HB5 := Aside0.mk hb5; clear ho5 hb5))
        go_roundg g1
        case measure => omega
        case rel =>
          refine ⟨i + m, _, by omega, by omega, by go_num, HO5, HB5, ⟨?_, ?_, ?_⟩⟩
          · have hq := HQ.out
            rw [List.flatten_append, hq.1]
            simp only [List.flatten_cons, List.flatten_nil, List.append_nil]
            have hb' : b.take (i + m) = b.take j := by rw [List.take_of_length_le (by rw [← Hn.out]; omega), List.take_of_length_le (by rw [← Hn.out]; omega)]
            rw [hb']
            have : (b.take j).take i = b.take i := by rw [List.take_take]; congr 1; omega
            rw [← this, List.take_append_drop]
          · rw [List.length_append]
            have := HQ.out.2.1
            simp only [List.length_cons, List.length_nil]
            omega
          · intro l hl
            rcases List.mem_append.1 hl with hl | hl
            · exact HQ.out.2.2 l hl
            · rw [List.mem_singleton] at hl
              subst hl
              exact fun x hx => Hby.out x (List.mem_of_mem_take (List.mem_of_mem_drop hx))
      · obtain rfl : j = i + m := by rw [Hj.out]; omega
        have hd : decide ((n : Int) < (i : Int) + (m : Int)) = false := by simp; omega
        have hj0 : ((i + m : Nat) : Int) = (i : Int) + (m : Int) := by omega
        rw [hj0] at hcut
        clear hj0
        have hp2 := Hp.out
        rw [Nat.add_sub_cancel_left] at hp2 hcut
        have Hp2 := Aside0.mk hp2
        clear hp2
        go_wp2_with (first | ((with_reducible refine gate_builtin (b := .append) (xs := #[.tmp 24, .tmp 29]) rfl ?_); at_builtin; refine Kd.R_append (Kd.fixed (Kd.slice 5 (Kd.int .u8)) w) (w0 := w) w.heap.size rfl (.tmp 24) (.tmp 29) 29 32 (.slice none 0 0) 24 rfl Try.underlying29 info32 rfl Nat.zero_lt_one (by omega) u5 cs ((b.take (i + m)).drop i) [.slice A2 m (c - i)] (fun _ => True) (fun _ => False) rfl rfl Hp2.out (fun _ h => h.elim) (fun _ _ => trivial) HO.out HB.out HB.out.size hlim.out ?_; intro v5 w5 ho5 hb5 hg5 hat5; clear hg5 hat5; have HO5 := Aside0.mk ho5; have HB5 := Aside0.mk hb5; clear ho5 hb5))
        go_roundg g1
        case measure => omega
        case rel =>
          refine ⟨i + m, _, by omega, by omega, by go_num, HO5, HB5, ⟨?_, ?_, ?_⟩⟩
          · have hq := HQ.out
            rw [List.flatten_append, hq.1]
            simp only [List.flatten_cons, List.flatten_nil, List.append_nil]
            have : (b.take (i + m)).take i = b.take i := by rw [List.take_take]; congr 1; omega
            rw [← this, List.take_append_drop]
          · rw [List.length_append]
            have := HQ.out.2.1
            simp only [List.length_cons, List.length_nil]
            omega
          · intro l hl
            rcases List.mem_append.1 hl with hl | hl
            · exact HQ.out.2.2 l hl
            · rw [List.mem_singleton] at hl
              subst hl
              exact fun x hx => Hby.out x (List.mem_of_mem_take (List.mem_of_mem_drop hx))
    · have hq := HQ.out
      rw [List.take_of_length_le (by rw [← Hn.out]; omega)] at hq
      obtain ⟨Ao, co, eo, hlo, hCo⟩ := Kd.R_reads HO.out
      subst eo
      have HCo := Aside0.mk hCo
      have Hlo := Aside0.mk hlo
      have HQ2 := Aside0.mk hq
      clear hq hCo hlo HQ
      go_wp2_with fail
      go_ret
      refine ⟨Ao, co, cs, rfl, ?_, Hlo.out, HQ2.out.1, by have := HQ2.out.2.1; omega, HQ2.out.2.2, HB.out⟩
      refine ⟨rfl, HCo.out.2.1, fun h0 => ?_⟩
      obtain ⟨ad, ha, hcells⟩ := HCo.out.2.2 h0
      refine ⟨ad, ha, fun j p hj => ?_⟩
      obtain ⟨cs', h1, h2, h3⟩ := hcells j p hj
      exact ⟨cs', h1, (Kd.slice 5 (Kd.int .u8)).K_below HB.out h2, h3⟩
end Go.Proofs.Ytgblihndkhiddaa.Fr
