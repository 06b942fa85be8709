/-
The reference's Step: the words of all rounds (its first loop).
-/
import Derived.Test.YtpigkgnmegpddaaDoorSe
import Derived.StillTailTactics
namespace Go.Proofs.YtpigkgnmegpddaaDoor.Sh
set_option linter.unusedVariables false
set_option linter.unusedSimpArgs false
open Go.RowKit Go.Proofs.YtpigkgnmegpddaaDoorW.PrintWords Go.Proofs.YtpigkgnmegpddaaDoorW.PrintLast Go.Proofs.YtpigkgnmegpddaaDoorW.PrintMore

theorem right_q (x : Wd) (r : Nat) (h1 : 1 ≤ r) (h2 : r ≤ 31) (w : World) :
    Calls Tryd.prog 52 #[.int .u32 (num x), .int .u64 r] w fun e w' => e = .returned (.int .u32 (num (rotr x r))) ∧ w' = w :=
  (right_any x r h1 h2 w).mono fun e w' ⟨a, b⟩ => ⟨a, b.symm⟩
/-- The memory while the reference's Step works. -/
structure Sr (w wr : World) (s : S8) (g2 g4 g5 : Nat) (ws : List Wd) : Prop where
  b2 : B32 wr g2 23 s.list
  b4 : B32 wr g4 23 (List.replicate 8 0)
  b5 : B32 wr g5 85 ws
  h4 : w.heap.size ≤ g4
  h5 : w.heap.size ≤ g5
  n25 : g2 ≠ g5
  n45 : g4 ≠ g5
  len : ws.length = 64
  bel : Below w.heap.size w wr
theorem Sr.set {w wr : World} {s : S8} {g2 g4 g5 : Nat} {ws : List Wd} (h : Sr w wr s g2 g4 g5 ws) (i : Nat) (x : Wd) : Sr w (wr.setCell ⟨g5, i, none⟩ (.int .u32 (num x))) s g2 g4 g5 (ws.set i x) :=
  ⟨blk_far (p := ⟨g5, i, none⟩) h.b2 h.n25 _, blk_far (p := ⟨g5, i, none⟩) h.b4 h.n45 _, h.b5.set i x, h.h4, h.h5, h.n25, h.n45, by rw [List.length_set, h.len], h.bel.setCell (p := ⟨g5, i, none⟩) h.h5 _⟩
theorem Sr.drewN {w wr : World} {s : S8} {g2 g4 g5 : Nat} {ws : List Wd} (h : Sr w wr s g2 g4 g5 ws) (m : Nat) : Sr w (wr.drewN m) s g2 g4 g5 ws :=
  ⟨h.b2, h.b4, h.b5, h.h4, h.h5, h.n25, h.n45, h.len, pw_below_drewN h.bel m⟩
theorem Sr.below {w wr w' : World} {s : S8} {g2 g4 g5 : Nat} {ws : List Wd} (h : Sr w wr s g2 g4 g5 ws) (hb : Below wr.heap.size wr w') : Sr w w' s g2 g4 g5 ws :=
  ⟨(hb.block g2 (blk_lt h.b2)).trans h.b2, (hb.block g4 (blk_lt h.b4)).trans h.b4, (hb.block g5 (blk_lt h.b5)).trans h.b5, h.h4, h.h5, h.n25, h.n45, h.len, h.bel.trans (hb.mono h.bel.size)⟩
theorem Sr.apart {w wr w' : World} {s : S8} {g2 g4 g5 g9 : Nat} {ws : List Wd} (h : Sr w wr s g2 g4 g5 ws) (h9 : w.heap.size ≤ g9) (n2 : g2 ≠ g9) (n4 : g4 ≠ g9) (n5 : g5 ≠ g9) (hk : Kept wr w' (fun k => k = g9)) (hb : Below g9 wr w') : Sr w w' s g2 g4 g5 ws :=
  ⟨(hk.2 g2 (blk_lt h.b2) n2).trans h.b2, (hk.2 g4 (blk_lt h.b4) n4).trans h.b4, (hk.2 g5 (blk_lt h.b5) n5).trans h.b5, h.h4, h.h5, h.n25, h.n45, h.len, h.bel.trans (hb.mono h9)⟩
theorem not_num2 (x : Wd) : Go.bits .xor .u32 (num x) (4294967295 : Int) = num (x ^^^ 4294967295#32) := bits_xor x 4294967295#32
theorem one8 (a b c d e f g h : Int) : (#[Value.int .u32 a, .int .u32 b, .int .u32 c, .int .u32 d, .int .u32 e, .int .u32 f, .int .u32 g, .int .u32 h] : Array Value).all (·.oneCell') = true := by simp [Value.oneCell']
theorem shlm24 (x : Wd) : num x * (16777216 : Int) % (4294967296 : Int) = num (x <<< 24) := shl_mod x 24
theorem shlm16 (x : Wd) : num x * (65536 : Int) % (4294967296 : Int) = num (x <<< 16) := shl_mod x 16
theorem shlm8 (x : Wd) : num x * (256 : Int) % (4294967296 : Int) = num (x <<< 8) := shl_mod x 8
theorem shlw24 (x : Wd) : IntKind.u32.wrap (num x * (16777216 : Int)) = num (x <<< 24) := shl_num x 24
theorem shlw16 (x : Wd) : IntKind.u32.wrap (num x * (65536 : Int)) = num (x <<< 16) := shl_num x 16
theorem shlw8 (x : Wd) : IntKind.u32.wrap (num x * (256 : Int)) = num (x <<< 8) := shl_num x 8
set_option maxRecDepth 100000 in
set_option maxHeartbeats 4000000 in
theorem refstep_any (s : S8) (l : List Int) (hl : l.length = 64) (hby : ∀ x ∈ l, 0 ≤ x ∧ x ≤ 255) {A : Option Addr} {n c : Nat} (w : World) (HR : (Kd.int .u8).C w A n l) :
    Calls Tryd.prog 22 #[.agg (v32 s.list), .slice A n c] w fun e w' => e = .returned (.agg (v32 (step s l).list)) ∧ Below w.heap.size w w' := by
  have hu23 := Tryd.underlying23
  have hu85 := Tryd.underlying85
  have hn : n = 64 := by have := HR.1; omega
  subst hn
  obtain ⟨ad, rfl⟩ := C_some HR (by omega)
  have H := Aside0.mk HR
  clear HR
  go_enter Tryd.func22, Tryd.ntmps22
  go_wp2_with (first | ((with_reducible refine gate_dst (N := 2) rfl ?_); refine box_event ?hg (N := 2) ?hd (cs := v32 s.list) (t := 23) ?hr ?_; (case hd => rfl); (case hg => rfl); (case hr => first | (go_simp; done) | (go_simp; rfl)); intro g2 hg_ w1 hbox_ hb_; have H2 := Aside0.mk hbox_; have HB := Aside0.mk hb_;clear hg_ hbox_ hb_) | ((with_reducible refine gate_dst (N := 4) rfl ?_); refine box_event ?hg (N := 4) ?hd (cs := v32 (List.replicate 8 0)) (t := 23) ?hr ?_; (case hd => rfl); (case hg => rfl); (case hr => first | (go_simp; done) | (go_simp; rfl)); intro g4 hg_ w2 hbox_ hb_; have H4 := Aside0.mk hbox_; have H22 := Aside0.mk (blk_below H2.out hb_); have HB2 := Aside0.mk (below_step HB.out hb_); have K4 := Aside0.mk (show w.heap.size ≤ g4 from by rw [hg_]; exact HB.out.size);clear hg_ hbox_ hb_) | ((with_reducible refine gate_dst (N := 5) rfl ?_); refine box_event ?hg (N := 5) ?hd (cs := v32 (List.replicate 64 0)) (t := 85) ?hr ?_; (case hd => rfl); (case hg => rfl); (case hr => first | (go_simp; done) | (go_simp; rfl)); intro g5 hg_ w3 hbox_ hb_; have HS := Aside0.mk (show Sr w w3 s g2 g4 g5 (List.replicate 64 0) from ⟨blk_below H22.out hb_, blk_below H4.out hb_, hbox_, K4.out, by rw [hg_]; exact HB2.out.size, by rw [hg_]; exact Nat.ne_of_lt (blk_lt H22.out), by rw [hg_]; exact Nat.ne_of_lt (blk_lt H4.out), by simp, below_step HB2.out hb_⟩);clear hg_ hbox_ hb_))
  clear H2 HB H4 H22 HB2 K4
  go_loopg [6] 64 (fun gk iv wr => ∃ (i : Nat) (ws : List Wd), i + gk = 64 ∧ iv = .int .i64 i ∧ Aside0 (Sr w wr s g2 g4 g5 ws) ∧ Aside0 (∀ j, j < i → ws.getD j 0 = S l j))
  case atStart => exact ⟨0, _, by omega, rfl, HS, ⟨fun j hj => by omega⟩⟩
  case round =>
    clear HS
    obtain ⟨i, ws, hi, rfl, HS, HV⟩ := hrel
    by_cases hlt : i < 64
    · obtain ⟨gq, rfl⟩ : ∃ gq, gk = gq + 1 := ⟨gk - 1, by omega⟩
      obtain ⟨wo, hwo⟩ : ∃ wo, wo = wr := ⟨_, rfl⟩
      subst hwo
      have q1 : (0 : Int) ≤ (i : Int) := by omega
      have q2 : (i : Int) < 64 := by omega
      by_cases h16 : i < 16
      · have hb : ∀ j, j < 64 → wo.cell? (ad.add j) = some (.int .u8 (num (byt l j))) := fun j hj => by
          rw [num_byt l j hby]
          exact pw_cell_below HS.out.bel (C_cell H.out rfl j hj)
        have HS1 := Aside0.mk (HS.out.drewN 1)
        obtain ⟨j0, hj0⟩ : ∃ j, j = 4 * i := ⟨_, rfl⟩
        obtain ⟨j1, hj1⟩ : ∃ j, j = 4 * i + 1 := ⟨_, rfl⟩
        obtain ⟨j2, hj2⟩ : ∃ j, j = 4 * i + 2 := ⟨_, rfl⟩
        obtain ⟨j3, hj3⟩ : ∃ j, j = 4 * i + 3 := ⟨_, rfl⟩
        have b0 := hb j0 (by omega)
        have b1 := hb j1 (by omega)
        have b2 := hb j2 (by omega)
        have b3 := hb j3 (by omega)
        have p0a : (0 : Int) ≤ (j0 : Int) := by omega
        have p0b : (j0 : Int) < 64 := by omega
        have p1a : (0 : Int) ≤ (j1 : Int) := by omega
        have p1b : (j1 : Int) < 64 := by omega
        have p2a : (0 : Int) ≤ (j2 : Int) := by omega
        have p2b : (j2 : Int) < 64 := by omega
        have p3a : (0 : Int) ≤ (j3 : Int) := by omega
        have p3b : (j3 : Int) < 64 := by omega
        have e0 : IntKind.i64.wrap (4 * (i : Int)) = (j0 : Int) := by rw [IntWalk.i64_in _ (by omega)]; omega
        have e1 : IntKind.i64.wrap ((j0 : Int) + 1) = (j1 : Int) := by rw [IntWalk.i64_in _ (by omega)]; omega
        have e2 : IntKind.i64.wrap ((j0 : Int) + 2) = (j2 : Int) := by rw [IntWalk.i64_in _ (by omega)]; omega
        have e3 : IntKind.i64.wrap ((j0 : Int) + 3) = (j3 : Int) := by rw [IntWalk.i64_in _ (by omega)]; omega
        have HJ := Aside0.mk (And.intro hj0 (And.intro hj1 (And.intro hj2 hj3)))
        clear hj0 hj1 hj2 hj3
        have u0 := wrap_num (byt l j0)
        have u1 := wrap_num (byt l j1)
        have u2 := wrap_num (byt l j2)
        have u3 := wrap_num (byt l j3)
        have hx := HS.out.b5.get i (by rw [HS.out.len]; exact hlt)
        have hfz := HS.out.b5.fz i
        clear hb HS
        go_wp2_with fail
        go_still_tail 35, (by kernel_rfl)
        change wpList _ _ _ _ _ wo.drew
        obtain ⟨w1, hw1⟩ : ∃ w1, w1 = wo.drew := ⟨_, rfl⟩
        rw [← hw1]
        replace HS1 : Aside0 (Sr w w1 s g2 g4 g5 ws) := ⟨by rw [hw1]; exact HS1.out⟩
        replace hx : w1.cell? ⟨g5, i, none⟩ = some (.int .u32 (num (ws.getD i 0))) := by rw [hw1]; exact hx
        replace hfz : w1.frozen? ⟨g5, i, none⟩ = false := by rw [hw1]; exact hfz
        clear hw1 b0 b1 b2 b3 e0 e1 e2 e3 p0a p0b p1a p1b p2a p2b p3a p3b u0 u1 u2 u3
        go_wp2_with fail
        have E : Go.bits .or .u32 (Go.bits .or .u32 (Go.bits .or .u32 (IntKind.u32.wrap (num (byt l j0) * 16777216)) (IntKind.u32.wrap (num (byt l j1) * 65536))) (IntKind.u32.wrap (num (byt l j2) * 256))) (num (byt l j3)) = num (S l i) := by
          rw [shlw24, shlw16, shlw8, bits_or, bits_or, bits_or, S_word l i h16, HJ.out.1, HJ.out.2.1, HJ.out.2.2.1, HJ.out.2.2.2]
          rfl
        have E2 : Go.bits .or .u32 (Go.bits .or .u32 (Go.bits .or .u32 (num (byt l j0) * 16777216 % 4294967296) (num (byt l j1) * 65536 % 4294967296)) (num (byt l j2) * 256 % 4294967296)) (num (byt l j3)) = num (S l i) := by
          rw [← E, shlw24, shlw16, shlw8, shlm24, shlm16, shlm8]
        clear E
        have HS2 := Aside0.mk (HS1.out.set i (S l i))
        have HV2 : Aside0 (∀ j, j < i + 1 → (ws.set i (S l i)).getD j 0 = S l j) := ⟨fun j hj => by
          have hlen := HS1.out.len
          rcases Nat.lt_or_ge j i with h | h
          · rw [List.getD_eq_getElem?_getD, List.getElem?_set_ne (by omega), ← List.getD_eq_getElem?_getD]
            exact HV.out j h
          · obtain rfl : j = i := by omega
            rw [List.getD_eq_getElem?_getD, List.getElem?_set_self (by omega), Option.getD_some]⟩
        clear HS1 HV hx hfz HJ
        go_roundg gq
        case measure => omega
        case rel =>
          refine ⟨i + 1, ws.set i (S l i), by omega, by go_num, ?_, HV2⟩
          rw [E2]
          exact HS2
      · have hx : ∀ j, j < i → wo.cell? ⟨g5, j, none⟩ = some (.int .u32 (num (S l j))) := fun j hj => by
          rw [← HV.out j hj]
          exact HS.out.b5.get j (by rw [HS.out.len]; omega)
        have Hrec := Aside0.mk (S_rec l i (by omega) hlt)
        obtain ⟨j15, hj15⟩ : ∃ j, j = i - 15 := ⟨_, rfl⟩
        obtain ⟨j2, hj2⟩ : ∃ j, j = i - 2 := ⟨_, rfl⟩
        obtain ⟨j16, hj16⟩ : ∃ j, j = i - 16 := ⟨_, rfl⟩
        obtain ⟨j7, hj7⟩ : ∃ j, j = i - 7 := ⟨_, rfl⟩
        rw [← hj15, ← hj2, ← hj16, ← hj7] at Hrec
        have hx15 := hx j15 (by omega)
        have hx2 := hx j2 (by omega)
        have hx16 := hx j16 (by omega)
        have hx7 := hx j7 (by omega)
        clear hx
        have p15a : (0 : Int) ≤ (j15 : Int) := by omega
        have p15b : (j15 : Int) < 64 := by omega
        have p2a : (0 : Int) ≤ (j2 : Int) := by omega
        have p2b : (j2 : Int) < 64 := by omega
        have p16a : (0 : Int) ≤ (j16 : Int) := by omega
        have p16b : (j16 : Int) < 64 := by omega
        have p7a : (0 : Int) ≤ (j7 : Int) := by omega
        have p7b : (j7 : Int) < 64 := by omega
        have e15 : IntKind.i64.wrap ((i : Int) - 15) = (j15 : Int) := by rw [IntWalk.i64_in _ (by omega)]; omega
        have e2 : IntKind.i64.wrap ((i : Int) - 2) = (j2 : Int) := by rw [IntWalk.i64_in _ (by omega)]; omega
        have e16 : IntKind.i64.wrap ((i : Int) - 16) = (j16 : Int) := by rw [IntWalk.i64_in _ (by omega)]; omega
        have e7 : IntKind.i64.wrap ((i : Int) - 7) = (j7 : Int) := by rw [IntWalk.i64_in _ (by omega)]; omega
        clear hj15 hj2 hj16 hj7
        obtain ⟨s15, hs15⟩ : ∃ s, s = S l j15 := ⟨_, rfl⟩
        obtain ⟨s2, hs2⟩ : ∃ s, s = S l j2 := ⟨_, rfl⟩
        obtain ⟨s16, hs16⟩ : ∃ s, s = S l j16 := ⟨_, rfl⟩
        obtain ⟨s7, hs7⟩ : ∃ s, s = S l j7 := ⟨_, rfl⟩
        rw [← hs15] at hx15 Hrec
        rw [← hs2] at hx2 Hrec
        rw [← hs16] at hx16 Hrec
        rw [← hs7] at hx7 Hrec
        clear hs15 hs2 hs16 hs7
        have h16i : (16 : Int) ≤ (i : Int) := by omega
        have h16d : decide ((i : Int) < 16) = false := by simp; omega
        go_wp2_with fail
        go_quiet ((go_at_call 52; exact Calls.quiet_of_same (right_q _ _ (by decide) (by decide) _)))
        rw [bits_xor, gam0_num]
        have HS1 := Aside0.mk (HS.out.drewN nq)
        obtain ⟨w1, hw1⟩ : ∃ w1, w1 = wo.drewN nq := ⟨_, rfl⟩
        replace HS1 : Aside0 (Sr w w1 s g2 g4 g5 ws) := ⟨by rw [hw1]; exact HS1.out⟩
        replace hx2 : w1.cell? ⟨g5, j2, none⟩ = some (.int .u32 (num s2)) := by rw [hw1]; exact hx2
        replace hx16 : w1.cell? ⟨g5, j16, none⟩ = some (.int .u32 (num s16)) := by rw [hw1]; exact hx16
        replace hx7 : w1.cell? ⟨g5, j7, none⟩ = some (.int .u32 (num s7)) := by rw [hw1]; exact hx7
        rw [← hw1]
        clear hw1 HS hx15 e15
        go_wp2_with fail
        go_quiet ((go_at_call 52; exact Calls.quiet_of_same (right_q _ _ (by decide) (by decide) _)))
        rw [bits_xor, gam1_num]
        have HS2 := Aside0.mk (HS1.out.drewN nq)
        obtain ⟨w2, hw2⟩ : ∃ w2, w2 = w1.drewN nq := ⟨_, rfl⟩
        replace HS2 : Aside0 (Sr w w2 s g2 g4 g5 ws) := ⟨by rw [hw2]; exact HS2.out⟩
        replace hx16 : w2.cell? ⟨g5, j16, none⟩ = some (.int .u32 (num s16)) := by rw [hw2]; exact hx16
        replace hx7 : w2.cell? ⟨g5, j7, none⟩ = some (.int .u32 (num s7)) := by rw [hw2]; exact hx7
        rw [← hw2]
        clear hw2 HS1 hx2 e2
        have hxi := HS2.out.b5.get i (by rw [HS2.out.len]; omega)
        have hfz := HS2.out.b5.fz i
        go_wp2_with fail
        go_region
        rw [add4, ← Hrec.out]
        have HS6 := Aside0.mk ((HS2.out.set i (S l i)).drewN 1)
        have HV6 : Aside0 (∀ j, j < i + 1 → (ws.set i (S l i)).getD j 0 = S l j) := ⟨fun j hj => by
          have hlen := HS2.out.len
          rcases Nat.lt_or_ge j i with h | h
          · rw [List.getD_eq_getElem?_getD, List.getElem?_set_ne (by omega), ← List.getD_eq_getElem?_getD]
            exact HV.out j h
          · obtain rfl : j = i := by omega
            rw [List.getD_eq_getElem?_getD, List.getElem?_set_self (by omega), Option.getD_some]⟩
        clear HS2 HV hxi hfz hx16 hx7 e16 e7 p15a p15b p2a p2b p16a p16b p7a p7b Hrec
        go_wp2_with fail
        go_roundg gq
        case measure => omega
        case rel => exact ⟨i + 1, _, by omega, by go_num, HS6, HV6⟩
    · have hi64 : i = 64 := by omega
      subst hi64
      have hws : ws = rows l := rows_ext HS.out.len HV.out
      subst hws
      go_wp2_with fail
      refine (words_any _).mono ?_
      rintro e w4 ⟨rfl, hb4⟩
      have HS4 := Aside0.mk (HS.out.below hb4)
      clear HS HV hb4
      go_wp2_with (first | ((with_reducible refine gate_dst (N := 9) rfl ?_); refine box_event ?hg (N := 9) ?hd (cs := v32 (List.replicate 64 0)) (t := 85) ?hr ?_; (case hd => rfl); (case hg => rfl); (case hr => first | (go_simp; done) | (go_simp; rfl)); intro g9 hg_ w5 hbox_ hb_; have H9 := Aside0.mk hbox_; have HS5 := Aside0.mk (HS4.out.below hb_); have K9 := Aside0.mk (show w.heap.size ≤ g9 ∧ g2 ≠ g9 ∧ g4 ≠ g9 ∧ g5 ≠ g9 from by rw [hg_]; exact ⟨HS4.out.bel.size, Nat.ne_of_lt (blk_lt HS4.out.b2), Nat.ne_of_lt (blk_lt HS4.out.b4), Nat.ne_of_lt (blk_lt HS4.out.b5)⟩);clear hg_ hbox_ hb_) | ((with_reducible refine gate_store (t := 85) (p := 9) rfl ?_); refine store_row ?hg (ty := 85) (p := 9) (v := ?vr_1) ?ho ?hd (g := g9) (t := 85) (old := v32 (List.replicate 64 0)) (cells := v32 Ks) ?hx ?hy H9.out (size85 Ks_length) (by rw [v32_size, v32_size, Ks_length, List.length_replicate]) (v32_one _) ?_; (case hd => rfl); (case hg => rfl); (case ho => rfl); (case hx => rfl); (case hy => rfl); intro w6 hbox_ hk_ hb_; have HK := Aside0.mk (show B32 w6 g9 85 Ks from hbox_); have HS6 := Aside0.mk (HS5.out.apart K9.out.1 K9.out.2.1 K9.out.2.2.1 K9.out.2.2.2 hk_ hb_);clear hbox_ hk_ hb_))
      clear HS4 HS5 H9 K9
      have c0 : w6.cell? ⟨g2, 0, none⟩ = some (.int .u32 (num s.a)) := HS6.out.b2.get 0 (by simp [S8.list])
      have c1 : w6.cell? ⟨g2, 1, none⟩ = some (.int .u32 (num s.b)) := HS6.out.b2.get 1 (by simp [S8.list])
      have c2 : w6.cell? ⟨g2, 2, none⟩ = some (.int .u32 (num s.c)) := HS6.out.b2.get 2 (by simp [S8.list])
      have c3 : w6.cell? ⟨g2, 3, none⟩ = some (.int .u32 (num s.d)) := HS6.out.b2.get 3 (by simp [S8.list])
      have c4 : w6.cell? ⟨g2, 4, none⟩ = some (.int .u32 (num s.e)) := HS6.out.b2.get 4 (by simp [S8.list])
      have c5 : w6.cell? ⟨g2, 5, none⟩ = some (.int .u32 (num s.f)) := HS6.out.b2.get 5 (by simp [S8.list])
      have c6 : w6.cell? ⟨g2, 6, none⟩ = some (.int .u32 (num s.g)) := HS6.out.b2.get 6 (by simp [S8.list])
      have c7 : w6.cell? ⟨g2, 7, none⟩ = some (.int .u32 (num s.h)) := HS6.out.b2.get 7 (by simp [S8.list])
      go_quiet (fail)
      clear c0 c1 c2 c3 c4 c5 c6 c7
      have HS7 := Aside0.mk (HS6.out.drewN nq)
      have HK7 : Aside0 (B32 (w6.drewN nq) g9 85 Ks) := ⟨HK.out⟩
      obtain ⟨w7, hw7⟩ : ∃ w7, w7 = w6.drewN nq := ⟨_, rfl⟩
      rw [← hw7] at HS7 HK7 ⊢
      clear hw7 HS6 HK
      go_wp2_with fail
      go_loopg [10, 11, 12, 13, 14, 15, 16, 17, 18] 64 (fun gk a b c d e f g z iv wr => ∃ (i : Nat) (v : S8), i + gk = 64 ∧ iv = .int .i64 i ∧ a = .int .u32 (num v.a) ∧ b = .int .u32 (num v.b) ∧ c = .int .u32 (num v.c) ∧ d = .int .u32 (num v.d) ∧ e = .int .u32 (num v.e) ∧ f = .int .u32 (num v.f) ∧ g = .int .u32 (num v.g) ∧ z = .int .u32 (num v.h) ∧ Aside0 (Sr w wr s g2 g4 g5 (rows l)) ∧ Aside0 (B32 wr g9 85 Ks) ∧ Aside0 (v = rounds s (rows l) i))
      case atStart => exact ⟨0, s, by omega, rfl, rfl, rfl, rfl, rfl, rfl, rfl, rfl, rfl, HS7, HK7, ⟨rfl⟩⟩
      case round =>
        clear HS7 HK7
        obtain ⟨i, v, hi, rfl, rfl, rfl, rfl, rfl, rfl, rfl, rfl, rfl, HS, HK, HV⟩ := hrel
        obtain ⟨va, vb, vc, vd, ve, vf, vg, vh⟩ := v
        by_cases hlt : i < 64
        · obtain ⟨gq, rfl⟩ : ∃ gq, gk = gq + 1 := ⟨gk - 1, by omega⟩
          obtain ⟨wo, hwo⟩ : ∃ wo, wo = wr := ⟨_, rfl⟩
          subst hwo
          have cK : wo.cell? ⟨g9, i, none⟩ = some (.int .u32 (num (Kw i))) := by
            rw [← Ks_get i hlt]
            exact HK.out.get i (by rw [Ks_length]; exact hlt)
          obtain ⟨wd, hwd⟩ : ∃ wd, wd = (rows l).getD i 0 := ⟨_, rfl⟩
          have cW : wo.cell? ⟨g5, i, none⟩ = some (.int .u32 (num wd)) := by
            rw [hwd]
            exact HS.out.b5.get i (by rw [rows_length]; exact hlt)
          have Hwd := Aside0.mk hwd
          clear hwd
          obtain ⟨kw, hkw⟩ : ∃ kw, kw = Kw i := ⟨_, rfl⟩
          rw [← hkw] at cK
          have Hkw := Aside0.mk hkw
          clear hkw
          have p1 : (0 : Int) ≤ (i : Int) := by omega
          have p2 : (i : Int) < 64 := by omega
          go_wp2_with (first | (go_at_call 52; refine (right_any _ _ (by decide) (by decide) _).mono ?_; rintro e w' ⟨rfl, rfl⟩))
          simp only [not_num2, bits_and, bits_xor, bits_or, ch_or]
          go_quiet (fail)
          rw [add4, add2]
          obtain ⟨x, hx⟩ : ∃ x, x = tx ⟨va, vb, vc, vd, ve, vf, vg, vh⟩ kw wd := ⟨_, rfl⟩
          have hx2 : vh + (rotr ve 6 ^^^ rotr ve 11 ^^^ rotr ve 25) + ch ve vf vg + kw + wd = x := hx.symm
          rw [hx2]
          have Hx := Aside0.mk hx
          have HS1 := Aside0.mk (HS.out.drewN nq)
          have HK1 : Aside0 (B32 (wo.drewN nq) g9 85 Ks) := ⟨HK.out⟩
          obtain ⟨w8, hw8⟩ : ∃ w8, w8 = wo.drewN nq := ⟨_, rfl⟩
          rw [← hw8] at HS1 HK1 ⊢
          clear hw8 HS HK cK cW hx hx2
          go_wp2_with (first | (go_at_call 52; refine (right_any _ _ (by decide) (by decide) _).mono ?_; rintro e w' ⟨rfl, rfl⟩))
          simp only [bits_and, bits_xor, bits_or, maj_or, add2]
          go_roundg gq
          case measure => omega
          case rel =>
            refine ⟨i + 1, ⟨x + ((rotr va 2 ^^^ rotr va 13 ^^^ rotr va 22) + maj va vb vc), va, vb, vc, vd + x, ve, vf, vg⟩, by omega, by go_num, rfl, rfl, rfl, rfl, rfl, rfl, rfl, rfl, HS1, HK1, ⟨?_⟩⟩
            show _ = rnd (rounds s (rows l) i) (Kw i) ((rows l).getD i 0)
            rw [← HV.out, ← Hwd.out, ← Hkw.out, Hx.out]
            rfl
        · have hi64 : i = 64 := by omega
          subst hi64
          have c0 : wr.cell? ⟨g2, 0, none⟩ = some (.int .u32 (num s.a)) := HS.out.b2.get 0 (by simp [S8.list])
          have c1 : wr.cell? ⟨g2, 1, none⟩ = some (.int .u32 (num s.b)) := HS.out.b2.get 1 (by simp [S8.list])
          have c2 : wr.cell? ⟨g2, 2, none⟩ = some (.int .u32 (num s.c)) := HS.out.b2.get 2 (by simp [S8.list])
          have c3 : wr.cell? ⟨g2, 3, none⟩ = some (.int .u32 (num s.d)) := HS.out.b2.get 3 (by simp [S8.list])
          have c4 : wr.cell? ⟨g2, 4, none⟩ = some (.int .u32 (num s.e)) := HS.out.b2.get 4 (by simp [S8.list])
          have c5 : wr.cell? ⟨g2, 5, none⟩ = some (.int .u32 (num s.f)) := HS.out.b2.get 5 (by simp [S8.list])
          have c6 : wr.cell? ⟨g2, 6, none⟩ = some (.int .u32 (num s.g)) := HS.out.b2.get 6 (by simp [S8.list])
          have c7 : wr.cell? ⟨g2, 7, none⟩ = some (.int .u32 (num s.h)) := HS.out.b2.get 7 (by simp [S8.list])
          go_wp2_with (first | ((with_reducible refine gate_store (t := 23) (p := 4) rfl ?_); refine store_row ?hg (ty := 23) (p := 4) (v := ?vr_2) ?ho ?hd (g := g4) (t := 23) (old := v32 (List.replicate 8 0)) (cells := #[.int .u32 ((num s.a + num va) % 4294967296), .int .u32 ((num s.b + num vb) % 4294967296), .int .u32 ((num s.c + num vc) % 4294967296), .int .u32 ((num s.d + num vd) % 4294967296), .int .u32 ((num s.e + num ve) % 4294967296), .int .u32 ((num s.f + num vf) % 4294967296), .int .u32 ((num s.g + num vg) % 4294967296), .int .u32 ((num s.h + num vh) % 4294967296)]) ?hx ?hy HS.out.b4 (by kernel_rfl) rfl (one8 _ _ _ _ _ _ _ _) ?_; (case hd => rfl); (case hg => rfl); (case ho => rfl); (case hx => rfl); (case hy => rfl); intro w9 hbox_ hk_ hb_; have HR9 := Aside0.mk hbox_; have HB9 := Aside0.mk (HS.out.bel.trans (hb_.mono HS.out.h4));clear hbox_ hk_ hb_))
          refine bodyPost_ret (results_cell_row rfl _ _ g4 23 #[.int .u32 ((num s.a + num va) % 4294967296), .int .u32 ((num s.b + num vb) % 4294967296), .int .u32 ((num s.c + num vc) % 4294967296), .int .u32 ((num s.d + num vd) % 4294967296), .int .u32 ((num s.e + num ve) % 4294967296), .int .u32 ((num s.f + num vf) % 4294967296), .int .u32 ((num s.g + num vg) % 4294967296), .int .u32 ((num s.h + num vh) % 4294967296)] (0, 0) _ rfl HR9.out Tryd.underlying23 rfl (by kernel_rfl)) rfl ?_
          refine ⟨?_, HB9.out⟩
          simp only [add2]
          have hst : step s l = s.add ⟨va, vb, vc, vd, ve, vf, vg, vh⟩ := by rw [HV.out]; unfold step rows; rfl
          rw [hst]
          rfl
end Go.Proofs.YtpigkgnmegpddaaDoor.Sh
