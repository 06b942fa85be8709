/-
The law FrameDead: behind a wrong length nothing comes any more.
-/
import Derived.Test.YtgblihndkhiddaaFi
namespace Go.Proofs.Ytgblihndkhiddaa.Fr
set_option linter.unusedVariables false
set_option linter.unusedSimpArgs false
open Go.RowKit Go.Proofs.YtgblihndkhiddaaW.PrintWords Go.Proofs.YtgblihndkhiddaaW.PrintLast Go.Proofs.YtgblihndkhiddaaW.PrintMore Go.Proofs.Ytgblihndkhiddaa.PFrameFeeds

theorem dead_bytes {n : Int} (h0 : 0 ≤ n) (h1 : n ≤ 65535) (hw : ¬ (1 ≤ n ∧ n ≤ 1024)) : frames [0, 1, 9, n / 256, n % 256] = ([[9]], [], true) := by
  have h : sz [0, 1, 9, n / 256, n % 256] = (1, true) := rfl
  have h2 : sz [n / 256, n % 256] = (n, true) := by
    simp only [sz]
    rw [show 256 * (n / 256) + n % 256 = n from by omega]
  rw [frames_one h (by omega) (by simp)]
  show ([[9]] ++ (frames [n / 256, n % 256]).1, (frames [n / 256, n % 256]).2) = _
  rw [frames_wrong h2 hw]
  rfl
theorem u8_small {n : Int} (h0 : 0 ≤ n) (h1 : n ≤ 255) : IntKind.u8.wrap n = n := by
  simp only [IntKind.wrap, IntKind.signed, IntKind.bits, Bool.false_and, Bool.false_eq_true, if_false]
  omega

set_option maxRecDepth 100000 in
set_option maxHeartbeats 1500000 in
theorem dead_law {n c : Nat} {A : Option Addr} {ls : List (List Int)} {hi : Bool} {mo : Int} (w : World) (HR : (Kd.slice 5 (Kd.int .u8)).C w A n ls) (hc : n ≤ c) (hby : ∀ l ∈ ls, Byt l) (hmo : 0 ≤ mo ∧ mo ≤ 65535) :
    Calls Try.prog 11 #[.slice A n c, .bool hi, .int .u16 mo] w fun e w' => e = .returned (.bool true) ∧ Below w.heap.size w w' := by
  obtain rfl := HR.1
  have H := Aside0.mk HR
  clear HR hby
  obtain ⟨hmo1, hmo2⟩ := hmo
  obtain ⟨s, hs⟩ : ∃ s, s = shortL ls := ⟨_, rfl⟩
  have Hs := Aside0.mk hs
  clear hs
  cases s with
  | false =>
    go_enter Try.func11, Try.ntmps11
    go_wp2_with fail
    refine (short_any _ H.out hc).mono ?_
    rintro e w' ⟨rfl, m, rfl⟩
    rw [← Hs.out]
    go_wp2_with fail
    go_ret
    exact ⟨rfl, pw_below_drewN (Below.refl _ _) m⟩
  | true =>
    have hsl := Aside0.mk (shortL_le Hs.out.symm)
    have hn20 : ls.length ≤ 20 := hsl.out.1
    go_enter Try.func11, Try.ntmps11
    go_wp2_with fail
    refine (short_any _ H.out hc).mono ?_
    rintro e w1 ⟨rfl, m, rfl⟩
    rw [← Hs.out]
    obtain ⟨w1, hw1⟩ : ∃ w1, w1 = w.drewN m := ⟨_, rfl⟩
    have HB1 : Aside0 (Below w.heap.size w w1) := ⟨by rw [hw1]; exact pw_below_drewN (Below.refl _ _) m⟩
    rw [← hw1]
    clear hw1
    go_wp2_with fail
    refine (new_any _).mono ?_
    rintro e w2 ⟨rfl, hw2⟩
    obtain ⟨g, hg⟩ : ∃ g, g = w1.heap.size := ⟨_, rfl⟩
    have HR2 : Aside0 (Rd w2 w.heap.size g (.slice none 0 0) [] false) := ⟨by rw [← hw2, hg]; exact Rd.new w1 _ HB1.out.size⟩
    have HB2 : Aside0 (Below w.heap.size w w2) := ⟨by rw [← hw2]; exact below_alloc HB1.out _⟩
    rw [← hg]
    clear hw2 hg HB1
    obtain ⟨W6, hW6⟩ : ∃ W6 : Int → World, W6 = fun k => w2.alloc (.cells #[.int .u8 0, .int .u8 1, .int .u8 9, .int .u8 (k / 256), .int .u8 (k % 256)] 5) := ⟨_, rfl⟩
    have Hfeed : Aside0 (∀ k : Int, 0 ≤ k → k ≤ 65535 → (¬ (1 ≤ k ∧ k ≤ 1024)) → Calls Try.prog 32 #[.pointer (some ⟨g, 0, none⟩), .slice (some ⟨w2.heap.size, 0, none⟩) 5 5] (W6 k)
        fun e w' => ∃ Ao co v', e = .returned (.tuple #[.slice Ao 1 co, .int .i64 6]) ∧ Rd w' w.heap.size g v' [] true ∧ Below w.heap.size w w') := by
      constructor
      intro k h0 h1 hw
      have hC : (Kd.int .u8).C (W6 k) (some ⟨w2.heap.size, 0, none⟩) 5 [0, 1, 9, k / 256, k % 256] := by
        rw [hW6]
        exact C_of_bytes (heap_alloc_new w2 _) [0, 1, 9, k / 256, k % 256] (by simp) rfl
      have hR : Rd (W6 k) w.heap.size g (.slice none 0 0) [] false := by
        rw [hW6]
        exact HR2.out.below (below_alloc (Below.refl _ _) _)
      have hB : Below w.heap.size w (W6 k) := by
        rw [hW6]
        exact below_alloc HB2.out _
      refine (feed_any (c := 5) _ hR hC (by intro x hx; simp at hx; omega) (by simp)).mono ?_
      rintro e w' ⟨vo, v', rfl, hr, ho, hm, hb, hk⟩
      have hd := dead_bytes h0 h1 hw
      rw [List.nil_append, hd] at hr ho
      rw [List.nil_append, hd]
      obtain ⟨Ao, co, rfl⟩ := Kd.R_slice ho
      exact ⟨Ao, co, v', rfl, hr, hB.trans hb⟩
    have HW6 := Aside0.mk hW6
    clear hW6
    cases hi with
    | true =>
      obtain ⟨k, hkd⟩ : ∃ k, k = 1025 + mo % 64511 := ⟨_, rfl⟩
      have hk0 : 0 ≤ k := by omega
      have hk1 : k ≤ 65535 := by omega
      have hk2 : 1025 ≤ k := by omega
      have Hkd := Aside0.mk hkd
      clear hkd
      go_wp2_with fail
      rw [← Hkd.out]
      have hWk : w2.alloc (.cells #[.int .u8 0, .int .u8 1, .int .u8 9, .int .u8 (k / 256), .int .u8 (k % 256)] 5) = W6 k := by rw [HW6.out]
      rw [hWk]
      clear hWk
      refine (Hfeed.out k hk0 hk1 (by omega)).mono ?_
      rintro e w3 ⟨Ao, co, v', rfl, hr3, hb3⟩
      obtain ⟨Av, cv, rfl⟩ := hr3.slice
      have hcr0 : w3.cell? ⟨g, 0, none⟩ = some (.slice Av 0 cv) := (blk_cell hr3.1 0).trans rfl
      have hcr1 : w3.cell? ⟨g, 1, none⟩ = some (.bool true) := (blk_cell hr3.1 1).trans rfl
      have HR3 := Aside0.mk hr3
      have HB3 := Aside0.mk hb3
      clear hr3 hb3 Hfeed HR2 HB2 HW6
      go_wp2_with fail
      refine (dead_some g true _ hcr1).mono ?_
      rintro e w' ⟨rfl, rfl⟩
      go_wp2_with fail
      go_loopg [11] ls.length (fun gk iv wr => ∃ k : Nat, k + gk = ls.length ∧ iv = .int .i64 k ∧ Aside0 (wr = w3))
      case atStart => exact ⟨0, by omega, rfl, ⟨rfl⟩⟩
      case round =>
        obtain ⟨k, hk, rfl, HE⟩ := hrel
        have he := HE.out
        subst he
        clear HE
        by_cases hlt : k < ls.length
        · obtain ⟨g1, rfl⟩ : ∃ g1, gk = g1 + 1 := ⟨gk - 1, by omega⟩
          have p1 : 0 ≤ (k : Int) := by omega
          have p2 : (k : Int) < ls.length := by omega
          obtain ⟨ad, A1, c1, rfl, hx1, hl1, hC1⟩ := at_L1 H.out (k : Int) (by omega) (by omega)
          rw [Int.toNat_natCast] at hx1
          obtain ⟨m1, hm1⟩ : ∃ m1, m1 = (rd_L1 ls (k : Int)).length := ⟨_, rfl⟩
          rw [← hm1] at hx1
          have hx2 : wr.cell? (ad.add k) = some (.slice A1 m1 c1) := pw_cell_below HB3.out hx1
          clear hx1 hC1 hl1 hm1
          go_wp2_with fail
          refine (feed_dead _ HR3.out).mono ?_
          rintro e w' ⟨rfl, rfl⟩
          go_wp2_with fail
          refine (held_some g _ _ _ _ hcr0).mono ?_
          rintro e w' ⟨rfl, rfl⟩
          go_wp2_with fail
          go_roundg g1
          case measure => omega
          case rel => exact ⟨k + 1, by omega, by go_num, ⟨rfl⟩⟩
        · go_wp2_with fail
          refine (awake_any _).mono ?_
          rintro e w8 ⟨rfl, hb8⟩
          have HB8 := Aside0.mk (below_step HB3.out hb8)
          clear hb8
          go_wp2_with fail
          go_ret
          exact ⟨rfl, HB8.out⟩
    | false =>
      go_wp2_with fail
      have hWk : w2.alloc (.cells #[.int .u8 0, .int .u8 1, .int .u8 9, .int .u8 0, .int .u8 0] 5) = W6 0 := by rw [HW6.out]; rfl
      rw [hWk]
      clear hWk
      refine (Hfeed.out 0 (by omega) (by omega) (by omega)).mono ?_
      rintro e w3 ⟨Ao, co, v', rfl, hr3, hb3⟩
      obtain ⟨Av, cv, rfl⟩ := hr3.slice
      have hcr0 : w3.cell? ⟨g, 0, none⟩ = some (.slice Av 0 cv) := (blk_cell hr3.1 0).trans rfl
      have hcr1 : w3.cell? ⟨g, 1, none⟩ = some (.bool true) := (blk_cell hr3.1 1).trans rfl
      have HR3 := Aside0.mk hr3
      have HB3 := Aside0.mk hb3
      clear hr3 hb3 Hfeed HR2 HB2 HW6
      go_wp2_with fail
      refine (dead_some g true _ hcr1).mono ?_
      rintro e w' ⟨rfl, rfl⟩
      go_wp2_with fail
      go_loopg [11] ls.length (fun gk iv wr => ∃ k : Nat, k + gk = ls.length ∧ iv = .int .i64 k ∧ Aside0 (wr = w3))
      case atStart => exact ⟨0, by omega, rfl, ⟨rfl⟩⟩
      case round =>
        obtain ⟨k, hk, rfl, HE⟩ := hrel
        have he := HE.out
        subst he
        clear HE
        by_cases hlt : k < ls.length
        · obtain ⟨g1, rfl⟩ : ∃ g1, gk = g1 + 1 := ⟨gk - 1, by omega⟩
          have p1 : 0 ≤ (k : Int) := by omega
          have p2 : (k : Int) < ls.length := by omega
          obtain ⟨ad, A1, c1, rfl, hx1, hl1, hC1⟩ := at_L1 H.out (k : Int) (by omega) (by omega)
          rw [Int.toNat_natCast] at hx1
          obtain ⟨m1, hm1⟩ : ∃ m1, m1 = (rd_L1 ls (k : Int)).length := ⟨_, rfl⟩
          rw [← hm1] at hx1
          have hx2 : wr.cell? (ad.add k) = some (.slice A1 m1 c1) := pw_cell_below HB3.out hx1
          clear hx1 hC1 hl1 hm1
          go_wp2_with fail
          refine (feed_dead _ HR3.out).mono ?_
          rintro e w' ⟨rfl, rfl⟩
          go_wp2_with fail
          refine (held_some g _ _ _ _ hcr0).mono ?_
          rintro e w' ⟨rfl, rfl⟩
          go_wp2_with fail
          go_roundg g1
          case measure => omega
          case rel => exact ⟨k + 1, by omega, by go_num, ⟨rfl⟩⟩
        · go_wp2_with fail
          refine (awake_any _).mono ?_
          rintro e w8 ⟨rfl, hb8⟩
          have HB8 := Aside0.mk (below_step HB3.out hb8)
          clear hb8
          go_wp2_with fail
          go_ret
          exact ⟨rfl, HB8.out⟩
end Go.Proofs.Ytgblihndkhiddaa.Fr
