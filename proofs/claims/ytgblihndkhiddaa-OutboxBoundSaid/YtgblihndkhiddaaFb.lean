/-
What Feed does: the frames that are whole, what waits, whether a length was wrong, as a function of the bytes.
-/
import Derived.Test.YtgblihndkhiddaaFa
namespace Go.Proofs.Ytgblihndkhiddaa.Fr
open Go.RowKit Go.Proofs.YtgblihndkhiddaaW.PrintWords Go.Proofs.YtgblihndkhiddaaW.PrintLast Go.Proofs.YtgblihndkhiddaaW.PrintMore Go.Proofs.Ytgblihndkhiddaa.PFrameFeeds

theorem info32 : (Try.prog.info? 32).map (fun i => (i.zero, i.size, i.bytes)) = some (some (.slice none 0 0), 1, 24) := by kernel_rfl

/-- Frames, what waits, whether a length was wrong. -/
def parse : Nat → List Int → List (List Int) × List Int × Bool
  | 0, b => ([], b, false)
  | k + 1, b =>
    if (sz b).2 = false then ([], b, false)
    else if ¬ (1 ≤ (sz b).1 ∧ (sz b).1 ≤ 1024) then ([], [], true)
    else if (b.length : Int) < 2 + (sz b).1 then ([], b, false)
    else (((b.drop 2).take (sz b).1.toNat) :: (parse k ((b.drop 2).drop (sz b).1.toNat)).1, (parse k ((b.drop 2).drop (sz b).1.toNat)).2)

theorem feed_dead {base g n c : Nat} {v : Value} {bs : List Int} {A : Option Addr} (w : World) (h : Rd w base g v bs true) :
    Calls Try.prog 32 #[.pointer (some ⟨g, 0, none⟩), .slice A n c] w fun e w' => e = .returned (.tuple #[.slice none 0 0, .int .i64 6]) ∧ w = w' := by
  have hc : w.cell? ⟨g, 1, none⟩ = some (.bool true) := (blk_cell h.1 1).trans rfl
  clear h
  go_enter Try.func32, Try.ntmps32
  go_wp2_with fail
  go_step3
  go_wp2_with fail
  refine (dead_some g true _ hc).mono ?_
  rintro e w' ⟨rfl, rfl⟩
  go_wp2_with fail
  rw [Exit.noGoto_ret]
  go_ret2
  exact ⟨rfl, rfl⟩
theorem feed_nil {n c : Nat} {A : Option Addr} (w : World) :
    Calls Try.prog 32 #[.pointer none, .slice A n c] w fun e w' => e = .returned (.tuple #[.slice none 0 0, .int .i64 6]) ∧ w = w' := by
  go_enter Try.func32, Try.ntmps32
  go_wp2_with fail
  go_step3
  go_wp2_with fail
  refine (dead_nil _).mono ?_
  rintro e w' ⟨rfl, rfl⟩
  go_wp2_with fail
  rw [Exit.noGoto_ret]
  go_ret2
  exact ⟨rfl, rfl⟩

theorem fits_yes (m : Int) (h : 1 ≤ m) (h2 : m ≤ 1024) (w : World) : Calls Try.prog 39 #[.int .i64 m] w fun e w' => e = .returned (.bool true) ∧ w = w' := by
  have h3 : decide (1 ≤ m) = true := by simpa using h
  have h4 : decide (m ≤ 1024) = true := by simpa using h2
  go_enter Try.func39, Try.ntmps39
  go_wp2
  go_ret
  exact ⟨rfl, rfl⟩
theorem fits_no (m : Int) (h : ¬ (1 ≤ m ∧ m ≤ 1024)) (w : World) : Calls Try.prog 39 #[.int .i64 m] w fun e w' => e = .returned (.bool false) ∧ w = w' := by
  by_cases h1 : 1 ≤ m
  · have h3 : decide (1 ≤ m) = true := by simpa using h1
    have h4 : decide (m ≤ 1024) = false := by simp; omega
    clear h
    go_enter Try.func39, Try.ntmps39
    go_wp2
    go_ret
    exact ⟨rfl, rfl⟩
  · have h3 : decide (1 ≤ m) = false := by simpa using h1
    clear h
    go_enter Try.func39, Try.ntmps39
    go_wp2
    go_ret
    exact ⟨rfl, rfl⟩
theorem sz_range {bs : List Int} (hby : Byt bs) : 0 ≤ (sz bs).1 ∧ (sz bs).1 ≤ 65535 := by
  match bs with
  | [] => simp [sz]
  | [x] => simp [sz]
  | x :: y :: ys =>
    have hx := hby x (by simp)
    have hy := hby y (by simp)
    simp only [sz]
    omega
theorem sz_long {bs : List Int} {m : Int} (h : sz bs = (m, true)) : 2 ≤ bs.length := by
  match bs with
  | [] => simp [sz] at h
  | [x] => simp [sz] at h
  | x :: y :: ys => simp
theorem parse_short {k : Nat} {b : List Int} {m : Int} (h : sz b = (m, false)) : parse (k + 1) b = ([], b, false) := by
  simp only [parse]
  rw [if_pos (by rw [h])]
theorem parse_wrong {k : Nat} {b : List Int} {m : Int} (h : sz b = (m, true)) (hm : ¬ (1 ≤ m ∧ m ≤ 1024)) : parse (k + 1) b = ([], [], true) := by
  simp only [parse]
  rw [if_neg (by rw [h]; simp), if_pos (by rw [h]; exact hm)]
theorem parse_wait {k : Nat} {b : List Int} {m : Int} (h : sz b = (m, true)) (hm : 1 ≤ m ∧ m ≤ 1024) (hl : (b.length : Int) < 2 + m) : parse (k + 1) b = ([], b, false) := by
  simp only [parse]
  rw [if_neg (by rw [h]; simp), if_neg (by rw [h]; exact fun hn => hn hm), if_pos (by rw [h]; exact hl)]
theorem parse_one {k : Nat} {b : List Int} {m : Int} (h : sz b = (m, true)) (hm : 1 ≤ m ∧ m ≤ 1024) (hl : ¬ (b.length : Int) < 2 + m) :
    parse (k + 1) b = (((b.drop 2).take m.toNat) :: (parse k ((b.drop 2).drop m.toNat)).1, (parse k ((b.drop 2).drop m.toNat)).2) := by
  simp only [parse]
  rw [if_neg (by rw [h]; simp), if_neg (by rw [h]; exact fun hn => hn hm), if_neg (by rw [h]; exact hl), h]
theorem Byt.drop {l : List Int} (h : Byt l) (k : Nat) : Byt (l.drop k) := fun x hx => h x (List.mem_of_mem_drop hx)

set_option maxHeartbeats 2000000 in
theorem feed_live {base g n c : Nat} {v : Value} {bs ys : List Int} {A : Option Addr} (w : World) (h : Rd w base g v bs false) (HR : (Kd.int .u8).C w A n ys) (hby : Byt (bs ++ ys)) (hl : bs.length + ys.length ≤ 1000000000) :
    Calls Try.prog 32 #[.pointer (some ⟨g, 0, none⟩), .slice A n c] w fun e w' => ∃ vo v', e = .returned (.tuple #[vo, .int .i64 (if (parse (bs.length + ys.length + 1) (bs ++ ys)).2.2 = true then 6 else 0)]) ∧
      Rd w' base g v' (parse (bs.length + ys.length + 1) (bs ++ ys)).2.1 (parse (bs.length + ys.length + 1) (bs ++ ys)).2.2 ∧
      (Kd.slice 5 (Kd.int .u8)).R 32 w' w.heap.size (fun k => ¬ Fv g v' k) vo (parse (bs.length + ys.length + 1) (bs ++ ys)).1 ∧ Mv w v v' ∧ Below base w w' ∧ Kept w w' (Fv g v) := by
  have hc : w.cell? ⟨g, 1, none⟩ = some (.bool false) := (blk_cell h.1 1).trans rfl
  have H := Aside0.mk h
  have HRy := Aside0.mk HR
  have Hby := Aside0.mk hby
  have hlt := h.lt
  clear h HR hby
  obtain ⟨P, hP⟩ : ∃ P, P = parse (bs.length + ys.length + 1) (bs ++ ys) := ⟨_, rfl⟩
  rw [← hP]
  have HP := Aside0.mk hP
  clear hP
  go_enter Try.func32, Try.ntmps32
  go_wp2_with fail
  go_step3
  go_wp2_with fail
  refine (dead_some g false _ hc).mono ?_
  rintro e w' ⟨rfl, rfl⟩
  go_wp2_with fail
  refine (more_any _ H.out HRy.out (by omega)).mono ?_
  rintro e w1 ⟨v1, rfl, h1, hm1, hb1, hk1⟩
  have H1 := Aside0.mk h1
  have HM1 := Aside0.mk hm1
  have HB1 := Aside0.mk hb1
  have HK1 := Aside0.mk hk1
  clear h1 hm1 hb1 hk1
  have Hlen : Aside0 ((bs ++ ys).length < bs.length + ys.length + 1 ∧ (bs ++ ys).length ≤ 1000000000) := Aside0.mk (by rw [List.length_append]; omega)
  clear hl
  go_wp2_with fail
  go_step3
  go_wp2_with fail
  go_loopg [6] (bs.length + ys.length + 1) (fun gk o wr => ∃ (vr : Value) (br : List Int) (outs : List (List Int)), Aside0 (Rd wr base g vr br false) ∧ Aside0 ((Kd.slice 5 (Kd.int .u8)).R 32 wr w.heap.size (fun k => ¬ Fv g vr k) o outs) ∧ Aside0 (Mv w v vr) ∧ Aside0 (Below base w wr) ∧ Aside0 (Kept w wr (Fv g v)) ∧
    Aside0 (outs ++ (parse gk br).1 = P.1 ∧ (parse gk br).2 = P.2) ∧ Aside0 (br.length < gk ∧ br.length ≤ 1000000000 ∧ Byt br ∧ outs.length + gk ≤ 1000000001))
  case atStart =>
    exact ⟨v1, bs ++ ys, [], H1, ⟨Kd.R_nil _ _ _ _ _⟩, HM1, HB1, HK1, ⟨by rw [HP.out]; exact ⟨rfl, rfl⟩⟩, ⟨Hlen.out.1, Hlen.out.2, Hby.out, by have := Hlen.out; rw [List.length_append] at this; simp; omega⟩⟩
  case round =>
    clear H1 HM1 HB1 HK1 H HP Hby HRy hc Hlen
    obtain ⟨vr, br, outs, HR, HO, HM, HB, HK, HQ, HL⟩ := hrel
    obtain ⟨⟨m, q⟩, hs⟩ : ∃ p, sz br = p := ⟨_, rfl⟩
    have Hs := Aside0.mk hs
    have hmr := sz_range HL.out.2.2.1
    rw [hs] at hmr
    have hm0 : 0 ≤ m := hmr.1
    have hm1 : m ≤ 65535 := hmr.2
    clear hmr hs
    have hltr := HR.out.lt
    obtain ⟨k1, hk1⟩ : ∃ k1, gk = k1 + 1 := ⟨gk - 1, by have := HL.out.1; omega⟩
    subst hk1
    cases q with
    | false =>
      go_wp2_with fail
      refine (size_any _ HR.out HL.out.2.2.1 (by have := HL.out.2.1; omega)).mono ?_
      rintro e w2 ⟨rfl, hb2⟩
      rw [Hs.out]
      have HB2 := Aside0.mk hb2
      clear hb2
      go_wp2_with fail
      rw [Exit.noGoto_ret]
      go_ret2
      have hq := HQ.out
      rw [parse_short Hs.out] at hq
      obtain ⟨ho, hp⟩ := hq
      have hp1 : P.2.1 = br := by rw [← hp]
      have hp2 : P.2.2 = false := by rw [← hp]
      rw [List.append_nil] at ho
      refine ⟨_, vr, by rw [hp2]; rfl, by rw [hp1, hp2]; exact HR.out.below HB2.out, by rw [← ho]; exact Kd.R_below HO.out HB2.out, HM.out, below_then HB.out ?_ HB2.out, HK.out.below HB2.out⟩
      have := HR.out.2.2
      omega
    | true =>
      have h2l := sz_long Hs.out
      go_wp2_with fail
      refine (size_any _ HR.out HL.out.2.2.1 (by have := HL.out.2.1; omega)).mono ?_
      rintro e w2 ⟨rfl, hb2⟩
      rw [Hs.out]
      have HB2 := Aside0.mk hb2
      clear hb2
      have HR2 := Aside0.mk (HR.out.below HB2.out)
      have HO2 := Aside0.mk (Kd.R_below HO.out HB2.out)
      have HBw2 := Aside0.mk (below_then HB.out (by have := HR.out.2.2; omega) HB2.out)
      have HKw2 := Aside0.mk (HK.out.below HB2.out)
      have hs2 := HB2.out.size
      clear HR HO HB HK
      by_cases hfit : 1 ≤ m ∧ m ≤ 1024
      · obtain ⟨hf1, hf2⟩ := hfit
        obtain ⟨Ar, cr, evr⟩ := HR2.out.slice
        subst evr
        have hcr : w2.cell? ⟨g, 0, none⟩ = some (.slice Ar br.length cr) := (blk_cell HR2.out.1 0).trans rfl
        by_cases hwait : (br.length : Int) < 2 + m
        · have hdw : decide ((br.length : Int) < 2 + m) = true := by simpa using hwait
          go_wp2_with fail
          refine (fits_yes m hf1 hf2 _).mono ?_
          rintro e w' ⟨rfl, rfl⟩
          go_wp2_with fail
          rw [Exit.noGoto_ret]
          go_ret2
          have hq := HQ.out
          rw [parse_wait Hs.out ⟨hf1, hf2⟩ hwait] at hq
          obtain ⟨ho, hp⟩ := hq
          have hp1 : P.2.1 = br := by rw [← hp]
          have hp2 : P.2.2 = false := by rw [← hp]
          rw [List.append_nil] at ho
          exact ⟨_, _, by rw [hp2]; rfl, by rw [hp1, hp2]; exact HR2.out, by rw [← ho]; exact HO2.out, HM.out, HBw2.out, HKw2.out⟩
        · have hdw : decide ((br.length : Int) < 2 + m) = false := by simpa using hwait
          have hlb : br.length ≤ 140737488355320 := by have := HL.out.2.1; omega
          obtain ⟨mn, hmn⟩ := Int.eq_ofNat_of_zero_le hm0
          subst hmn
          have hq := HQ.out
          rw [parse_one Hs.out ⟨hf1, hf2⟩ hwait, Int.toNat_natCast] at hq
          have HQ1 := Aside0.mk hq
          have hwl : mn ≤ (br.drop 2).length := by rw [List.length_drop]; omega
          have Hwl := Aside0.mk hwl
          have Hlb := Aside0.mk hlb
          have Hwait := Aside0.mk hwait
          clear hq hwl hlb hwait HQ
          go_wp2_with fail
          refine (fits_yes mn hf1 hf2 _).mono ?_
          rintro e w' ⟨rfl, rfl⟩
          go_wp2_with fail
          refine (first_any _ HR2.out 2 h2l Hlb.out).mono ?_
          rintro e w3 ⟨u3, v3, rfl, hr3, hu3, hf3, hb3, hk3⟩
          have HR3 := Aside0.mk hr3
          have HF3 := Aside0.mk hf3
          have HB3 := Aside0.mk hb3
          have HK3 := Aside0.mk hk3
          have hs3 := hk3.1
          clear hr3 hu3 hf3 hb3 hk3
          have HO3 := Aside0.mk (Kd.R_bound (Kd.R_kept HO2.out HK3.out (fun k hk => fun e => hk (.inl e))))
          go_wp2_with fail
          refine (first_any _ HR3.out mn Hwl.out (by rw [List.length_drop]; have := Hlb.out; omega)).mono ?_
          rintro e w4 ⟨u4, v4, rfl, hr4, hu4, hf4, hb4, hk4⟩
          obtain ⟨Au, cu, rfl⟩ := Kd.R_slice hu4
          have hLu : (List.take mn (List.drop 2 br)).length = mn := by rw [List.length_take]; have := Hwl.out; omega
          rw [hLu] at hu4 ⊢
          clear hLu
          have HR4 := Aside0.mk hr4
          have HU4 := Aside0.mk (Kd.R_bound hu4)
          have HF4 := Aside0.mk hf4
          have HB4 := Aside0.mk hb4
          have HK4 := Aside0.mk hk4
          have hs4 := hk4.1
          clear hr4 hu4 hf4 hb4 hk4
          have hsw := HKw2.out.1
          have Hol : Aside0 (∀ k, u6.ownBlock = some k → k < w3.heap.size ∧ w.heap.size ≤ k) := Aside0.mk fun k hk => by
            obtain ⟨inner, ho⟩ := Kd.R_own HO3.out
            exact ⟨own_lt ho k hk, own_base ho k hk⟩
          have Hv4 : Aside0 (∀ k, Fv g v4 k → k = g ∨ w3.heap.size ≤ k) := Aside0.mk fun k hk => hk.imp id (HF4.out k)
          have HO4 : Aside0 ((Kd.slice 5 (Kd.int .u8)).R 32 w4 w.heap.size (fun k => ¬ Fv g v4 k) u6 outs) := Aside0.mk (Kd.R_mono (Kd.R_kept HO3.out HK4.out (fun k hk => fun e => hk.1 (.inl e))) (fun k hk hf => by
            rcases Hv4.out k hf with h5 | h5
            · exact hk.1 (.inl h5)
            · have := hk.2.2.1; omega))
          have Hokp : Aside0 (∀ k, (¬ Fv g v4 k ∧ w3.heap.size ≤ k) → (¬ Fv g v4 k) ∧ some k ≠ u6.ownBlock) := Aside0.mk fun k hk => ⟨hk.1, fun e => by have := (Hol.out k e.symm).1; omega⟩
          have Hfresh : Aside0 (∀ k, w4.heap.size ≤ k → ¬ Fv g v4 k) := Aside0.mk fun k hk hf => by have := HR4.out.lt_all k hf; omega
          have Hu5 : Aside0 ((Kd.slice 5 (Kd.int .u8)).M w4 w.heap.size (fun k => ¬ Fv g v4 k ∧ w3.heap.size ≤ k) (List.take mn (List.drop 2 br)) [.slice Au mn cu]) := Aside0.mk ⟨_, rfl, Kd.R_lower (Kd.R_mono HU4.out (fun k hk => ⟨hk.1, hk.2.1⟩)) (by omega)⟩
          have Hlim : Aside0 ((outs.length + 1) * 24 ≤ 140737488355328) := Aside0.mk (by have := HL.out.2.2.2; omega)
          go_wp2_with (first | ((with_reducible refine gate_builtin (b := .append) (xs := #[.tmp 52, .tmp 58]) rfl ?_); at_builtin; refine Kd.R_append (Kd.slice 5 (Kd.int .u8)) (w0 := w4) w.heap.size rfl (.tmp 52) (.tmp 58) 29 32 (.slice none 0 0) 24 rfl Try.underlying29 info32 rfl (by decide) (by omega) u6 outs (List.take mn (List.drop 2 br)) [.slice Au mn cu] (fun k => ¬ Fv g v4 k) (fun k => ¬ Fv g v4 k ∧ w3.heap.size ≤ k) rfl rfl Hu5.out Hokp.out Hfresh.out HO4.out (Below.refl _ _) (by omega) Hlim.out ?_; intro v5 w5 ho5 hb5 hg5 hat5; clear hat5; have HO5 := Aside0.mk ho5; have HB5 := Aside0.mk hb5; have HG5 := Aside0.mk hg5; clear ho5 hb5 hg5))
          go_roundg k1
          case measure => omega
          case rel =>
            have hbg := HR4.out.2.2
            refine ⟨v4, _, outs ++ [List.take mn (List.drop 2 br)], ⟨HR4.out.move fun k hk => HG5.out.block k (HR4.out.lt_all k hk) fun e => ?_⟩, HO5, ⟨fun k hk => .inr (by have := HF4.out k hk; omega)⟩, ⟨((HBw2.out.trans HB3.out).trans HB4.out).trans (HB5.out.mono (by omega))⟩, ⟨?_⟩, ⟨?_⟩, ⟨?_⟩⟩
            · have h6 := Hol.out k e.symm
              rcases Hv4.out k hk with h5 | h5
              · omega
              · omega
            · refine Kept.of_grown HG5.out ((HKw2.out.then_ HK3.out (fun k hk => .inl (.inl hk))).then_ HK4.out (fun k hk => .inl (.inl hk))) (fun k hk => .inr (Hol.out k hk).2)
            · rw [List.append_assoc]
              exact HQ1.out
            · have h7 := HL.out
              refine ⟨?_, ?_, (h7.2.2.1.drop 2).drop mn, ?_⟩
              · rw [List.length_drop, List.length_drop]; omega
              · rw [List.length_drop, List.length_drop]; omega
              · rw [List.length_append]; simp; omega
      · obtain ⟨Ar, cr, evr⟩ := HR2.out.slice
        subst evr
        have hcr0 : w2.cell? ⟨g, 0, none⟩ = some (.slice Ar br.length cr) := (blk_cell HR2.out.1 0).trans rfl
        have hcr1 : w2.cell? ⟨g, 1, none⟩ = some (.bool false) := (blk_cell HR2.out.1 1).trans rfl
        have hfr0 := blk_frozen HR2.out.1 0
        have hfr1 := blk_frozen HR2.out.1 1
        have Hfit := Aside0.mk hfit
        clear hfit
        go_wp2_with fail
        refine (fits_no m Hfit.out _).mono ?_
        rintro e w' ⟨rfl, rfl⟩
        go_wp2_with fail
        rw [Exit.noGoto_ret]
        go_ret2
        have hq := HQ.out
        rw [parse_wrong Hs.out Hfit.out] at hq
        obtain ⟨ho, hp⟩ := hq
        have hp1 : P.2.1 = [] := by rw [← hp]
        have hp2 : P.2.2 = true := by rw [← hp]
        rw [List.append_nil] at ho
        refine ⟨_, .slice none 0 0, by rw [hp2]; rfl, ⟨?_, ?_, HR2.out.2.2⟩, ?_, ?_, ?_, ?_⟩
        · rw [hp2]
          exact blk_set (blk_set HR2.out.1 1 _) 0 _
        · rw [hp1]
          exact Kd.R_nil _ _ _ _ _
        · rw [← ho]
          refine Kd.R_far (p := ⟨g, 0, none⟩) (Kd.R_far (p := ⟨g, 1, none⟩) (Kd.R_mono HO2.out (ok' := fun k => ¬ Fv g (.slice none 0 0) k) fun k hk => ?_) (fun k hk => fun e => hk (.inl e)) _) (fun k hk => fun e => hk (.inl e)) _
          rintro (rfl | hk2)
          · exact hk (.inl rfl)
          · simp [Value.ownBlock] at hk2
        · intro k hk
          simp [Value.ownBlock] at hk
        · exact (HBw2.out.setCell HR2.out.2.2 _).setCell HR2.out.2.2 _
        · exact Kept.setCell (p := ⟨g, 0, none⟩) (Kept.setCell (p := ⟨g, 1, none⟩) HKw2.out (.inl (.inl rfl)) _) (.inl (.inl rfl)) _
end Go.Proofs.Ytgblihndkhiddaa.Fr
