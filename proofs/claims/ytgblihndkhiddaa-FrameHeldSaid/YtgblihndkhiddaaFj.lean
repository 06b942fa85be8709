/-
What feeds (of the laws) answers: the frames of pieces, the bytes that wait, whether a reader is dead: what the pieces together come to.
-/
import Derived.Test.YtgblihndkhiddaaFi
namespace Go.Proofs.Ytgblihndkhiddaa.Fr
set_option linter.unusedVariables false
set_option linter.unusedSimpArgs false
open Go.RowKit Go.Proofs.YtgblihndkhiddaaW.PrintWords Go.Proofs.YtgblihndkhiddaaW.PrintLast Go.Proofs.YtgblihndkhiddaaW.PrintMore Go.Proofs.Ytgblihndkhiddaa.PFrameFeeds

theorem flatten_take_succ {ls : List (List Int)} {k : Nat} (h : k < ls.length) : (ls.take (k + 1)).flatten = (ls.take k).flatten ++ ls[k] := by
  rw [List.take_succ_eq_append_getElem h, List.flatten_append]
  simp
theorem flatten_take_le (ls : List (List Int)) (k : Nat) : (ls.take k).flatten.length ≤ ls.flatten.length := by
  have : ls.flatten = (ls.take k).flatten ++ (ls.drop k).flatten := by rw [← List.flatten_append, List.take_append_drop]
  rw [this, List.length_append]
  omega
theorem flatten_byt {ls : List (List Int)} (h : ∀ l ∈ ls, Byt l) : Byt ls.flatten := fun x hx => by
  obtain ⟨l, hl, hxl⟩ := List.mem_flatten.1 hx
  exact h l hl x hxl
set_option maxRecDepth 100000 in
set_option maxHeartbeats 1500000 in
theorem feedsf_any {n c : Nat} {A : Option Addr} {ls : List (List Int)} (w : World) (HR : (Kd.slice 5 (Kd.int .u8)).C w A n ls) (hby : ∀ l ∈ ls, Byt l) (hm : ls.length ≤ 1000000) (ht : ls.flatten.length ≤ 1000000) :
    Calls Try.prog 36 #[.slice A n c] w fun e w' => ∃ v, e = .returned (.tuple #[v, .int .i64 ((frames ls.flatten).2.1.length : Int), .bool (frames ls.flatten).2.2]) ∧ (Kd.slice 5 (Kd.int .u8)).R 32 w' w.heap.size (fun _ => True) v (frames ls.flatten).1 ∧ Below w.heap.size w w' := by
  obtain rfl := HR.1
  have H := Aside0.mk HR
  have Hby := Aside0.mk hby
  have Ht := Aside0.mk ht
  clear HR hby ht
  obtain ⟨P, hP⟩ : ∃ P, P = frames ls.flatten := ⟨_, rfl⟩
  rw [← hP]
  have HP := Aside0.mk hP
  clear hP
  go_enter Try.func36, Try.ntmps36
  go_wp2_with fail
  refine (new_any _).mono ?_
  rintro e w2 ⟨rfl, hw2⟩
  obtain ⟨g, hg⟩ : ∃ g, g = w.heap.size := ⟨_, rfl⟩
  have HR2 : Aside0 (Rd w2 w.heap.size g (.slice none 0 0) [] false) := ⟨by rw [← hw2, hg]; exact Rd.new w _ (Nat.le_refl _)⟩
  have HB2 : Aside0 (Below w.heap.size w w2) := ⟨by rw [← hw2]; exact below_alloc (Below.refl _ _) _⟩
  rw [← hg]
  clear hw2 hg
  go_wp2_with fail
  go_loopg [6, 7] ls.length (fun gk ov iv wr => ∃ (k : Nat) (vr : Value), k + gk = ls.length ∧ iv = .int .i64 k ∧
    Aside0 (Rd wr w.heap.size g vr (frames (ls.take k).flatten).2.1 (frames (ls.take k).flatten).2.2) ∧ Aside0 ((Kd.slice 5 (Kd.int .u8)).R 32 wr w.heap.size (fun k => ¬ Fv g vr k) ov (frames (ls.take k).flatten).1) ∧ Aside0 (Below w.heap.size w wr))
  case atStart => exact ⟨0, .slice none 0 0, by omega, rfl, ⟨by rw [List.take_zero, List.flatten_nil, frames_nil]; exact HR2.out⟩, ⟨by rw [List.take_zero, List.flatten_nil, frames_nil]; exact Kd.R_nil _ _ _ _ _⟩, HB2⟩
  case round =>
    obtain ⟨k, vr, hk, rfl, HRr, HO, HB⟩ := hrel
    clear HR2 HB2
    by_cases hlt : k < ls.length
    · obtain ⟨g1, rfl⟩ : ∃ g1, gk = g1 + 1 := ⟨gk - 1, by omega⟩
      have p1 : 0 ≤ (k : Int) := by omega
      have p2 : (k : Int) < ls.length := by omega
      obtain ⟨ad, A1, c1, rfl, hx1, hl1, hC1⟩ := at_L1 H.out (k : Int) (by omega) (by omega)
      have hll : rd_L1 ls (k : Int) = ls[k] := rd_L1_nat ls k hlt
      rw [hll] at hx1 hl1 hC1
      rw [Int.toNat_natCast] at hx1
      have hyb := Hby.out ls[k] (List.getElem_mem _)
      have hfl := flatten_take_succ hlt
      have hle1 := flatten_take_le ls (k + 1)
      obtain ⟨l, hl⟩ : ∃ l, l = ls[k] := ⟨_, rfl⟩
      rw [← hl] at hx1 hl1 hC1 hyb hfl
      rw [hfl, List.length_append] at hle1
      have hab : Byt (ls.take k).flatten := flatten_byt (fun x hx => Hby.out x (List.mem_of_mem_take hx))
      obtain ⟨all, hall⟩ : ∃ all, all = (ls.take k).flatten := ⟨_, rfl⟩
      rw [← hall] at hfl hle1 hab
      have hR' := HRr.out
      have hO' := HO.out
      rw [← hall] at hR' hO'
      have happ := frames_append all.length all l (Nat.le_refl _)
      have hrb := frames_byt _ all (Nat.le_refl _) hab
      have hrl := frames_rest _ all (Nat.le_refl _)
      obtain ⟨⟨F0, R0, d⟩, hX0⟩ : ∃ p, frames all = p := ⟨_, rfl⟩
      rw [hX0] at hR' hO' happ hrb hrl
      have Hfl := Aside0.mk hfl
      have HC1 := Aside0.mk hC1
      have Hyb := Aside0.mk hyb
      have Hle := Aside0.mk (Nat.le_trans hle1 Ht.out)
      have Happ := Aside0.mk happ
      have Hrb := Aside0.mk hrb
      have Hrl := Aside0.mk hrl
      have HR2 := Aside0.mk hR'
      have HO2 := Aside0.mk hO'
      have hx2 : wr.cell? (ad.add k) = some (.slice A1 l.length c1) := pw_cell_below HB.out hx1
      have Hsw := Aside0.mk HB.out.size
      have hdd : d = true → R0 = [] := fun h => by
        have := frames_dead _ all (Nat.le_refl _) (by rw [hX0]; exact h)
        rw [hX0] at this
        exact this
      have Hdd := Aside0.mk hdd
      have hfew := frames_few _ all (Nat.le_refl _)
      rw [hX0] at hfew
      have Hfew := Aside0.mk hfew
      clear hR' hO' happ hrb hrl hX0 hab hfl hle1 hyb hC1 hx1 hall hl hll HRr HO hdd hfew
      obtain ⟨m1, hm1⟩ : ∃ m1, m1 = l.length := ⟨_, rfl⟩
      rw [← hm1] at hx2 hl1
      have Hm1 := Aside0.mk hm1
      clear hm1
      cases d with
      | true =>
        have hR0 : R0 = [] := Hdd.out rfl
        subst hR0
        go_wp2_with fail
        refine (feed_dead _ HR2.out).mono ?_
        rintro e w' ⟨rfl, rfl⟩
        have Hlim : Aside0 ((F0.length + 0) * 24 ≤ 140737488355328) := ⟨by have := Hfew.out; have := Hle.out; omega⟩
        have Hfresh : Aside0 (∀ k, wr.heap.size ≤ k → ¬ Fv g vr k) := ⟨fun k hk hf => by have := HR2.out.lt_all k hf; omega⟩
        go_wp2_with (first | ((with_reducible refine gate_builtin (b := .append) (xs := #[.tmp 26, .tmp 27]) rfl ?_); at_builtin; refine Kd.R_append_rows (Kd.slice 5 (Kd.int .u8)) (Rr := ((Kd.slice 5 (Kd.int .u8)).M wr w.heap.size (fun _ => False))) (w0 := wr) (w.heap.size) rfl (.tmp 26) (.tmp 27) 29 32 (.slice none 0 0) 24 rfl Try.underlying29 info32 rfl (by decide) (by omega) (u6) (F0) (([] : List (List Int))) (none) (0) (0) (fun k => ¬ Fv g vr k) (fun _ => False) rfl rfl (HO2.out) (⟨rfl, by omega, fun h => absurd h (by omega)⟩) (fun _ _ h => h) (fun _ h => h.elim) (Hfresh.out) (Below.refl _ _) (Hsw.out) Hlim.out ?_; intro v5 w5 ho_ hb_ hg_ hat_; have HG5 := Aside0.mk hg_; clear hg_ hat_; have HO5 := Aside0.mk ho_; have HB5 := Aside0.mk hb_; clear ho_ hb_))
        go_roundg g1
        case measure => omega
        case rel =>
          refine ⟨k + 1, vr, by omega, by go_num, ⟨?_⟩, ⟨?_⟩, ⟨HB.out.trans HB5.out⟩⟩
          · rw [Hfl.out, Happ.out.2 (by simp)]
            exact HR2.out.move fun k hk => HG5.out.block k (HR2.out.lt_all k hk) fun e => HO2.out.1 k e.symm hk
          · rw [Hfl.out, Happ.out.2 (by simp)]
            have := HO5.out
            rw [List.append_nil] at this
            exact this
      | false =>
        obtain ⟨⟨F, R2, q⟩, hX⟩ : ∃ p, frames (R0 ++ l) = p := ⟨_, rfl⟩
        have hx := Happ.out.1 rfl
        simp only [hX] at hx
        have Hx := Aside0.mk hx
        have HX := Aside0.mk hX
        have hfw := frames_few _ (R0 ++ l) (Nat.le_refl _)
        rw [hX, List.length_append] at hfw
        have Hfw := Aside0.mk hfw
        clear hx hX hfw
        go_wp2_with fail
        refine (feed_any _ HR2.out (by rw [Hm1.out]; exact Kd.C_below HC1.out HB.out) (Byt.append Hrb.out Hyb.out) (by have := Hrl.out; have := Hle.out; omega)).mono ?_
        rintro e w3 ⟨vo, v', rfl, hr3, ho3, hm3, hb3, hk3⟩
        rw [HX.out] at hr3 ho3
        rw [HX.out]
        obtain ⟨er, her⟩ : ∃ er : Int, er = (if q = true then 6 else 0) := ⟨_, rfl⟩
        rw [← her]
        clear her
        have HB3 := Aside0.mk (HB.out.trans hb3)
        have hsr := hk3.1
        have HO3 : Aside0 ((Kd.slice 5 (Kd.int .u8)).R 32 w3 w.heap.size (fun k => ¬ Fv g v' k ∧ k < wr.heap.size) u6 F0) := ⟨Kd.R_mono (Kd.R_kept (Kd.R_bound HO2.out) hk3 (fun k hk => hk.1)) (fun k hk => ⟨fun hf => by
          rcases hf with rfl | hf
          · exact hk.1 (.inl rfl)
          · rcases hm3 k hf with h5 | h5
            · exact hk.1 (.inr h5)
            · have := hk.2.2.1; omega, hk.2.2.1⟩)⟩
        have HR3 := Aside0.mk hr3
        obtain ⟨Ao, co, rfl, hlo, hrow⟩ := OwnRow.reads ho3.2
        have HRow := Aside0.mk hrow
        have HVb := Aside0.mk (Kd.R_bound ho3)
        have Hfr : Aside0 (∀ k, w3.heap.size ≤ k → ¬ Fv g v' k) := ⟨fun k hk hf => by have := HR3.out.lt_all k hf; omega⟩
        have Hlim : Aside0 ((F0.length + F.length) * 24 ≤ 140737488355328) := ⟨by have := Hfew.out; have := Hle.out; have := Hfw.out; have := Hrl.out; omega⟩
        have Hsw3 : Aside0 (w.heap.size ≤ wr.heap.size) := Hsw
        clear hr3 ho3 hm3 hb3 hk3 hx2 HO2 HR2 HX hlo
        go_wp2_with (first | ((with_reducible refine gate_builtin (b := .append) (xs := #[.tmp 26, .tmp 27]) rfl ?_); at_builtin; refine Kd.R_append_rows (Kd.slice 5 (Kd.int .u8)) (Rr := ((Kd.slice 5 (Kd.int .u8)).M w3 wr.heap.size (fun k => (¬ Fv g v' k) ∧ some k ≠ (Value.slice Ao F.length co).ownBlock))) (w0 := w) (w.heap.size) rfl (.tmp 26) (.tmp 27) 29 32 (.slice none 0 0) 24 rfl Try.underlying29 info32 rfl (by decide) (by omega) (u6) (F0) (F) (Ao) (F.length) (co) (fun k => ¬ Fv g v' k) (fun k => ¬ Fv g v' k ∧ wr.heap.size ≤ k) rfl rfl (Kd.R_mono HO3.out (fun k hk => hk.1)) (HRow.out) (fun _ _ h => (Kd.slice 5 (Kd.int .u8)).M_lower Hsw3.out ((Kd.slice 5 (Kd.int .u8)).M_mono (fun k hk => ⟨hk.1.1, hk.2.1⟩) ((Kd.slice 5 (Kd.int .u8)).M_bound h))) (fun k hk => ⟨hk.1, fun e => by have := (HO3.out.1 k e.symm).2; omega⟩) (Hfr.out) (HB3.out) (HB3.out.size) Hlim.out ?_; intro v5 w5 ho_ hb_ hg_ hat_; have HG5 := Aside0.mk hg_; clear hg_ hat_; have HO5 := Aside0.mk ho_; have HB5 := Aside0.mk hb_; clear ho_ hb_))
        go_roundg g1
        case measure => omega
        case rel =>
          refine ⟨k + 1, v', by omega, by go_num, ⟨?_⟩, ⟨?_⟩, HB5⟩
          · rw [Hfl.out, Hx.out]
            exact HR3.out.move fun k hk => HG5.out.block k (HR3.out.lt_all k hk) fun e => (HO3.out.1 k e.symm).1 hk
          · rw [Hfl.out, Hx.out]
            exact HO5.out
    · have hk2 : (ls.take k).flatten = ls.flatten := by rw [List.take_of_length_le (by omega)]
      have hR' := HRr.out
      have hO' := HO.out
      rw [hk2, ← HP.out] at hR' hO'
      have HR2 := Aside0.mk hR'
      have HO2 := Aside0.mk hO'
      clear hR' hO' HRr HO hk2
      obtain ⟨F, R0, d⟩ := P
      obtain ⟨Av, cv, rfl⟩ := HR2.out.slice
      have hcr0 : wr.cell? ⟨g, 0, none⟩ = some (.slice Av R0.length cv) := (blk_cell HR2.out.1 0).trans rfl
      have hcr1 : wr.cell? ⟨g, 1, none⟩ = some (.bool d) := (blk_cell HR2.out.1 1).trans rfl
      go_wp2_with fail
      refine (held_some g _ _ _ _ hcr0).mono ?_
      rintro e w' ⟨rfl, rfl⟩
      go_wp2_with fail
      refine (dead_some g d _ hcr1).mono ?_
      rintro e w' ⟨rfl, rfl⟩
      go_wp2_with fail
      go_ret3
      exact ⟨_, rfl, Kd.R_mono HO2.out (fun _ _ => trivial), HB.out⟩
end Go.Proofs.Ytgblihndkhiddaa.Fr
