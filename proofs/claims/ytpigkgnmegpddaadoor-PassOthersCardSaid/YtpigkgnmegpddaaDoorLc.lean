/-
few; ShaParts, walked.
-/
import Derived.Test.YtpigkgnmegpddaaDoorLa
namespace Go.Proofs.YtpigkgnmegpddaaDoor.Sh
set_option linter.unusedVariables false
set_option linter.unusedSimpArgs false
open Go.RowKit Go.Proofs.YtpigkgnmegpddaaDoorW.PrintWords Go.Proofs.YtpigkgnmegpddaaDoorW.PrintLast Go.Proofs.YtpigkgnmegpddaaDoorW.PrintMore

/-- Are parts few and short? -/
def fewB (N : Nat) (ps : List (List Int)) : Bool := ps.all (fun p => decide (p.length ≤ 200)) && decide (ps.length ≤ N)
theorem fewB_true {N : Nat} {ps : List (List Int)} (h : fewB N ps = true) : (∀ p ∈ ps, p.length ≤ 200) ∧ ps.length ≤ N := by
  unfold fewB at h
  rw [Bool.and_eq_true] at h
  exact ⟨fun p hp => by simpa using List.all_eq_true.1 h.1 p hp, by simpa using h.2⟩
theorem fewB_sum {N : Nat} {ps : List (List Int)} (h : fewB N ps = true) : (ps.map List.length).sum ≤ 200 * N := by
  obtain ⟨h1, h2⟩ := fewB_true h
  have : ∀ l : List (List Int), (∀ p ∈ l, p.length ≤ 200) → (l.map List.length).sum ≤ 200 * l.length := by
    intro l
    induction l with
    | nil => intro _; simp
    | cons p l ih =>
      intro hl
      have := ih (fun q hq => hl q (List.mem_cons_of_mem _ hq))
      have := hl p (List.mem_cons_self ..)
      simp only [List.map_cons, List.sum_cons, List.length_cons]
      omega
  have := this ps h1
  omega
theorem fewB_long {N : Nat} {ps : List (List Int)} {k : Nat} (hk : k < ps.length) (h : 200 < (ps.getD k []).length) : fewB N ps = false := by
  have : ps.all (fun p => decide (p.length ≤ 200)) = false := by
    rw [Bool.eq_false_iff]
    intro ha
    have := List.all_eq_true.1 ha ps[k] (List.getElem_mem _)
    rw [List.getD_eq_getElem?_getD, List.getElem?_eq_getElem hk] at h
    simp at this h
    omega
  unfold fewB
  rw [this]
  rfl
theorem fewB_short {N : Nat} {ps : List (List Int)} (h : ∀ j, j < ps.length → (ps.getD j []).length ≤ 200) : fewB N ps = decide (ps.length ≤ N) := by
  have : ps.all (fun p => decide (p.length ≤ 200)) = true := by
    rw [List.all_eq_true]
    intro p hp
    obtain ⟨j, hj, rfl⟩ := List.getElem_of_mem hp
    have := h j hj
    rw [List.getD_eq_getElem?_getD, List.getElem?_eq_getElem hj] at this
    simpa using this
  unfold fewB
  rw [this]
  rfl
set_option maxRecDepth 100000 in
theorem few_any {A : Option Addr} {n c : Nat} {ps : List (List Int)} (w : World) (hC : (Kd.slice 27 (Kd.int .u8)).C w A n ps) :
    Calls Tryd.prog 26 #[.slice A n c] w fun e w' => e = .returned (.bool (fewB 20 ps)) ∧ w = w' := by
  have HC := Aside0.mk hC
  have Hn := Aside0.mk hC.1
  have hnm := hC.2.1
  clear hC
  obtain ⟨F, hF⟩ : ∃ F, F = fewB 20 ps := ⟨_, rfl⟩
  have HF := Aside0.mk hF
  rw [← hF]
  clear hF
  go_enter Tryd.func26, Tryd.ntmps26
  go_wp2_with fail
  go_loopg [3] n (fun gk iv wr => ∃ k : Nat, k + gk = n ∧ iv = .int .i64 k ∧ w = wr ∧ Aside0 (∀ j, j < k → (ps.getD j []).length ≤ 200))
  case atStart => exact ⟨0, by omega, rfl, rfl, ⟨fun j hj => by omega⟩⟩
  case round =>
    obtain ⟨k, hk, rfl, rfl, HV⟩ := hrel
    by_cases hlt : k < n
    · obtain ⟨gq, rfl⟩ : ∃ gq, gk = gq + 1 := ⟨gk - 1, by omega⟩
      obtain ⟨ad, Ap, cp, rfl, hp1, hp2, hp3⟩ := part_get HC.out k hlt
      obtain ⟨L, hL⟩ : ∃ L, L = (ps.getD k []).length := ⟨_, rfl⟩
      rw [← hL] at hp1
      have HL := Aside0.mk hL
      have hLm : L ≤ 9223372036854775807 := by rw [hL]; exact hp3.2.1
      clear hL hp2 hp3
      have p1 : (0 : Int) ≤ (k : Int) := by omega
      by_cases h200 : 200 < L
      · have hFf : F = false := by rw [HF.out]; exact fewB_long (by rw [Hn.out]; exact hlt) (by rw [← HL.out]; exact h200)
        subst hFf
        go_wp2_with fail
        go_ret
        exact ⟨rfl, rfl⟩
      · have h200i : (L : Int) ≤ 200 := by omega
        go_wp2_with fail
        go_roundg gq
        case measure => omega
        case rel =>
          refine ⟨k + 1, by omega, by go_num, rfl, ⟨fun j hj => ?_⟩⟩
          rcases Nat.lt_or_ge j k with h | h
          · exact HV.out j h
          · obtain rfl : j = k := by omega
            rw [← HL.out]; omega
    · have hkn : k = n := by omega
      subst hkn
      have hFt : F = decide (k ≤ 20) := by rw [HF.out, fewB_short (fun j hj => HV.out j (by rw [← Hn.out]; exact hj)), Hn.out]
      subst hFt
      go_wp2_with fail
      go_ret
      exact ⟨congrArg (fun b => Ending.returned (.bool b)) (decide_eq_decide.2 (by omega)), rfl⟩
/-- A hash and all its bytes, beside one another. -/
structure Pm (w wr : World) (ge : Nat) (va v : Value) (B : List Int) : Prop where
  h : Hh wr w.heap.size ge v (Hv.of B)
  a : Own wr w.heap.size va B
  ap : ∀ k, va.ownBlock = some k → ¬ Fv ge v k
  bel : Below w.heap.size w wr
theorem Pm.below {w wr wr' : World} {ge : Nat} {va v : Value} {B : List Int} (H : Pm w wr ge va v B) (hb : Below wr.heap.size wr wr') : Pm w wr' ge va v B :=
  ⟨H.h.below hb, Kd.R_below H.a hb, H.ap, below_step H.bel hb⟩
/-- One part written to the hash, and appended. -/
theorem Pm.both {w wr w1 w2 : World} {ge : Nat} {va va' v v' : Value} {B p : List Int} (H : Pm w wr ge va v B) (hW : Wr wr w1 w.heap.size ge v v' (Hv.of (B ++ p)))
    (ho : Own w2 w.heap.size va' (B ++ p)) (hb : Below w.heap.size w w2) (hg : w1.grownBy w2 va.ownBlock) (hat : va'.ownBlock = va.ownBlock ∨ ∃ b, va'.ownBlock = some b ∧ w1.heap.size ≤ b) : Pm w w2 ge va' v' (B ++ p) := by
  have hap : ∀ k, Fv ge v' k → some k ≠ va.ownBlock := fun k hk he => by
    rcases hk with rfl | hk
    · exact H.ap k he.symm (.inl rfl)
    · rcases hW.mv k hk with h | h
      · exact H.ap k he.symm (.inr h)
      · have := Kd.R_lt H.a k he.symm
        omega
  refine ⟨hW.h.move fun k hk => hg.block k (hW.h.lt_all k hk) (hap k hk), ho, fun k hk hf => ?_, hb⟩
  rcases hat with h | ⟨b, h, hle⟩
  · exact hap k hf (by rw [← h, hk])
  · rw [h] at hk
    injection hk with hk
    have := hW.h.lt_all k hf
    omega
theorem take_flat {ps : List (List Int)} {k : Nat} (hk : k < ps.length) : (ps.take (k + 1)).flatten = (ps.take k).flatten ++ ps.getD k [] := by
  rw [List.take_succ_eq_append_getElem hk, List.flatten_append, List.getD_eq_getElem?_getD, List.getElem?_eq_getElem hk]
  simp
theorem flat_le {ps : List (List Int)} (k : Nat) : (ps.take k).flatten.length ≤ (ps.map List.length).sum := by
  rw [List.length_flatten]
  have h : ps = ps.take k ++ ps.drop k := (List.take_append_drop k ps).symm
  have h2 : (ps.map List.length).sum = ((ps.take k).map List.length).sum + ((ps.drop k).map List.length).sum := by
    conv => lhs; rw [h]
    rw [List.map_append, List.sum_append]
  omega
theorem flat_byt {ps : List (List Int)} (h : ∀ p ∈ ps, Byt p) (k : Nat) : Byt (ps.take k).flatten := fun x hx => by
  obtain ⟨p, hp, hx⟩ := List.mem_flatten.1 hx
  exact h p (List.mem_of_mem_take hp) x hx
set_option maxRecDepth 100000 in
set_option maxHeartbeats 4000000 in
theorem parts_law {A : Option Addr} {n c : Nat} {ps : List (List Int)} (w : World) (hT : Tab w) (hC : (Kd.slice 5 (Kd.int .u8)).C w A n ps) (hc : n ≤ c) (hby : ∀ p ∈ ps, Byt p) :
    Calls Tryd.prog 5 #[.slice A n c] w fun e w' => e = .returned (.bool true) ∧ Below w.heap.size w w' := by
  have HT := Aside0.mk hT
  have HC := Aside0.mk (show (Kd.slice 27 (Kd.int .u8)).C w A n ps from hC)
  have Hby := Aside0.mk hby
  have Hn := Aside0.mk hC.1
  have hnm := hC.2.1
  clear hT hC hby
  obtain ⟨F, hF⟩ : ∃ F, F = fewB 20 ps := ⟨_, rfl⟩
  cases F with
  | false =>
    go_enter Tryd.func5, Tryd.ntmps5
    go_wp2_with fail
    refine (few_any _ HC.out).mono ?_
    rintro e w' ⟨rfl, rfl⟩
    rw [← hF]
    clear hF
    go_wp2_with fail
    go_ret
    exact ⟨rfl, Below.refl _ _⟩
  | true =>
    have Hsum := Aside0.mk (fewB_sum hF.symm)
    have hn20 : n ≤ 20 := by rw [← Hn.out]; exact (fewB_true hF.symm).2
    have hg30 := guard30
    go_enter Tryd.func5, Tryd.ntmps5
    go_wp2_with fail
    refine (few_any _ HC.out).mono ?_
    rintro e w' ⟨rfl, rfl⟩
    rw [← hF]
    clear hF
    go_wp2_with fail
    refine (new_any _ HT.out).mono ?_
    rintro e w1 ⟨rfl, h1, hb1⟩
    obtain ⟨ge, hge⟩ : ∃ g, g = w.heap.size := ⟨_, rfl⟩
    have HP : Aside0 (Pm w w1 ge (.slice none 0 0) (.slice none 0 0) (ps.take 0).flatten) := ⟨⟨by rw [List.take_zero, List.flatten_nil, ← Hv.new_eq, hge]; exact h1, Kd.R_nil _ _ _ _ _, (fun k hk => by cases hk), hb1⟩⟩
    rw [← hge]
    have Hge := Aside0.mk hge
    clear h1 hb1 hge
    go_wp2_with fail
    go_loopg [4, 5] n (fun gk va iv wr => ∃ (k : Nat) (v : Value), k + gk = n ∧ iv = .int .i64 k ∧ Aside0 (Pm w wr ge va v (ps.take k).flatten))
    case atStart => exact ⟨0, _, by omega, rfl, HP⟩
    case round =>
      clear HP
      obtain ⟨k, v, hk, rfl, HP⟩ := hrel
      by_cases hlt : k < n
      · obtain ⟨gq, rfl⟩ : ∃ gq, gk = gq + 1 := ⟨gk - 1, by omega⟩
        obtain ⟨wo, hwo⟩ : ∃ wo, wo = wr := ⟨_, rfl⟩
        subst hwo
        have hCo := (Rp.came (S := fun _ => False) HC.out HP.out.bel (fun _ h => h.elim)).now
        obtain ⟨ad, Ap, cp, rfl, hp1, hp2, hp3⟩ := part_get hCo k hlt
        obtain ⟨_, Ap2, cp2, he, hq1, hq2, hq3⟩ := part_get HC.out k hlt
        injection he with he
        subst he
        have hsame := pw_cell_below HP.out.bel hq1
        rw [hp1] at hsame
        injection hsame with hsame
        injection hsame with hA hl hcp
        subst hA; subst hcp
        obtain ⟨p, hp⟩ : ∃ p, p = ps.getD k [] := ⟨_, rfl⟩
        rw [← hp] at hp1 hq1 hq2 hq3
        have HQ1 := Aside0.mk hq1
        obtain ⟨A4, c4, rfl⟩ := Kd.R_slice HP.out.a
        have hkl : k < ps.length := by rw [Hn.out]; exact hlt
        have Hpb : Aside0 (Byt p) := ⟨by rw [hp, List.getD_eq_getElem?_getD, List.getElem?_eq_getElem hkl]; exact Hby.out _ (List.getElem_mem _)⟩
        obtain ⟨B, hB⟩ : ∃ B, B = (ps.take k).flatten := ⟨_, rfl⟩
        have HBn : Aside0 ((ps.take (k + 1)).flatten = B ++ p) := ⟨by rw [take_flat hkl, hB, hp]⟩
        have HBl : Aside0 ((B ++ p).length ≤ 4000) := ⟨by rw [← HBn.out]; have := flat_le (ps := ps) (k + 1); have := Hsum.out; omega⟩
        have HBb : Aside0 (Byt (B ++ p)) := ⟨by rw [← HBn.out]; exact flat_byt Hby.out _⟩
        rw [← hB] at HP ⊢
        have HQ3 := Aside0.mk hq3
        have hpl : p.length ≤ 4000 := by have := HBl.out; rw [List.length_append] at this; omega
        clear hp hB hp2 hp3 hq1 hl hq3 hkl hCo
        have p1 : (0 : Int) ≤ (k : Int) := by omega
        go_wp2_with fail
        have hbA := below_alloc (Below.refl wo.heap.size wo) (.cells #[.slice Ap p.length cp] 27)
        refine (write_any (base := w.heap.size) (ps := [p]) _ (HP.out.h.below hbA) (HT.out.below (below_step HP.out.bel hbA)) HT.out.t.2.2
          (parts_one (heap_alloc_new _ _) (fun hf => by have := HP.out.h.lt_all _ hf; omega) (Rd.came HQ3.out (below_step HP.out.bel hbA) (fun k hk => HP.out.h.base_all k hk)) hq2) (fun q hq => by rw [List.mem_singleton.1 hq]; exact Hpb.out) (Hv.of_rest _) (by rw [Hv.of_m]; have := HBl.out; rw [List.length_append] at this; simp; omega)).mono ?_
        rintro e w3 ⟨v3, rfl, hW⟩
        have HW := Aside0.mk hW
        rw [show [p].foldl Hv.put (Hv.of B) = Hv.of (B ++ p) from Hv.of_put B p] at HW
        have HPa := Aside0.mk (HP.out.below hbA)
        have hk3 : Aside0 (Own w3 w.heap.size (.slice A4 B.length c4) B) := ⟨Kd.R_mono (Kd.R_kept (Kd.R_tight rfl HPa.out.a) hW.kept (fun k hk => HPa.out.ap k hk.symm)) (fun _ _ => trivial)⟩
        have HB3 : Aside0 (Below w.heap.size w w3) := ⟨HPa.out.bel.trans hW.bel⟩
        clear hW hbA
        have hp3 := pw_cell_below HB3.out HQ1.out
        have hbw3 := HB3.out.size
        have Hlim : Aside0 ((B.length + p.length) * 1 ≤ 140737488355328) := ⟨by have := HBl.out; rw [List.length_append] at this; omega⟩
        go_wp2_with (first | ((with_reducible refine gate_builtin (b := .append) (xs := #[.tmp 25, .tmp 29]) rfl ?_); at_builtin; refine Kd.R_append_row (Value.int .u8) (0 : Int) (w0 := w) (w.heap.size) rfl (.tmp 25) (.tmp 29) 27 5 (.int .u8 0) 1 rfl Tryd.underlying27 info5z rfl (by decide) (.slice A4 B.length c4) (B) (p) (Ap) (p.length) (cp) (fun _ => True) rfl rfl (fun _ _ => trivial) (hk3.out) ((Rd.came (S := fun _ => False) HQ3.out HB3.out (fun _ h => h.elim)).now) (HB3.out) (hbw3) Hlim.out ?_; intro v4 w4 ho_ hb_ hg_ hat_; have HG4 := Aside0.mk hg_; have HA4 := Aside0.mk hat_; clear hg_ hat_; have HO4 := Aside0.mk ho_; have HB4 := Aside0.mk hb_; clear ho_ hb_))
        have HP4 := Aside0.mk (HPa.out.both HW.out HO4.out HB4.out HG4.out HA4.out)
        clear HO4 HB4 HG4 HA4 HW HPa hk3 HB3 hp3 hbw3 Hlim HP hp1
        refine (hsum_any _ HP4.out.h (HT.out.below HP4.out.bel) (Hv.of_rest _) (by rw [Hv.of_m]; have := HBl.out; omega)).mono ?_
        rintro e w5 ⟨rfl, hb5⟩
        rw [Hv.of_sum]
        have HP5 := Aside0.mk (HP4.out.below hb5)
        clear hb5 HP4
        obtain ⟨bs, hbs⟩ : ∃ bs, bs = sum (B ++ p) := ⟨_, rfl⟩
        have Hbs := Aside0.mk hbs
        have heq := fun w => eq30 bs bs (by rw [hbs]; rfl) (by rw [hbs]; rfl) w
        simp only [decide_true] at heq
        rw [← hbs]
        clear hbs
        obtain ⟨A5, c5, rfl, hle5, hC5⟩ := Kd.R_reads HP5.out.a
        obtain ⟨M, hM⟩ : ∃ M, M = (B ++ p).length := ⟨_, rfl⟩
        rw [← hM] at HP5 hle5 hC5 ⊢
        have HM := Aside0.mk hM
        have HC5 := Aside0.mk hC5
        clear hM hC5
        go_wp2_with fail
        refine (sum_one (xs := B ++ p) (HT.out.below HP5.out.bel) HC5.out hle5 HBb.out (by have := HBl.out; omega) rfl).mono ?_
        rintro e w6 ⟨rfl, hb6⟩
        have HP6 := Aside0.mk (HP5.out.below hb6)
        rw [← Hbs.out]
        clear hb6 HP5 HC5 hle5
        go_wp2_with fail
        go_roundg gq
        case measure => omega
        case rel => exact ⟨k + 1, v3, by omega, by go_num, by rw [HBn.out]; exact HP6⟩
      · have hkn : k = n := by omega
        subst hkn
        obtain ⟨B, hB⟩ : ∃ B, B = ps.flatten := ⟨_, rfl⟩
        have hBt : (ps.take k).flatten = B := by rw [hB, List.take_of_length_le (by rw [Hn.out]; exact Nat.le_refl _)]
        have HBl : Aside0 (B.length ≤ 4000) := ⟨by rw [← hBt]; have := flat_le (ps := ps) k; have := Hsum.out; omega⟩
        have HBb : Aside0 (Byt B) := ⟨by rw [← hBt]; exact flat_byt Hby.out _⟩
        rw [hBt] at HP
        have HB := Aside0.mk hB
        clear hBt hB
        obtain ⟨bs, hbs⟩ : ∃ bs, bs = sum B := ⟨_, rfl⟩
        have Hbs := Aside0.mk hbs
        have heq := fun w => eq30 bs bs (by rw [hbs]; rfl) (by rw [hbs]; rfl) w
        simp only [decide_true] at heq
        clear hbs
        obtain ⟨A5, c5, rfl, hle5, hC5⟩ := Kd.R_reads HP.out.a
        obtain ⟨M, hM⟩ : ∃ M, M = B.length := ⟨_, rfl⟩
        rw [← hM] at HP hle5 hC5 ⊢
        have HM := Aside0.mk hM
        clear hM hC5
        go_wp2_with fail
        refine (hsum_any _ HP.out.h (HT.out.below HP.out.bel) (Hv.of_rest _) (by rw [Hv.of_m]; have := HBl.out; omega)).mono ?_
        rintro e w5 ⟨rfl, hb5⟩
        rw [Hv.of_sum, ← Hbs.out]
        have HP5 := Aside0.mk (HP.out.below hb5)
        clear hb5 HP
        go_wp2_with fail
        refine (sum_any _ (HT.out.below HP5.out.bel) (Rp.came HC.out HP5.out.bel (fun _ h => h.elim)) Hby.out (by have := Hsum.out; omega)).mono ?_
        rintro e w6 ⟨rfl, hb6⟩
        rw [← HB.out, ← Hbs.out]
        have HP6 := Aside0.mk (HP5.out.below hb6)
        clear hb6 HP5
        go_wp2_with fail
        refine (hsum_any _ HP6.out.h (HT.out.below HP6.out.bel) (Hv.of_rest _) (by rw [Hv.of_m]; have := HBl.out; omega)).mono ?_
        rintro e w7 ⟨rfl, hb7⟩
        rw [Hv.of_sum, ← Hbs.out]
        have HP7 := Aside0.mk (HP6.out.below hb7)
        clear hb7 HP6
        go_wp2_with fail
        refine (sum_one (xs := B) (HT.out.below HP7.out.bel) (by rw [HM.out]; exact (Kd.R_reads' HP7.out.a).2.2) hle5 HBb.out (by have := HBl.out; omega) rfl).mono ?_
        rintro e w8 ⟨rfl, hb8⟩
        rw [← Hbs.out]
        have HB8 := Aside0.mk (below_step HP7.out.bel hb8)
        clear hb8 HP7
        go_wp2_with fail
        refine (awake_any _ (HT.out.below HB8.out)).mono ?_
        rintro e w9 ⟨rfl, hb9⟩
        have HB9 := Aside0.mk (below_step HB8.out hb9)
        clear hb9 HB8
        go_wp2_with fail
        go_ret
        exact ⟨rfl, HB9.out⟩
end Go.Proofs.YtpigkgnmegpddaaDoor.Sh
